/-
  Programs on typed data, and the proofs that the code does what they say; written by a program (dx.py).
-/
import Derived.Test.YtihomlbcppfngaaProg
import Derived.Test.YtihomlbcppfngaaDx4
import Derived.KernelRfl
import Derived.Test.YtihomlbcppfngaaDxP
import Derived.Test.YtihomlbcppfngaaDxF1
import Derived.Test.YtihomlbcppfngaaDxF2
import Derived.Test.YtihomlbcppfngaaDxF3
namespace Go.Proofs.Ytihomlbcppfngaa
open Go Go.Dw Go.Proofs
set_option maxRecDepth 100000
def dc23 : DCode := (.seq (.reg [⟨(some 3), (.box (.t 1) 3 27), none, []⟩, ⟨(some 4), (.new (.agg [.nils]) 1 30), none, []⟩] false) (.seq (.reg [⟨(some 11), (.ld 3 true (.t 3)), none, []⟩, ⟨(some 12), (.call (.c (.clo 36 [])) [(.t 11)]), none, []⟩, ⟨(some 5), (.new (.agg [.nils]) 1 30), none, []⟩, ⟨none, (.st 1 (.t 5) (.t 12)), none, []⟩] false) (.seq (.seq (.reg [⟨(some 13), (.mv (.t 0)), none, []⟩, ⟨(some 14), (.call (.c (.clo 22 [])) [(.t 13), (.c (.int .i64 3))]), none, []⟩, ⟨(some 15), (.bin .eql (.t 14) (.c (.int .i64 0))), none, []⟩] false) (.cond (.t 15) (.seq (.reg [⟨(some 16), (.ld 1 true (.t 5)), none, []⟩, ⟨none, (.st 1 (.t 4) (.t 16)), none, []⟩] false) .ret) .skip)) (.seq (.reg [⟨(some 17), (.fldA 0 (.t 5)), none, []⟩, ⟨(some 18), (.ld 1 false (.t 17)), none, []⟩, ⟨(some 19), (.app 1 43 24 (.c .nils) (.t 18)), none, []⟩, ⟨(some 20), (.bld [.nils] [⟨0, ⟨1, (.t 19)⟩⟩]), none, []⟩, ⟨(some 6), (.new (.agg [.nils]) 1 30), none, []⟩, ⟨none, (.st 1 (.t 6) (.t 20)), none, []⟩] false) (.seq (.seq (.reg [⟨(some 21), (.mv (.t 0)), none, []⟩, ⟨(some 22), (.call (.c (.clo 22 [])) [(.t 21), (.c (.int .i64 4))]), none, []⟩, ⟨(some 7), (.asg (.t 22) none), none, []⟩] false) (.block 0 (.loop (.seq (.seq (.reg [⟨(some 23), (.mv (.t 7)), none, []⟩, ⟨(some 24), (.bin .gtr (.t 23) (.c (.int .i64 0))), none, []⟩, ⟨(some 25), (.mv (.t 24)), none, []⟩, ⟨(some 26), (.fldA 1 (.t 3)), (some ⟨25, true⟩), []⟩, ⟨(some 27), (.ld 1 false (.t 26)), (some ⟨25, true⟩), []⟩, ⟨(some 28), (.len false (.t 27)), (some ⟨25, true⟩), []⟩, ⟨(some 29), (.bin .gtr (.t 28) (.c (.int .i64 0))), (some ⟨25, true⟩), []⟩, ⟨(some 30), (.pick (.t 25) (.t 29) (.c (.bool false))), none, []⟩] false) (.cond (.t 30) .skip (.exit 0))) (.seq (.block 1 (.seq (.reg [⟨(some 33), (.mv (.t 0)), none, []⟩, ⟨(some 34), (.fldA 1 (.t 3)), none, []⟩, ⟨(some 35), (.ld 1 false (.t 34)), none, []⟩, ⟨(some 36), (.len false (.t 35)), none, []⟩, ⟨(some 37), (.call (.c (.clo 22 [])) [(.t 33), (.t 36)]), none, []⟩, ⟨(some 8), (.asg (.t 37) none), none, []⟩] false) (.seq (.seq (.reg [⟨(some 38), (.mv (.t 0)), none, []⟩, ⟨(some 39), (.call (.c (.clo 22 [])) [(.t 38), (.c (.int .i64 2))]), none, []⟩, ⟨(some 40), (.bin .eql (.t 39) (.c (.int .i64 0))), none, []⟩] false) (.cond (.t 40) (.seq (.seq (.reg [⟨(some 9), (.asg (.c (.int .i64 0)) none), none, []⟩] false) (.block 2 (.loop (.seq (.seq (.reg [⟨(some 41), (.mv (.t 9)), none, []⟩, ⟨(some 42), (.fldA 0 (.t 6)), none, []⟩, ⟨(some 43), (.ld 1 false (.t 42)), none, []⟩, ⟨(some 44), (.len false (.t 43)), none, []⟩, ⟨(some 45), (.bin .lss (.t 41) (.t 44)), none, []⟩] false) (.cond (.t 45) .skip (.exit 2))) (.seq (.block 3 (.reg [⟨(some 48), (.fldA 0 (.t 6)), none, []⟩, ⟨(some 49), (.ld 1 false (.t 48)), none, [0]⟩, ⟨(some 50), (.mv (.t 9)), none, []⟩, ⟨(some 51), (.fldA 0 (.t 6)), none, []⟩, ⟨(some 52), (.ld 1 false (.t 51)), none, [3]⟩, ⟨(some 53), (.mv (.t 9)), none, []⟩, ⟨(some 54), (.ixA 1 (.t 52) (.t 53)), none, [4, 5]⟩, ⟨(some 55), (.ld 1 false (.t 54)), none, [6]⟩, ⟨(some 56), (.mv (.t 8)), none, []⟩, ⟨(some 57), (.call (.c (.clo 16 [])) [(.t 55), (.t 56)]), none, [7, 8]⟩, ⟨(some 58), (.ixA 1 (.t 49) (.t 50)), none, [1, 2, 0, 1, 2, 3, 4, 5, 6, 7, 8, 9]⟩, ⟨none, (.st 1 (.t 58) (.t 57)), none, [10, 9, 9, 0, 1, 2, 3, 4, 5, 6, 7, 8, 9]⟩] true)) (.reg [⟨(some 46), (.mv (.t 9)), none, []⟩, ⟨(some 47), (.bin .add (.t 46) (.c (.int .i64 1))), none, []⟩, ⟨(some 9), (.asg (.t 47) none), none, []⟩] false)))))) (.exit 1)) .skip)) (.seq (.reg [⟨(some 59), (.mv (.t 0)), none, []⟩, ⟨(some 60), (.fldA 0 (.t 6)), none, []⟩, ⟨(some 61), (.ld 1 false (.t 60)), none, []⟩, ⟨(some 62), (.len false (.t 61)), none, []⟩, ⟨(some 63), (.call (.c (.clo 22 [])) [(.t 59), (.t 62)]), none, []⟩, ⟨(some 10), (.asg (.t 63) none), none, []⟩] false) (.seq (.reg [⟨(some 64), (.mv (.t 0)), none, []⟩, ⟨(some 65), (.call (.c (.clo 22 [])) [(.t 64), (.c (.int .i64 2))]), none, []⟩, ⟨(some 66), (.bin .eql (.t 65) (.c (.int .i64 0))), none, []⟩] false) (.cond (.t 66) (.reg [⟨(some 67), (.fldA 0 (.t 6)), none, []⟩, ⟨(some 68), (.ld 1 false (.t 67)), none, [0]⟩, ⟨(some 69), (.mv (.t 10)), none, []⟩, ⟨(some 70), (.fldA 0 (.t 6)), none, []⟩, ⟨(some 71), (.ld 1 false (.t 70)), none, [3]⟩, ⟨(some 72), (.mv (.t 10)), none, []⟩, ⟨(some 73), (.ixA 1 (.t 71) (.t 72)), none, [4, 5]⟩, ⟨(some 74), (.ld 1 false (.t 73)), none, [6]⟩, ⟨(some 75), (.mv (.t 8)), none, []⟩, ⟨(some 76), (.call (.c (.clo 16 [])) [(.t 74), (.t 75)]), none, [7, 8]⟩, ⟨(some 77), (.ixA 1 (.t 68) (.t 69)), none, [1, 2, 0, 1, 2, 3, 4, 5, 6, 7, 8, 9]⟩, ⟨none, (.st 1 (.t 77) (.t 76)), none, [10, 9, 9, 0, 1, 2, 3, 4, 5, 6, 7, 8, 9]⟩] true) (.reg [⟨(some 78), (.fldA 0 (.t 6)), none, []⟩, ⟨(some 79), (.ld 1 false (.t 78)), none, [0]⟩, ⟨(some 80), (.mv (.t 10)), none, []⟩, ⟨(some 81), (.fldA 0 (.t 6)), none, []⟩, ⟨(some 82), (.ld 1 false (.t 81)), none, [3]⟩, ⟨(some 83), (.mv (.t 10)), none, []⟩, ⟨(some 84), (.ixA 1 (.t 82) (.t 83)), none, [4, 5]⟩, ⟨(some 85), (.ld 1 false (.t 84)), none, [6]⟩, ⟨(some 86), (.mv (.t 8)), none, []⟩, ⟨(some 87), (.call (.c (.clo 37 [])) [(.t 85), (.t 86)]), none, [7, 8]⟩, ⟨(some 88), (.ixA 1 (.t 79) (.t 80)), none, [1, 2, 0, 1, 2, 3, 4, 5, 6, 7, 8, 9]⟩, ⟨none, (.st 1 (.t 88) (.t 87)), none, [10, 9, 9, 0, 1, 2, 3, 4, 5, 6, 7, 8, 9]⟩] true))))))) (.reg [⟨(some 31), (.mv (.t 7)), none, []⟩, ⟨(some 32), (.bin .sub (.t 31) (.c (.int .i64 1))), none, []⟩, ⟨(some 7), (.asg (.t 32) none), none, []⟩] false)))))) (.seq (.seq (.reg [⟨(some 89), (.mv (.t 0)), none, []⟩, ⟨(some 90), (.call (.c (.clo 22 [])) [(.t 89), (.c (.int .i64 12))]), none, []⟩] false) (.block 4 (.seq (.reg [⟨(some 92), (.bin .eql (.t 90) (.c (.int .i64 10))), none, []⟩, ⟨(some 91), (.asg (.t 92) none), none, []⟩] false) (.cond (.t 91) (.reg [⟨(some 93), (.fldA 0 (.t 6)), none, []⟩, ⟨(some 94), (.ld 1 false (.t 93)), none, []⟩, ⟨(some 95), (.slc 1 (.t 94) (some (.c (.int .i64 1))) none), none, []⟩, ⟨(some 96), (.fldA 0 (.t 6)), none, []⟩, ⟨none, (.st 1 (.t 96) (.t 95)), none, []⟩] false) (.seq (.reg [⟨(some 98), (.bin .eql (.t 90) (.c (.int .i64 11))), none, []⟩, ⟨(some 97), (.asg (.t 98) none), none, []⟩] false) (.cond (.t 97) (.reg [⟨(some 99), (.fldA 0 (.t 6)), none, []⟩, ⟨(some 100), (.ld 1 false (.t 99)), none, [0]⟩, ⟨(some 101), (.mv (.t 0)), none, []⟩, ⟨(some 102), (.call (.c (.clo 38 [])) [(.t 101)]), none, [2]⟩, ⟨(some 103), (.mv (.t 0)), none, []⟩, ⟨(some 104), (.call (.c (.clo 38 [])) [(.t 103)]), none, [4, 3]⟩, ⟨(some 105), (.bldS 1 3 (.int .i64 0) 2 [⟨0, (.t 102)⟩, ⟨1, (.t 104)⟩]), none, [3, 5]⟩, ⟨(some 106), (.ixA 1 (.t 100) (.c (.int .i64 0))), none, [1, 0, 1, 2, 3, 4, 5, 6]⟩, ⟨none, (.st 1 (.t 106) (.t 105)), none, [7, 6, 5, 0, 1, 2, 3, 4, 5, 6]⟩] true) .skip)))))) (.seq (.reg [⟨(some 107), (.ld 1 true (.t 6)), none, []⟩, ⟨none, (.st 1 (.t 4) (.t 107)), none, []⟩] false) .ret)))))))
theorem dc23_c : (Try.f23.body.bind (cCode Try.prog Try.f23.ntmps)) = some dc23 := by kernel_rfl
theorem dc23_r : Try.f23.results.toList.mapM (cRes Try.prog) = some [(.c 4 1 true)] := by kernel_rfl
def draw_Codes_Live_enc (a : Tdraw_Codes × TFunc) : List D := [edraw_Codes a.1, eFunc a.2]
def draw_Codes_Live_dec (ds : List D) : Tdraw_Codes × TFunc := (udraw_Codes (ds.getD 0 .top), uFunc (ds.getD 1 .top))
theorem draw_Codes_Live_de (a : Tdraw_Codes × TFunc) : draw_Codes_Live_dec (draw_Codes_Live_enc a) = a := by simp [draw_Codes_Live_dec, draw_Codes_Live_enc, uI, uBo, uS]
def draw_Codes_Live_R (b : TLive × Tdraw_Codes) : D := eLive b.1
def draw_Codes_Live_E (b : TLive × Tdraw_Codes) : List D := [edraw_Codes b.2]
noncomputable def draw_Codes_Live_S : Dw.Spec := fSpec [(0, (2, 67))] .val draw_Codes_Live_enc draw_Codes_Live_dec (fun a => draw_Codes_Live a.1 a.2) draw_Codes_Live_R draw_Codes_Live_E
set_option maxHeartbeats 4000000 in
theorem draw_Codes_Live_ok : SpecOk Try.prog 23 draw_Codes_Live_S := by
  refine fn_ok (specs_ok (l := [(36, ref16_Solve_S), (22, draw_Codes_Next_S), (16, ref04_Add_S), (37, ref04_Remove_S), (38, draw_Codes_Int_S)]) (by simp [ref16_Solve_ok, draw_Codes_Next_ok, ref04_Add_ok, ref04_Remove_ok, draw_Codes_Int_ok])) Try.func23 (by decide) dc23_c dc23_r (np := 2) (by decide) draw_Codes_Live_de (fun _ => rfl) ?_
  rintro ⟨c1, f2⟩
  show Tr (specs [(36, ref16_Solve_S), (22, draw_Codes_Next_S), (16, ref04_Add_S), (37, ref04_Remove_S), (38, draw_Codes_Int_S)]) dc23 (kRet [(0, (2, 67))] .val [(.c 4 1 true)] 2 draw_Codes_Live_R draw_Codes_Live_E) ⟨[(0, .optr 0 0 0 0), (1, .agg [.int .i64 f2.Params, .sl (f2.Slots.map eSlot), .sl (f2.Code.map eInstr)])], [(0, some (0, ⟨false, true, 2, 67, [.agg [.sl (c1.list.map eU8), .int .i64 c1.at_]]⟩))], 2⟩ (draw_Codes_Live c1 f2)
  unfold dc23 draw_Codes_Live
  refine tr_seq ?_
  refine tr_reg ?_
  refine trO_box rfl rfl rfl rfl rfl ?_
  refine trO_new rfl ?_
  refine trO_nil ?_
  refine trX_seq ?_
  refine tr_seq ?_
  refine tr_reg ?_
  refine trO_ld_obj (v := .agg [.int .i64 f2.Params, .sl (f2.Slots.map eSlot), .sl (f2.Code.map eInstr)]) (z := .agg [.int .i64 f2.Params, .sl (f2.Slots.map eSlot), .sl (f2.Code.map eInstr)]) rfl rfl rfl rfl rfl rfl ?_
  refine trO_bind fun r3 hr3 => ?_
  refine trO_call_val f2 rfl rfl rfl ref16_Solve_de rfl rfl (by simp) rfl hr3 ?_
  refine trO_new rfl ?_
  refine trO_st_var (z' := .agg [.sl (r3.Out.map (eL eI64))]) rfl rfl rfl rfl rfl rfl rfl rfl rfl ?_
  refine trO_nil ?_
  refine trX_seq ?_
  refine tr_seq ?_
  refine tr_seq ?_
  refine tr_reg ?_
  refine trO_mv rfl rfl ?_
  refine trO_bind fun r4 hr4 => ?_
  refine trO_call_val (c1, 3) rfl rfl rfl draw_Codes_Next_de rfl rfl (by simp) rfl hr4 ?_
  refine trO_bin (v := .bool (r4.1 == 0)) rfl rfl rfl rfl rfl ?_
  refine trO_nil ?_
  refine trX_seq ?_
  refine tr_cond (c := (r4.1 == 0)) rfl ?_ ?_
  ·
    refine tr_seq ?_
    refine tr_reg ?_
    refine trO_ld_obj (v := .agg [.sl (r3.Out.map (eL eI64))]) (z := .agg [.sl (r3.Out.map (eL eI64))]) rfl rfl rfl rfl rfl rfl ?_
    refine trO_st_var (z' := .agg [.sl (r3.Out.map (eL eI64))]) rfl rfl rfl rfl rfl rfl rfl rfl rfl ?_
    refine trO_nil ?_
    refine trX_seq ?_
    refine tr_ret ?_
    refine trX_seq_ret ?_
    exact ret_val (b := (r3, r4.2)) rfl (by first | (simp; done) | (simp; omega)) rfl rfl (by first | (simp; done) | (simp; omega)) rfl
  ·
    refine tr_skip ?_
    refine trX_seq ?_
    refine tr_seq ?_
    refine tr_reg ?_
    refine trO_fldA rfl rfl ?_
    refine trO_ld_obj (v := .sl (r3.Out.map (eL eI64))) (z := .agg [.sl (r3.Out.map (eL eI64))]) rfl rfl rfl rfl rfl rfl ?_
    refine trO_chk fun hq => ?_
    refine trO_app (([] : List (List Int))) (r3.Out) (eL eI64) rfl rfl rfl rfl rfl rfl rfl (by simp) rfl rfl rfl (by simp) rfl (fun _ => rfl) rfl hq ?_
    refine trO_bld (cs := [.osl 19 _ 0 ((([] : List (List Int)) ++ r3.Out).length)]) (ps := [(0, 1, .osl 19 _ 0 ((([] : List (List Int)) ++ r3.Out).length))]) rfl rfl rfl rfl ?_
    refine trO_new rfl ?_
    refine trO_st_var (z' := .agg [.osl 19 _ 0 ((([] : List (List Int)) ++ r3.Out).length)]) rfl rfl rfl rfl rfl rfl rfl rfl rfl ?_
    refine trO_nil ?_
    refine trX_seq ?_
    refine tr_seq_cut (E := fun (s : (List Int) × Int × (List (List Int))) (g : Nat × Nat × Nat) => [(0, .optr 0 0 0 0), (4, .optr 4 g.1 0 0), (6, .optr 6 g.2.1 0 0)]) (O := fun s g => [(0, some (0, ⟨false, true, 2, 67, [.agg [.sl (s.1.map eU8), .int .i64 s.2.1]]⟩)), (4, some (g.1, ⟨false, true, 1, 30, [.agg [.nils]]⟩)), (6, some (g.2.1, ⟨false, true, 1, 30, [.agg [.osl 19 g.2.2 0 s.2.2.length]]⟩)), (19, some (g.2.2, ⟨false, false, 1, 43, s.2.2.map (eL eI64)⟩))]) (j := fun s => draw_Codes_Live_j1 s.1 s.2.1 s.2.2) ?_ ?_
    ·
      refine tr_seq ?_
      refine tr_reg ?_
      refine trO_mv rfl rfl ?_
      refine trO_bind fun r8 hr8 => ?_
      refine trO_call_val (r4.2, 4) rfl rfl rfl draw_Codes_Next_de rfl rfl (by simp) rfl hr8 ?_
      refine trO_asg rfl rfl ?_
      refine trO_nil ?_
      refine trX_seq ?_
      refine tr_block ?_
      refine tr_loop (E := fun (s : (List Int) × Int × (List (List Int)) × Int) (g : Nat × Nat × Nat × Nat) => [(0, .optr 0 0 0 0), (3, .optr 3 g.1 0 0), (4, .optr 4 g.2.1 0 0), (6, .optr 6 g.2.2.1 0 0), (7, .int .i64 s.2.2.2)]) (O := fun s g => [(0, some (0, ⟨false, true, 2, 67, [.agg [.sl (s.1.map eU8), .int .i64 s.2.1]]⟩)), (3, some (g.1, ⟨false, true, 3, 27, [.agg [.int .i64 f2.Params, .sl (f2.Slots.map eSlot), .sl (f2.Code.map eInstr)]]⟩)), (4, some (g.2.1, ⟨false, true, 1, 30, [.agg [.nils]]⟩)), (6, some (g.2.2.1, ⟨false, true, 1, 30, [.agg [.osl 19 g.2.2.2 0 s.2.2.1.length]]⟩)), (19, some (g.2.2.2, ⟨false, false, 1, 43, s.2.2.1.map (eL eI64)⟩))]) (body := fun s => draw_Codes_Live_b2 f2 s.1 s.2.1 s.2.2.1 s.2.2.2) (s := (r8.2.list, r8.2.at_, ([] : List (List Int)) ++ r3.Out, r8.1)) (_, _, _, _) (has_exact ⟨rfl, rfl, rfl, rfl, rfl, trivial⟩ ⟨rfl, rfl, rfl, rfl, rfl, trivial⟩) ?_
      rintro ⟨c9, c10, x11, n12⟩ ⟨v3, v4, v6, v19⟩ nn
      show Tr _ _ _ ⟨[(0, .optr 0 0 0 0), (3, .optr 3 v3 0 0), (4, .optr 4 v4 0 0), (6, .optr 6 v6 0 0), (7, .int .i64 n12)], [(0, some (0, ⟨false, true, 2, 67, [.agg [.sl (c9.map eU8), .int .i64 c10]]⟩)), (3, some (v3, ⟨false, true, 3, 27, [.agg [.int .i64 f2.Params, .sl (f2.Slots.map eSlot), .sl (f2.Code.map eInstr)]]⟩)), (4, some (v4, ⟨false, true, 1, 30, [.agg [.nils]]⟩)), (6, some (v6, ⟨false, true, 1, 30, [.agg [.osl 19 v19 0 x11.length]]⟩)), (19, some (v19, ⟨false, false, 1, 43, x11.map (eL eI64)⟩))], _⟩ (draw_Codes_Live_b2 f2 c9 c10 x11 n12)
      unfold draw_Codes_Live_b2
      refine tr_seq_cut (E := fun (s : Unit) (g : Nat × Nat × Nat × Nat) => [(0, .optr 0 0 0 0), (3, .optr 3 g.1 0 0), (4, .optr 4 g.2.1 0 0), (6, .optr 6 g.2.2.1 0 0), (7, .int .i64 n12), (26, .optr 3 g.1 0 1), (27, .sl (f2.Slots.map eSlot)), (28, .int .i64 (f2.Slots.length : Int)), (29, .bool (decide ((f2.Slots.length : Int) > 0)))]) (O := fun s g => [(0, some (0, ⟨false, true, 2, 67, [.agg [.sl (c9.map eU8), .int .i64 c10]]⟩)), (3, some (g.1, ⟨false, true, 3, 27, [.agg [.int .i64 f2.Params, .sl (f2.Slots.map eSlot), .sl (f2.Code.map eInstr)]]⟩)), (4, some (g.2.1, ⟨false, true, 1, 30, [.agg [.nils]]⟩)), (6, some (g.2.2.1, ⟨false, true, 1, 30, [.agg [.osl 19 g.2.2.2 0 x11.length]]⟩)), (19, some (g.2.2.2, ⟨false, false, 1, 43, x11.map (eL eI64)⟩))]) (j := fun s => draw_Codes_Live_j3 c9 c10 f2 n12 x11) ?_ ?_
      ·
        refine tr_seq ?_
        refine tr_reg ?_
        refine trO_mv rfl rfl ?_
        refine trO_bin (v := .bool (decide (n12 > 0))) rfl rfl rfl rfl rfl ?_
        refine trO_mv rfl rfl ?_
        refine trO_split 25 (b := (decide (n12 > 0))) rfl ?_ ?_
        ·
          refine trO_fldA rfl rfl ?_
          refine trO_ld_obj (v := .sl (f2.Slots.map eSlot)) (z := .agg [.int .i64 f2.Params, .sl (f2.Slots.map eSlot), .sl (f2.Code.map eInstr)]) rfl rfl rfl rfl rfl rfl ?_
          refine trO_len_sl rfl rfl ?_
          refine trO_bin (v := .bool (decide ((f2.Slots.length : Int) > 0))) rfl rfl rfl rfl rfl ?_
          refine trO_pick_true rfl rfl rfl rfl ?_
          refine trO_nil ?_
          refine trX_seq ?_
          refine tr_cond (c := (decide ((f2.Slots.length : Int) > 0))) rfl ?_ ?_
          ·
            refine tr_skip ?_
            exact trX_cut (s := ()) (_, _, _, _) (has_exact ⟨rfl, rfl, rfl, rfl, rfl, rfl, rfl, rfl, rfl, trivial⟩ ⟨rfl, rfl, rfl, rfl, rfl, trivial⟩)
          ·
            refine tr_exit ?_
            refine trX_cut_exit ?_
            refine trX_loop_exit ?_
            refine trX_blk_here ?_
            exact trX_cut (s := (c9, c10, x11)) (_, _, _) (has_exact ⟨rfl, rfl, rfl, trivial⟩ ⟨rfl, rfl, rfl, rfl, trivial⟩)
        ·
          refine trO_off rfl ?_
          refine trO_off rfl ?_
          refine trO_off rfl ?_
          refine trO_off rfl ?_
          refine trO_pick_false rfl rfl rfl rfl ?_
          refine trO_nil ?_
          refine trX_seq ?_
          refine tr_cond_false rfl ?_
          refine tr_exit ?_
          refine trX_cut_exit ?_
          refine trX_loop_exit ?_
          refine trX_blk_here ?_
          exact trX_cut (s := (c9, c10, x11)) (_, _, _) (has_exact ⟨rfl, rfl, rfl, trivial⟩ ⟨rfl, rfl, rfl, rfl, trivial⟩)
      ·
        rintro ⟨⟩ ⟨v3, v4, v6, v19⟩ nn
        show Tr _ _ _ ⟨[(0, .optr 0 0 0 0), (3, .optr 3 v3 0 0), (4, .optr 4 v4 0 0), (6, .optr 6 v6 0 0), (7, .int .i64 n12), (26, .optr 3 v3 0 1), (27, .sl (f2.Slots.map eSlot)), (28, .int .i64 (f2.Slots.length : Int)), (29, .bool (decide ((f2.Slots.length : Int) > 0)))], [(0, some (0, ⟨false, true, 2, 67, [.agg [.sl (c9.map eU8), .int .i64 c10]]⟩)), (3, some (v3, ⟨false, true, 3, 27, [.agg [.int .i64 f2.Params, .sl (f2.Slots.map eSlot), .sl (f2.Code.map eInstr)]]⟩)), (4, some (v4, ⟨false, true, 1, 30, [.agg [.nils]]⟩)), (6, some (v6, ⟨false, true, 1, 30, [.agg [.osl 19 v19 0 x11.length]]⟩)), (19, some (v19, ⟨false, false, 1, 43, x11.map (eL eI64)⟩))], _⟩ (draw_Codes_Live_j3 c9 c10 f2 n12 x11)
        unfold draw_Codes_Live_j3
        refine tr_seq_blk_cut (E := fun (s : (List Int) × Int × (List (List Int))) (g : Nat × Nat × Nat × Nat) => [(0, .optr 0 0 0 0), (3, .optr 3 g.1 0 0), (4, .optr 4 g.2.1 0 0), (6, .optr 6 g.2.2.1 0 0), (7, .int .i64 n12), (26, .optr 3 g.1 0 1), (27, .sl (f2.Slots.map eSlot)), (28, .int .i64 (f2.Slots.length : Int)), (29, .bool (decide ((f2.Slots.length : Int) > 0)))]) (O := fun s g => [(0, some (0, ⟨false, true, 2, 67, [.agg [.sl (s.1.map eU8), .int .i64 s.2.1]]⟩)), (3, some (g.1, ⟨false, true, 3, 27, [.agg [.int .i64 f2.Params, .sl (f2.Slots.map eSlot), .sl (f2.Code.map eInstr)]]⟩)), (4, some (g.2.1, ⟨false, true, 1, 30, [.agg [.nils]]⟩)), (6, some (g.2.2.1, ⟨false, true, 1, 30, [.agg [.osl 19 g.2.2.2 0 s.2.2.length]]⟩)), (19, some (g.2.2.2, ⟨false, false, 1, 43, s.2.2.map (eL eI64)⟩))]) (j := fun s => draw_Codes_Live_j4 n12 s.1 s.2.1 s.2.2) ?_ ?_
        ·
          refine tr_seq ?_
          refine tr_reg ?_
          refine trO_mv rfl rfl ?_
          refine trO_fldA rfl rfl ?_
          refine trO_ld_obj (v := .sl (f2.Slots.map eSlot)) (z := .agg [.int .i64 f2.Params, .sl (f2.Slots.map eSlot), .sl (f2.Code.map eInstr)]) rfl rfl rfl rfl rfl rfl ?_
          refine trO_len_sl rfl rfl ?_
          refine trO_bind fun r16 hr16 => ?_
          refine trO_call_val ((Tdraw_Codes.mk c9 c10), (f2.Slots.length : Int)) rfl rfl rfl draw_Codes_Next_de rfl rfl (by simp) rfl hr16 ?_
          refine trO_asg rfl rfl ?_
          refine trO_nil ?_
          refine trX_seq ?_
          refine tr_seq ?_
          refine tr_seq ?_
          refine tr_reg ?_
          refine trO_mv rfl rfl ?_
          refine trO_bind fun r17 hr17 => ?_
          refine trO_call_val (r16.2, 2) rfl rfl rfl draw_Codes_Next_de rfl rfl (by simp) rfl hr17 ?_
          refine trO_bin (v := .bool (r17.1 == 0)) rfl rfl rfl rfl rfl ?_
          refine trO_nil ?_
          refine trX_seq ?_
          refine tr_cond (c := (r17.1 == 0)) rfl ?_ ?_
          ·
            refine tr_seq ?_
            refine tr_seq ?_
            refine tr_reg ?_
            refine trO_asg rfl rfl ?_
            refine trO_nil ?_
            refine trX_seq ?_
            refine tr_block ?_
            refine tr_loop (E := fun (s : (List (List Int)) × Int) (g : Nat × Nat × Nat × Nat) => [(0, .optr 0 0 0 0), (3, .optr 3 g.1 0 0), (4, .optr 4 g.2.1 0 0), (6, .optr 6 g.2.2.1 0 0), (7, .int .i64 n12), (8, .int .i64 r16.1), (9, .int .i64 s.2), (26, .optr 3 g.1 0 1), (27, .sl (f2.Slots.map eSlot)), (28, .int .i64 (f2.Slots.length : Int)), (29, .bool (decide ((f2.Slots.length : Int) > 0)))]) (O := fun s g => [(0, some (0, ⟨false, true, 2, 67, [.agg [.sl (r17.2.list.map eU8), .int .i64 r17.2.at_]]⟩)), (3, some (g.1, ⟨false, true, 3, 27, [.agg [.int .i64 f2.Params, .sl (f2.Slots.map eSlot), .sl (f2.Code.map eInstr)]]⟩)), (4, some (g.2.1, ⟨false, true, 1, 30, [.agg [.nils]]⟩)), (6, some (g.2.2.1, ⟨false, true, 1, 30, [.agg [.osl 19 g.2.2.2 0 s.1.length]]⟩)), (19, some (g.2.2.2, ⟨false, false, 1, 43, s.1.map (eL eI64)⟩))]) (body := fun s => draw_Codes_Live_b5 r16 n12 r17 s.1 s.2) (s := (x11, 0)) (_, _, _, _) (has_exact ⟨rfl, rfl, rfl, rfl, rfl, rfl, rfl, rfl, rfl, rfl, rfl, trivial⟩ ⟨rfl, rfl, rfl, rfl, rfl, trivial⟩) ?_
            rintro ⟨x18, k19⟩ ⟨v3, v4, v6, v19⟩ nn
            show Tr _ _ _ ⟨[(0, .optr 0 0 0 0), (3, .optr 3 v3 0 0), (4, .optr 4 v4 0 0), (6, .optr 6 v6 0 0), (7, .int .i64 n12), (8, .int .i64 r16.1), (9, .int .i64 k19), (26, .optr 3 v3 0 1), (27, .sl (f2.Slots.map eSlot)), (28, .int .i64 (f2.Slots.length : Int)), (29, .bool (decide ((f2.Slots.length : Int) > 0)))], [(0, some (0, ⟨false, true, 2, 67, [.agg [.sl (r17.2.list.map eU8), .int .i64 r17.2.at_]]⟩)), (3, some (v3, ⟨false, true, 3, 27, [.agg [.int .i64 f2.Params, .sl (f2.Slots.map eSlot), .sl (f2.Code.map eInstr)]]⟩)), (4, some (v4, ⟨false, true, 1, 30, [.agg [.nils]]⟩)), (6, some (v6, ⟨false, true, 1, 30, [.agg [.osl 19 v19 0 x18.length]]⟩)), (19, some (v19, ⟨false, false, 1, 43, x18.map (eL eI64)⟩))], _⟩ (draw_Codes_Live_b5 r16 n12 r17 x18 k19)
            unfold draw_Codes_Live_b5
            refine tr_seq ?_
            refine tr_seq ?_
            refine tr_reg ?_
            refine trO_mv rfl rfl ?_
            refine trO_fldA rfl rfl ?_
            refine trO_ld_obj (v := .osl 19 _ 0 x18.length) (z := .agg [.osl 19 _ 0 x18.length]) rfl rfl rfl rfl rfl rfl ?_
            refine trO_len_own rfl rfl ?_
            refine trO_bin (v := .bool (decide (k19 < (x18.length : Int)))) rfl rfl rfl rfl rfl ?_
            refine trO_nil ?_
            refine trX_seq ?_
            refine tr_cond (c := (decide (k19 < (x18.length : Int)))) rfl ?_ ?_
            ·
              refine tr_skip ?_
              refine trX_seq ?_
              refine tr_seq ?_
              refine tr_block ?_
              refine tr_reg ?_
              refine trO_fldA rfl rfl ?_
              refine trO_ld_obj (v := .osl 19 _ 0 x18.length) (z := .agg [.osl 19 _ 0 x18.length]) rfl rfl rfl rfl rfl rfl ?_
              refine trO_mv rfl rfl ?_
              refine trO_fldA rfl rfl ?_
              refine trO_ld_obj (v := .osl 19 _ 0 x18.length) (z := .agg [.osl 19 _ 0 x18.length]) rfl rfl rfl rfl rfl rfl ?_
              refine trO_mv rfl rfl ?_
              refine trO_chk fun hq => ?_
              refine trO_ixA_own (l := x18) (en := (eL eI64)) rfl rfl rfl rfl rfl hq ?_
              refine trO_bind fun x_e20 hx_e20 => ?_
              refine trO_ld_obj (v := .sl (x_e20.map eI64)) (z := (eL eI64) x_e20) rfl rfl rfl (map_get hx_e20) rfl rfl ?_
              refine trO_mv rfl rfl ?_
              refine trO_bind fun r21 hr21 => ?_
              refine trO_call_row (l := r21) (en := eI64) (x_e20, r16.1) rfl rfl rfl ref04_Add_de rfl rfl (by simp) rfl hr21 rfl ?_
              refine trO_chk fun hq => ?_
              refine trO_ixA_own (l := x18) (en := (eL eI64)) rfl rfl rfl rfl rfl hq ?_
              refine trO_bind fun x_o22 hx_o22 => ?_
              refine trO_st_elem (l := x18) (en := (eL eI64)) (q' := r21) rfl rfl rfl rfl rfl rfl rfl (by simp) hx_o22 rfl rfl rfl (by simp [setE, cells, setAt, eL]) rfl ?_
              refine trO_nil_draw (by kernel_rfl) ?_
              refine trX_blk_normal ?_
              refine trX_seq ?_
              refine tr_reg ?_
              refine trO_mv rfl rfl ?_
              refine trO_bin (v := .int .i64 (IntKind.i64.wrap (k19 + 1))) rfl rfl rfl rfl rfl ?_
              refine trO_asg rfl rfl ?_
              refine trO_nil ?_
              exact trX_loop (s := (x18.set k19.toNat r21, IntKind.i64.wrap (k19 + 1))) (_, _, _, _) (has_exact ⟨rfl, rfl, rfl, rfl, rfl, rfl, rfl, rfl, rfl, rfl, rfl, trivial⟩ ⟨rfl, rfl, rfl, (Eq.trans (b := some (_, ⟨false, true, 1, 30, [.agg [.osl 19 _ 0 x18.length]]⟩)) rfl (by simp)), rfl, trivial⟩)
            ·
              refine tr_exit ?_
              refine trX_seq_exit ?_
              refine trX_loop_exit ?_
              refine trX_blk_here ?_
              refine trX_seq ?_
              refine tr_exit ?_
              refine trX_seq_exit ?_
              exact trX_bcut_here (s := (r17.2.list, r17.2.at_, x18)) (_, _, _, _) (has_exact ⟨rfl, rfl, rfl, rfl, rfl, rfl, rfl, rfl, rfl, trivial⟩ ⟨rfl, rfl, rfl, rfl, rfl, trivial⟩)
          ·
            refine tr_skip ?_
            refine trX_seq ?_
            refine tr_seq ?_
            refine tr_reg ?_
            refine trO_mv rfl rfl ?_
            refine trO_fldA rfl rfl ?_
            refine trO_ld_obj (v := .osl 19 _ 0 x11.length) (z := .agg [.osl 19 _ 0 x11.length]) rfl rfl rfl rfl rfl rfl ?_
            refine trO_len_own rfl rfl ?_
            refine trO_bind fun r23 hr23 => ?_
            refine trO_call_val (r17.2, (x11.length : Int)) rfl rfl rfl draw_Codes_Next_de rfl rfl (by simp) rfl hr23 ?_
            refine trO_asg rfl rfl ?_
            refine trO_nil ?_
            refine trX_seq ?_
            refine tr_seq ?_
            refine tr_reg ?_
            refine trO_mv rfl rfl ?_
            refine trO_bind fun r24 hr24 => ?_
            refine trO_call_val (r23.2, 2) rfl rfl rfl draw_Codes_Next_de rfl rfl (by simp) rfl hr24 ?_
            refine trO_bin (v := .bool (r24.1 == 0)) rfl rfl rfl rfl rfl ?_
            refine trO_nil ?_
            refine trX_seq ?_
            refine tr_cond (c := (r24.1 == 0)) rfl ?_ ?_
            ·
              refine tr_reg ?_
              refine trO_fldA rfl rfl ?_
              refine trO_ld_obj (v := .osl 19 _ 0 x11.length) (z := .agg [.osl 19 _ 0 x11.length]) rfl rfl rfl rfl rfl rfl ?_
              refine trO_mv rfl rfl ?_
              refine trO_fldA rfl rfl ?_
              refine trO_ld_obj (v := .osl 19 _ 0 x11.length) (z := .agg [.osl 19 _ 0 x11.length]) rfl rfl rfl rfl rfl rfl ?_
              refine trO_mv rfl rfl ?_
              refine trO_chk fun hq => ?_
              refine trO_ixA_own (l := x11) (en := (eL eI64)) rfl rfl rfl rfl rfl hq ?_
              refine trO_bind fun x_e25 hx_e25 => ?_
              refine trO_ld_obj (v := .sl (x_e25.map eI64)) (z := (eL eI64) x_e25) rfl rfl rfl (map_get hx_e25) rfl rfl ?_
              refine trO_mv rfl rfl ?_
              refine trO_bind fun r26 hr26 => ?_
              refine trO_call_row (l := r26) (en := eI64) (x_e25, r16.1) rfl rfl rfl ref04_Add_de rfl rfl (by simp) rfl hr26 rfl ?_
              refine trO_chk fun hq => ?_
              refine trO_ixA_own (l := x11) (en := (eL eI64)) rfl rfl rfl rfl rfl hq ?_
              refine trO_bind fun x_o27 hx_o27 => ?_
              refine trO_st_elem (l := x11) (en := (eL eI64)) (q' := r26) rfl rfl rfl rfl rfl rfl rfl (by simp) hx_o27 rfl rfl rfl (by simp [setE, cells, setAt, eL]) rfl ?_
              refine trO_nil_draw (by kernel_rfl) ?_
              exact trX_bcut_normal (s := (r24.2.list, r24.2.at_, x11.set r23.1.toNat r26)) (_, _, _, _) (has_exact ⟨rfl, rfl, rfl, rfl, rfl, rfl, rfl, rfl, rfl, trivial⟩ ⟨rfl, rfl, rfl, (Eq.trans (b := some (_, ⟨false, true, 1, 30, [.agg [.osl 19 _ 0 x11.length]]⟩)) rfl (by simp)), rfl, trivial⟩)
            ·
              refine tr_reg ?_
              refine trO_fldA rfl rfl ?_
              refine trO_ld_obj (v := .osl 19 _ 0 x11.length) (z := .agg [.osl 19 _ 0 x11.length]) rfl rfl rfl rfl rfl rfl ?_
              refine trO_mv rfl rfl ?_
              refine trO_fldA rfl rfl ?_
              refine trO_ld_obj (v := .osl 19 _ 0 x11.length) (z := .agg [.osl 19 _ 0 x11.length]) rfl rfl rfl rfl rfl rfl ?_
              refine trO_mv rfl rfl ?_
              refine trO_chk fun hq => ?_
              refine trO_ixA_own (l := x11) (en := (eL eI64)) rfl rfl rfl rfl rfl hq ?_
              refine trO_bind fun x_e28 hx_e28 => ?_
              refine trO_ld_obj (v := .sl (x_e28.map eI64)) (z := (eL eI64) x_e28) rfl rfl rfl (map_get hx_e28) rfl rfl ?_
              refine trO_mv rfl rfl ?_
              refine trO_bind fun r29 hr29 => ?_
              refine trO_call_row (l := r29) (en := eI64) (x_e28, r16.1) rfl rfl rfl ref04_Remove_de rfl rfl (by simp) rfl hr29 rfl ?_
              refine trO_chk fun hq => ?_
              refine trO_ixA_own (l := x11) (en := (eL eI64)) rfl rfl rfl rfl rfl hq ?_
              refine trO_bind fun x_o30 hx_o30 => ?_
              refine trO_st_elem (l := x11) (en := (eL eI64)) (q' := r29) rfl rfl rfl rfl rfl rfl rfl (by simp) hx_o30 rfl rfl rfl (by simp [setE, cells, setAt, eL]) rfl ?_
              refine trO_nil_draw (by kernel_rfl) ?_
              exact trX_bcut_normal (s := (r24.2.list, r24.2.at_, x11.set r23.1.toNat r29)) (_, _, _, _) (has_exact ⟨rfl, rfl, rfl, rfl, rfl, rfl, rfl, rfl, rfl, trivial⟩ ⟨rfl, rfl, rfl, (Eq.trans (b := some (_, ⟨false, true, 1, 30, [.agg [.osl 19 _ 0 x11.length]]⟩)) rfl (by simp)), rfl, trivial⟩)
        ·
          rintro ⟨c13, c14, x15⟩ ⟨v3, v4, v6, v19⟩ nn
          show Tr _ _ _ ⟨[(0, .optr 0 0 0 0), (3, .optr 3 v3 0 0), (4, .optr 4 v4 0 0), (6, .optr 6 v6 0 0), (7, .int .i64 n12), (26, .optr 3 v3 0 1), (27, .sl (f2.Slots.map eSlot)), (28, .int .i64 (f2.Slots.length : Int)), (29, .bool (decide ((f2.Slots.length : Int) > 0)))], [(0, some (0, ⟨false, true, 2, 67, [.agg [.sl (c13.map eU8), .int .i64 c14]]⟩)), (3, some (v3, ⟨false, true, 3, 27, [.agg [.int .i64 f2.Params, .sl (f2.Slots.map eSlot), .sl (f2.Code.map eInstr)]]⟩)), (4, some (v4, ⟨false, true, 1, 30, [.agg [.nils]]⟩)), (6, some (v6, ⟨false, true, 1, 30, [.agg [.osl 19 v19 0 x15.length]]⟩)), (19, some (v19, ⟨false, false, 1, 43, x15.map (eL eI64)⟩))], _⟩ (draw_Codes_Live_j4 n12 c13 c14 x15)
          unfold draw_Codes_Live_j4
          refine tr_reg ?_
          refine trO_mv rfl rfl ?_
          refine trO_bin (v := .int .i64 (IntKind.i64.wrap (n12 - 1))) rfl rfl rfl rfl rfl ?_
          refine trO_asg rfl rfl ?_
          refine trO_nil ?_
          exact trX_loop (s := (c13, c14, x15, IntKind.i64.wrap (n12 - 1))) (_, _, _, _) (has_exact ⟨rfl, rfl, rfl, rfl, rfl, trivial⟩ ⟨rfl, rfl, rfl, rfl, rfl, trivial⟩)
    ·
      rintro ⟨c5, c6, x7⟩ ⟨v4, v6, v19⟩ nn
      show Tr _ _ _ ⟨[(0, .optr 0 0 0 0), (4, .optr 4 v4 0 0), (6, .optr 6 v6 0 0)], [(0, some (0, ⟨false, true, 2, 67, [.agg [.sl (c5.map eU8), .int .i64 c6]]⟩)), (4, some (v4, ⟨false, true, 1, 30, [.agg [.nils]]⟩)), (6, some (v6, ⟨false, true, 1, 30, [.agg [.osl 19 v19 0 x7.length]]⟩)), (19, some (v19, ⟨false, false, 1, 43, x7.map (eL eI64)⟩))], _⟩ (draw_Codes_Live_j1 c5 c6 x7)
      unfold draw_Codes_Live_j1
      refine tr_seq ?_
      refine tr_seq ?_
      refine tr_reg ?_
      refine trO_mv rfl rfl ?_
      refine trO_bind fun r31 hr31 => ?_
      refine trO_call_val ((Tdraw_Codes.mk c5 c6), 12) rfl rfl rfl draw_Codes_Next_de rfl rfl (by simp) rfl hr31 ?_
      refine trO_nil ?_
      refine trX_seq ?_
      refine tr_block ?_
      refine tr_seq ?_
      refine tr_reg ?_
      refine trO_bin (v := .bool (r31.1 == 10)) rfl rfl rfl rfl rfl ?_
      refine trO_asg rfl rfl ?_
      refine trO_nil ?_
      refine trX_seq ?_
      refine tr_cond (c := (r31.1 == 10)) rfl ?_ ?_
      ·
        refine tr_reg ?_
        refine trO_fldA rfl rfl ?_
        refine trO_ld_obj (v := .osl 19 _ 0 x7.length) (z := .agg [.osl 19 _ 0 x7.length]) rfl rfl rfl rfl rfl rfl ?_
        refine trO_chk fun hq => ?_
        refine trO_slc_own_lo (l := x7) rfl rfl rfl rfl rfl rfl hq ?_
        refine trO_fldA rfl rfl ?_
        refine trO_st_var (z' := .agg [.osl 19 _ ((1 : Int).toNat) (x7.length - (1 : Int).toNat)]) rfl rfl rfl rfl rfl rfl rfl rfl rfl ?_
        refine trO_nil ?_
        refine trX_blk_normal ?_
        refine trX_seq ?_
        refine tr_seq ?_
        refine tr_reg ?_
        refine trO_ld_obj (v := .agg [.osl 19 _ ((1 : Int).toNat) (x7.length - (1 : Int).toNat)]) (z := .agg [.osl 19 _ ((1 : Int).toNat) (x7.length - (1 : Int).toNat)]) rfl rfl rfl rfl rfl rfl ?_
        refine trO_st_var (z' := .agg [.osl 19 _ ((1 : Int).toNat) (x7.length - (1 : Int).toNat)]) rfl rfl rfl rfl rfl rfl rfl rfl rfl ?_
        refine trO_nil ?_
        refine trX_seq ?_
        refine tr_ret ?_
        exact ret_val (b := ((TLive.mk (x7.drop ((1 : Int).toNat))), r31.2)) rfl (by first | (simp; done) | (simp; omega)) rfl rfl (by first | (simp; done) | (simp; omega)) (by first | rfl | (simp only [take_drop0_map, take_sub_map]; rfl) | simp [draw_Codes_Live_R, eLive])
      ·
        refine tr_seq ?_
        refine tr_reg ?_
        refine trO_bin (v := .bool (r31.1 == 11)) rfl rfl rfl rfl rfl ?_
        refine trO_asg rfl rfl ?_
        refine trO_nil ?_
        refine trX_seq ?_
        refine tr_cond (c := (r31.1 == 11)) rfl ?_ ?_
        ·
          refine tr_reg ?_
          refine trO_fldA rfl rfl ?_
          refine trO_ld_obj (v := .osl 19 _ 0 x7.length) (z := .agg [.osl 19 _ 0 x7.length]) rfl rfl rfl rfl rfl rfl ?_
          refine trO_mv rfl rfl ?_
          refine trO_bind fun r32 hr32 => ?_
          refine trO_call_val r31.2 rfl rfl rfl draw_Codes_Int_de rfl rfl (by simp) rfl hr32 ?_
          refine trO_mv rfl rfl ?_
          refine trO_bind fun r33 hr33 => ?_
          refine trO_call_val r32.2 rfl rfl rfl draw_Codes_Int_de rfl rfl (by simp) rfl hr33 ?_
          refine trO_bldS ([r32.1, r33.1] : List Int) eI64 rfl rfl rfl (by simp) rfl rfl rfl ?_
          refine trO_chk fun hq => ?_
          refine trO_ixA_own (l := x7) (en := (eL eI64)) rfl rfl rfl rfl rfl hq ?_
          refine trO_bind fun x_o34 hx_o34 => ?_
          refine trO_st_elem (l := x7) (en := (eL eI64)) (q' := ([r32.1, r33.1] : List Int)) rfl rfl rfl rfl rfl rfl rfl (by simp) hx_o34 rfl rfl rfl (by simp [setE, cells, setAt, eL]) rfl ?_
          refine trO_nil_draw (by kernel_rfl) ?_
          refine trX_blk_normal ?_
          refine trX_seq ?_
          refine tr_seq ?_
          refine tr_reg ?_
          refine trO_ld_obj (v := .agg [.osl 19 _ 0 x7.length]) (z := .agg [.osl 19 _ 0 x7.length]) rfl rfl rfl rfl rfl rfl ?_
          refine trO_st_var (z' := .agg [.osl 19 _ 0 x7.length]) rfl rfl rfl rfl rfl rfl rfl rfl rfl ?_
          refine trO_nil ?_
          refine trX_seq ?_
          refine tr_ret ?_
          exact ret_val (b := ((TLive.mk (x7.set ((0 : Int).toNat) ([r32.1, r33.1] : List Int))), r33.2)) rfl (by first | (simp; done) | (simp; omega)) rfl rfl (by first | (simp; done) | (simp; omega)) (by first | rfl | (simp only [take_drop0_map, take_sub_map]; rfl) | simp [draw_Codes_Live_R, eLive])
        ·
          refine tr_skip ?_
          refine trX_blk_normal ?_
          refine trX_seq ?_
          refine tr_seq ?_
          refine tr_reg ?_
          refine trO_ld_obj (v := .agg [.osl 19 _ 0 x7.length]) (z := .agg [.osl 19 _ 0 x7.length]) rfl rfl rfl rfl rfl rfl ?_
          refine trO_st_var (z' := .agg [.osl 19 _ 0 x7.length]) rfl rfl rfl rfl rfl rfl rfl rfl rfl ?_
          refine trO_nil ?_
          refine trX_seq ?_
          refine tr_ret ?_
          exact ret_val (b := ((TLive.mk x7), r31.2)) rfl (by first | (simp; done) | (simp; omega)) rfl rfl (by first | (simp; done) | (simp; omega)) (by first | rfl | (simp only [take_drop0_map, take_sub_map]; rfl) | simp [draw_Codes_Live_R, eLive])

def dc7 : DCode := (.seq (.reg [⟨(some 2), (.new (.agg [(.int .i64 0), .nils, .nils]) 3 27), none, []⟩, ⟨(some 3), (.new (.agg [.nils]) 1 30), none, []⟩, ⟨(some 4), (.asg (.c .top) none), none, []⟩] false) (.seq (.reg [⟨(some 8), (.mv (.t 0)), none, []⟩, ⟨(some 9), (.call (.c (.clo 14 [])) [(.t 8), (.c (.int .i64 250))]), none, []⟩, ⟨(some 5), (.asg (.t 9) none), none, []⟩] false) (.seq (.reg [⟨(some 10), (.mv (.t 5)), none, []⟩, ⟨(some 11), (.call (.c (.clo 21 [])) [(.t 10), (.c (.int .i64 3)), (.c (.int .i64 16))]), none, []⟩, ⟨(some 6), (.new (.agg [.nils]) 1 55), none, []⟩, ⟨none, (.st 1 (.t 6) (.t 11)), none, []⟩] false) (.seq (.reg [⟨(some 12), (.fldA 0 (.t 6)), none, []⟩, ⟨(some 13), (.ld 1 false (.t 12)), none, [0]⟩, ⟨(some 14), (.mv (.t 5)), none, []⟩, ⟨(some 15), (.fldA 0 (.t 6)), none, []⟩, ⟨(some 16), (.ld 1 false (.t 15)), none, [3]⟩, ⟨(some 17), (.len false (.t 16)), none, [4]⟩, ⟨(some 18), (.call (.c (.clo 22 [])) [(.t 14), (.t 17)]), none, [2, 5]⟩, ⟨(some 19), (.ixA 3 (.t 13) (.t 18)), none, [1, 6]⟩, ⟨(some 20), (.ld 3 true (.t 19)), none, [7]⟩, ⟨(some 7), (.new (.agg [(.int .i64 0), .nils, .nils]) 3 27), none, []⟩, ⟨none, (.st 3 (.t 7) (.t 20)), none, [9, 8, 6, 0, 1, 2, 3, 4, 5, 6, 7, 8, 9]⟩] true) (.seq (.reg [⟨(some 21), (.ld 3 true (.t 7)), none, []⟩, ⟨(some 22), (.mv (.t 5)), none, []⟩, ⟨(some 23), (.ld 3 true (.t 7)), none, []⟩, ⟨(some 24), (.call (.c (.clo 23 [])) [(.t 22), (.t 23)]), none, [1, 2]⟩, ⟨(some 25), (.mv (.t 5)), none, []⟩, ⟨none, (.st 3 (.t 2) (.t 21)), none, [0, 3, 0]⟩, ⟨none, (.st 1 (.t 3) (.t 24)), none, [3, 5, 0, 1, 2, 3, 5]⟩, ⟨(some 4), (.asg (.t 25) none), none, [4, 6, 0, 1, 2, 3, 4, 5, 6]⟩] true) .ret)))))
theorem dc7_c : (Try.f7.body.bind (cCode Try.prog Try.f7.ntmps)) = some dc7 := by kernel_rfl
theorem dc7_r : Try.f7.results.toList.mapM (cRes Try.prog) = some [(.c 2 3 true), (.c 3 1 true), (.t 4)] := by kernel_rfl
def law18_scene_enc (a : (List Int)) : List D := [.sl (a.map eU8)]
def law18_scene_dec (ds : List D) : (List Int) := (uL uI) (ds.getD 0 .top)
theorem law18_scene_de (a : (List Int)) : law18_scene_dec (law18_scene_enc a) = a := by simp [law18_scene_dec, law18_scene_enc, uI, uBo, uS, uL_e (u := uI) (en := eU8) (fun _ => rfl)]
def law18_scene_R (b : TFunc × TLive × Tdraw_Codes) : D := .tup [eFunc b.1, eLive b.2.1, edraw_Codes b.2.2]
def law18_scene_E (_b : TFunc × TLive × Tdraw_Codes) : List D := []
noncomputable def law18_scene_S : Dw.Spec := fSpec [] (.tupPtr 2 2 67) law18_scene_enc law18_scene_dec (fun a => law18_scene a) law18_scene_R law18_scene_E
set_option maxHeartbeats 4000000 in
theorem law18_scene_ok : SpecOk Try.prog 7 law18_scene_S := by
  refine fn_ok (specs_ok (l := [(14, draw_New_S), (21, draw_Codes_Program_S), (22, draw_Codes_Next_S), (23, draw_Codes_Live_S)]) (by simp [draw_New_ok, draw_Codes_Program_ok, draw_Codes_Next_ok, draw_Codes_Live_ok])) Try.func7 (by decide) dc7_c dc7_r (np := 1) (by decide) law18_scene_de (fun _ => rfl) ?_
  intro codes1
  show Tr (specs [(14, draw_New_S), (21, draw_Codes_Program_S), (22, draw_Codes_Next_S), (23, draw_Codes_Live_S)]) dc7 (kRet [] (.tupPtr 2 2 67) [(.c 2 3 true), (.c 3 1 true), (.t 4)] 1 law18_scene_R law18_scene_E) ⟨[(0, .sl (codes1.map eU8))], [], 1⟩ (law18_scene codes1)
  unfold dc7 law18_scene
  refine tr_seq ?_
  refine tr_reg ?_
  refine trO_new rfl ?_
  refine trO_new rfl ?_
  refine trO_asg rfl rfl ?_
  refine trO_nil ?_
  refine trX_seq ?_
  refine tr_seq ?_
  refine tr_reg ?_
  refine trO_mv rfl rfl ?_
  refine trO_bind fun r2 hr2 => ?_
  refine trO_call_ptr (codes1, 250) rfl rfl rfl draw_New_de rfl rfl (by simp) rfl hr2 ?_
  refine trO_asg rfl rfl ?_
  refine trO_nil ?_
  refine trX_seq ?_
  refine tr_seq ?_
  refine tr_reg ?_
  refine trO_mv rfl rfl ?_
  refine trO_bind fun r3 hr3 => ?_
  refine trO_call_val (r2, 3, 16) rfl rfl rfl draw_Codes_Program_de rfl rfl (by simp) rfl hr3 ?_
  refine trO_new rfl ?_
  refine trO_st_var (z' := .agg [.sl (r3.1.Funcs.map eFunc)]) rfl rfl rfl rfl rfl rfl rfl rfl rfl ?_
  refine trO_nil ?_
  refine trX_seq ?_
  refine tr_seq ?_
  refine tr_reg ?_
  refine trO_fldA rfl rfl ?_
  refine trO_ld_obj (v := .sl (r3.1.Funcs.map eFunc)) (z := .agg [.sl (r3.1.Funcs.map eFunc)]) rfl rfl rfl rfl rfl rfl ?_
  refine trO_mv rfl rfl ?_
  refine trO_fldA rfl rfl ?_
  refine trO_ld_obj (v := .sl (r3.1.Funcs.map eFunc)) (z := .agg [.sl (r3.1.Funcs.map eFunc)]) rfl rfl rfl rfl rfl rfl ?_
  refine trO_len_sl rfl rfl ?_
  refine trO_bind fun r4 hr4 => ?_
  refine trO_call_val (r3.2, (r3.1.Funcs.length : Int)) rfl rfl rfl draw_Codes_Next_de rfl rfl (by simp) rfl hr4 ?_
  refine trO_bind fun x_x5 hx_x5 => ?_
  refine trO_ixA_sl (en := eFunc) rfl rfl rfl hx_x5 rfl ?_
  refine trO_ld_f (v := .agg [.int .i64 x_x5.Params, .sl (x_x5.Slots.map eSlot), .sl (x_x5.Code.map eInstr)]) rfl rfl rfl rfl ?_
  refine trO_new rfl ?_
  refine trO_st_var (z' := .agg [.int .i64 x_x5.Params, .sl (x_x5.Slots.map eSlot), .sl (x_x5.Code.map eInstr)]) rfl rfl rfl rfl rfl rfl rfl rfl rfl ?_
  refine trO_nil_draw (by kernel_rfl) ?_
  refine trX_seq ?_
  refine tr_seq ?_
  refine tr_reg ?_
  refine trO_ld_obj (v := .agg [.int .i64 x_x5.Params, .sl (x_x5.Slots.map eSlot), .sl (x_x5.Code.map eInstr)]) (z := .agg [.int .i64 x_x5.Params, .sl (x_x5.Slots.map eSlot), .sl (x_x5.Code.map eInstr)]) rfl rfl rfl rfl rfl rfl ?_
  refine trO_mv rfl rfl ?_
  refine trO_ld_obj (v := .agg [.int .i64 x_x5.Params, .sl (x_x5.Slots.map eSlot), .sl (x_x5.Code.map eInstr)]) (z := .agg [.int .i64 x_x5.Params, .sl (x_x5.Slots.map eSlot), .sl (x_x5.Code.map eInstr)]) rfl rfl rfl rfl rfl rfl ?_
  refine trO_bind fun r6 hr6 => ?_
  refine trO_call_val (r4.2, x_x5) rfl rfl rfl draw_Codes_Live_de rfl rfl (by simp) rfl hr6 ?_
  refine trO_mv rfl rfl ?_
  refine trO_st_var (z' := .agg [.int .i64 x_x5.Params, .sl (x_x5.Slots.map eSlot), .sl (x_x5.Code.map eInstr)]) rfl rfl rfl rfl rfl rfl rfl rfl rfl ?_
  refine trO_st_var (z' := .agg [.sl (r6.1.Out.map (eL eI64))]) rfl rfl rfl rfl rfl rfl rfl rfl rfl ?_
  refine trO_asg rfl rfl ?_
  refine trO_nil_draw (by kernel_rfl) ?_
  refine trX_seq ?_
  refine tr_ret ?_
  exact ret_tupPtr (b := (x_x5, r6.1, r6.2)) (by decide) (by decide) rfl (by first | (simp; done) | (simp; omega)) rfl (by first | (simp; done) | (simp; omega)) rfl (by first | (simp; done) | (simp; omega)) rfl (by first | (simp; done) | (simp; omega)) rfl rfl (by first | (simp; done) | (simp; omega)) rfl

def dc9 : DCode := (.seq (.reg [⟨(some 1), (.box (.t 0) 3 27), none, []⟩, ⟨(some 2), (.asg (.c .nils) (some ⟨2, 36⟩)), none, []⟩] false) (.seq (.reg [⟨(some 3), (.asg (.c .nils) (some ⟨2, 36⟩)), none, []⟩] false) (.seq (.seq (.reg [⟨(some 4), (.asg (.c (.int .i64 0)) none), none, []⟩] false) (.block 0 (.loop (.seq (.seq (.reg [⟨(some 9), (.mv (.t 4)), none, []⟩, ⟨(some 10), (.fldA 2 (.t 1)), none, []⟩, ⟨(some 11), (.ld 1 false (.t 10)), none, []⟩, ⟨(some 12), (.len false (.t 11)), none, []⟩, ⟨(some 13), (.bin .lss (.t 9) (.t 12)), none, []⟩] false) (.cond (.t 13) .skip (.exit 0))) (.seq (.block 1 (.seq (.reg [⟨(some 16), (.fldA 2 (.t 1)), none, []⟩, ⟨(some 17), (.ld 1 false (.t 16)), none, []⟩, ⟨(some 18), (.mv (.t 4)), none, []⟩, ⟨(some 19), (.ixA 5 (.t 17) (.t 18)), none, []⟩, ⟨(some 20), (.ld 5 true (.t 19)), none, []⟩, ⟨(some 5), (.new (.agg [(.int .i64 0), (.int .i64 0), (.int .i64 0), (.int .i64 0), (.int .u64 0)]) 5 52), none, []⟩, ⟨none, (.st 5 (.t 5) (.t 20)), none, []⟩] false) (.seq (.reg [⟨(some 21), (.fldA 1 (.t 5)), none, []⟩, ⟨(some 22), (.ld 1 false (.t 21)), none, []⟩, ⟨(some 23), (.fldA 2 (.t 5)), none, []⟩, ⟨(some 24), (.ld 1 false (.t 23)), none, []⟩, ⟨(some 25), (.bld [(.int .i64 0), (.int .i64 0)] [⟨0, ⟨1, (.t 22)⟩⟩, ⟨1, ⟨1, (.t 24)⟩⟩]), none, []⟩, ⟨(some 6), (.new (.agg [(.int .i64 0), (.int .i64 0)]) 2 36), none, []⟩, ⟨none, (.st 2 (.t 6) (.t 25)), none, []⟩] false) (.seq (.reg [⟨(some 26), (.fldA 0 (.t 5)), none, []⟩, ⟨(some 27), (.ld 1 false (.t 26)), none, []⟩, ⟨(some 28), (.bin .neq (.t 27) (.c (.int .i64 17))), none, []⟩, ⟨(some 29), (.mv (.t 28)), none, []⟩, ⟨(some 30), (.fldA 1 (.t 5)), (some ⟨29, false⟩), []⟩, ⟨(some 31), (.ld 1 false (.t 30)), (some ⟨29, false⟩), []⟩, ⟨(some 32), (.fldA 2 (.t 5)), (some ⟨29, false⟩), []⟩, ⟨(some 33), (.ld 1 false (.t 32)), (some ⟨29, false⟩), []⟩, ⟨(some 34), (.bin .eql (.t 31) (.t 33)), (some ⟨29, false⟩), []⟩, ⟨(some 35), (.pick (.t 29) (.c (.bool true)) (.t 34)), none, []⟩, ⟨(some 7), (.asg (.t 35) none), none, []⟩] false) (.seq (.seq (.reg [⟨(some 8), (.asg (.c (.int .i64 0)) none), none, []⟩] false) (.block 2 (.loop (.seq (.seq (.reg [⟨(some 36), (.mv (.t 8)), none, []⟩, ⟨(some 37), (.mv (.t 3)), none, []⟩, ⟨(some 38), (.len false (.t 37)), none, []⟩, ⟨(some 39), (.bin .lss (.t 36) (.t 38)), none, []⟩] false) (.cond (.t 39) .skip (.exit 2))) (.seq (.block 3 (.reg [⟨(some 42), (.mv (.t 7)), none, []⟩, ⟨(some 43), (.mv (.t 42)), none, [0]⟩, ⟨(some 44), (.mv (.t 3)), (some ⟨43, false⟩), [1]⟩, ⟨(some 45), (.mv (.t 8)), (some ⟨43, false⟩), [1]⟩, ⟨(some 46), (.ixA 2 (.t 44) (.t 45)), (some ⟨43, false⟩), [2, 3, 1]⟩, ⟨(some 47), (.ld 2 true (.t 46)), (some ⟨43, false⟩), [4, 1]⟩, ⟨(some 48), (.ld 2 true (.t 6)), (some ⟨43, false⟩), [1]⟩, ⟨(some 49), (.eqA 2 false (.t 47) (.t 48)), (some ⟨43, false⟩), [5, 6, 1]⟩, ⟨(some 50), (.pick (.t 43) (.c (.bool true)) (.t 49)), none, [1, 7]⟩, ⟨(some 7), (.asg (.t 50) none), none, [8, 1, 0, 1, 2, 3, 4, 5, 6, 7, 8]⟩] true)) (.reg [⟨(some 40), (.mv (.t 8)), none, []⟩, ⟨(some 41), (.bin .add (.t 40) (.c (.int .i64 1))), none, []⟩, ⟨(some 8), (.asg (.t 41) none), none, []⟩] false)))))) (.seq (.reg [⟨(some 51), (.mv (.t 7)), none, []⟩, ⟨(some 52), (.un .not (.t 51)), none, []⟩] false) (.cond (.t 52) (.reg [⟨(some 53), (.mv (.t 3)), none, []⟩, ⟨(some 54), (.ld 2 true (.t 6)), none, []⟩, ⟨(some 55), (.bldS 2 36 (.agg [(.int .i64 0), (.int .i64 0)]) 1 [⟨0, (.t 54)⟩]), none, []⟩, ⟨(some 56), (.app 2 36 16 (.t 53) (.t 55)), none, []⟩, ⟨(some 3), (.asg (.t 56) (some ⟨2, 36⟩)), none, []⟩] false) .skip))))))) (.reg [⟨(some 14), (.mv (.t 4)), none, []⟩, ⟨(some 15), (.bin .add (.t 14) (.c (.int .i64 1))), none, []⟩, ⟨(some 4), (.asg (.t 15) none), none, []⟩] false)))))) (.seq (.reg [⟨(some 57), (.mv (.t 3)), none, []⟩, ⟨(some 2), (.asg (.t 57) (some ⟨2, 36⟩)), none, []⟩] false) .ret))))
theorem dc9_c : (Try.f9.body.bind (cCode Try.prog Try.f9.ntmps)) = some dc9 := by kernel_rfl
theorem dc9_r : Try.f9.results.toList.mapM (cRes Try.prog) = some [(.t 2)] := by kernel_rfl
def ref18_Moves_enc (a : TFunc) : List D := [eFunc a]
def ref18_Moves_dec (ds : List D) : TFunc := uFunc (ds.getD 0 .top)
theorem ref18_Moves_de (a : TFunc) : ref18_Moves_dec (ref18_Moves_enc a) = a := by simp [ref18_Moves_dec, ref18_Moves_enc, uI, uBo, uS]
def ref18_Moves_R (b : (List TA2_Int)) : D := .sl (b.map eA2_Int)
def ref18_Moves_E (_b : (List TA2_Int)) : List D := []
noncomputable def ref18_Moves_S : Dw.Spec := fSpec [] (.row 2 36) ref18_Moves_enc ref18_Moves_dec (fun a => ref18_Moves a) ref18_Moves_R ref18_Moves_E
set_option maxHeartbeats 4000000 in
theorem ref18_Moves_ok : SpecOk Try.prog 9 ref18_Moves_S := by
  refine fn_ok (specs_nil) Try.func9 (by decide) dc9_c dc9_r (np := 1) (by decide) ref18_Moves_de (fun _ => rfl) ?_
  intro f1
  show Tr (specs []) dc9 (kRet [] (.row 2 36) [(.t 2)] 1 ref18_Moves_R ref18_Moves_E) ⟨[(0, .agg [.int .i64 f1.Params, .sl (f1.Slots.map eSlot), .sl (f1.Code.map eInstr)])], [], 1⟩ (ref18_Moves f1)
  unfold dc9 ref18_Moves
  refine tr_seq ?_
  refine tr_reg ?_
  refine trO_box rfl rfl rfl rfl rfl ?_
  refine trO_asg_nil (α := TA2_Int) rfl eA2_Int rfl ?_
  refine trO_nil ?_
  refine trX_seq ?_
  refine tr_seq ?_
  refine tr_reg ?_
  refine trO_asg_nil (α := TA2_Int) rfl eA2_Int rfl ?_
  refine trO_nil ?_
  refine trX_seq ?_
  refine tr_seq ?_
  refine tr_seq ?_
  refine tr_reg ?_
  refine trO_asg rfl rfl ?_
  refine trO_nil ?_
  refine trX_seq ?_
  refine tr_block ?_
  refine tr_loop (E := fun (s : (List TA2_Int) × Int) (g : Nat × Nat) => [(1, .optr 1 g.1 0 0), (3, .osl 3 g.2 0 s.1.length), (4, .int .i64 s.2)]) (O := fun s g => [(1, some (g.1, ⟨false, true, 3, 27, [.agg [.int .i64 f1.Params, .sl (f1.Slots.map eSlot), .sl (f1.Code.map eInstr)]]⟩)), (3, some (g.2, ⟨false, false, 2, 36, s.1.map eA2_Int⟩))]) (body := fun s => ref18_Moves_b1 f1 s.1 s.2) (s := (([] : List TA2_Int), 0)) (_, _) (has_exact ⟨rfl, rfl, rfl, trivial⟩ ⟨rfl, rfl, trivial⟩) ?_
  rintro ⟨out2, k3⟩ ⟨v1, v3⟩ nn
  show Tr _ _ _ ⟨[(1, .optr 1 v1 0 0), (3, .osl 3 v3 0 out2.length), (4, .int .i64 k3)], [(1, some (v1, ⟨false, true, 3, 27, [.agg [.int .i64 f1.Params, .sl (f1.Slots.map eSlot), .sl (f1.Code.map eInstr)]]⟩)), (3, some (v3, ⟨false, false, 2, 36, out2.map eA2_Int⟩))], _⟩ (ref18_Moves_b1 f1 out2 k3)
  unfold ref18_Moves_b1
  refine tr_seq ?_
  refine tr_seq ?_
  refine tr_reg ?_
  refine trO_mv rfl rfl ?_
  refine trO_fldA rfl rfl ?_
  refine trO_ld_obj (v := .sl (f1.Code.map eInstr)) (z := .agg [.int .i64 f1.Params, .sl (f1.Slots.map eSlot), .sl (f1.Code.map eInstr)]) rfl rfl rfl rfl rfl rfl ?_
  refine trO_len_sl rfl rfl ?_
  refine trO_bin (v := .bool (decide (k3 < (f1.Code.length : Int)))) rfl rfl rfl rfl rfl ?_
  refine trO_nil ?_
  refine trX_seq ?_
  refine tr_cond (c := (decide (k3 < (f1.Code.length : Int)))) rfl ?_ ?_
  ·
    refine tr_skip ?_
    refine trX_seq ?_
    refine tr_seq_blk_cut (E := fun (s : (List TA2_Int)) (g : Nat × Nat) => [(1, .optr 1 g.1 0 0), (3, .osl 3 g.2 0 s.length), (4, .int .i64 k3)]) (O := fun s g => [(1, some (g.1, ⟨false, true, 3, 27, [.agg [.int .i64 f1.Params, .sl (f1.Slots.map eSlot), .sl (f1.Code.map eInstr)]]⟩)), (3, some (g.2, ⟨false, false, 2, 36, s.map eA2_Int⟩))]) (j := fun s => ref18_Moves_j2 k3 s) ?_ ?_
    ·
      refine tr_seq ?_
      refine tr_reg ?_
      refine trO_fldA rfl rfl ?_
      refine trO_ld_obj (v := .sl (f1.Code.map eInstr)) (z := .agg [.int .i64 f1.Params, .sl (f1.Slots.map eSlot), .sl (f1.Code.map eInstr)]) rfl rfl rfl rfl rfl rfl ?_
      refine trO_mv rfl rfl ?_
      refine trO_bind fun x_x5 hx_x5 => ?_
      refine trO_ixA_sl (en := eInstr) rfl rfl rfl hx_x5 rfl ?_
      refine trO_ld_f (v := .agg [.int .i64 x_x5.Op, .int .i64 x_x5.A, .int .i64 x_x5.B, .int .i64 x_x5.C, .int .u64 x_x5.Imm]) rfl rfl rfl rfl ?_
      refine trO_new rfl ?_
      refine trO_st_var (z' := .agg [.int .i64 x_x5.Op, .int .i64 x_x5.A, .int .i64 x_x5.B, .int .i64 x_x5.C, .int .u64 x_x5.Imm]) rfl rfl rfl rfl rfl rfl rfl rfl rfl ?_
      refine trO_nil ?_
      refine trX_seq ?_
      refine tr_seq ?_
      refine tr_reg ?_
      refine trO_fldA rfl rfl ?_
      refine trO_ld_obj (v := .int .i64 x_x5.A) (z := .agg [.int .i64 x_x5.Op, .int .i64 x_x5.A, .int .i64 x_x5.B, .int .i64 x_x5.C, .int .u64 x_x5.Imm]) rfl rfl rfl rfl rfl rfl ?_
      refine trO_fldA rfl rfl ?_
      refine trO_ld_obj (v := .int .i64 x_x5.B) (z := .agg [.int .i64 x_x5.Op, .int .i64 x_x5.A, .int .i64 x_x5.B, .int .i64 x_x5.C, .int .u64 x_x5.Imm]) rfl rfl rfl rfl rfl rfl ?_
      refine trO_bld (cs := [.int .i64 x_x5.A, .int .i64 x_x5.B]) (ps := [(0, 1, .int .i64 x_x5.A), (1, 1, .int .i64 x_x5.B)]) rfl rfl rfl rfl ?_
      refine trO_new rfl ?_
      refine trO_st_var (z' := .agg [.int .i64 x_x5.A, .int .i64 x_x5.B]) rfl rfl rfl rfl rfl rfl rfl rfl rfl ?_
      refine trO_nil ?_
      refine trX_seq ?_
      refine tr_seq_cut (E := fun (s : Bool) (g : Nat × Nat × Nat) => [(1, .optr 1 g.1 0 0), (3, .osl 3 g.2.1 0 out2.length), (4, .int .i64 k3), (6, .optr 6 g.2.2 0 0), (7, .bool s)]) (O := fun s g => [(1, some (g.1, ⟨false, true, 3, 27, [.agg [.int .i64 f1.Params, .sl (f1.Slots.map eSlot), .sl (f1.Code.map eInstr)]]⟩)), (3, some (g.2.1, ⟨false, false, 2, 36, out2.map eA2_Int⟩)), (6, some (g.2.2, ⟨false, true, 2, 36, [.agg [.int .i64 x_x5.A, .int .i64 x_x5.B]]⟩))]) (j := fun s => ref18_Moves_j3 out2 x_x5 k3 s) ?_ ?_
      ·
        refine tr_reg ?_
        refine trO_fldA rfl rfl ?_
        refine trO_ld_obj (v := .int .i64 x_x5.Op) (z := .agg [.int .i64 x_x5.Op, .int .i64 x_x5.A, .int .i64 x_x5.B, .int .i64 x_x5.C, .int .u64 x_x5.Imm]) rfl rfl rfl rfl rfl rfl ?_
        refine trO_bin (v := .bool (x_x5.Op != 17)) rfl rfl rfl rfl rfl ?_
        refine trO_mv rfl rfl ?_
        refine trO_split 29 (b := (x_x5.Op != 17)) rfl ?_ ?_
        ·
          refine trO_off rfl ?_
          refine trO_off rfl ?_
          refine trO_off rfl ?_
          refine trO_off rfl ?_
          refine trO_off rfl ?_
          refine trO_pick_true rfl rfl rfl rfl ?_
          refine trO_asg rfl rfl ?_
          refine trO_nil ?_
          exact trX_cut (s := true) (_, _, _) (has_exact ⟨rfl, rfl, rfl, rfl, rfl, trivial⟩ ⟨rfl, rfl, rfl, trivial⟩)
        ·
          refine trO_fldA rfl rfl ?_
          refine trO_ld_obj (v := .int .i64 x_x5.A) (z := .agg [.int .i64 x_x5.Op, .int .i64 x_x5.A, .int .i64 x_x5.B, .int .i64 x_x5.C, .int .u64 x_x5.Imm]) rfl rfl rfl rfl rfl rfl ?_
          refine trO_fldA rfl rfl ?_
          refine trO_ld_obj (v := .int .i64 x_x5.B) (z := .agg [.int .i64 x_x5.Op, .int .i64 x_x5.A, .int .i64 x_x5.B, .int .i64 x_x5.C, .int .u64 x_x5.Imm]) rfl rfl rfl rfl rfl rfl ?_
          refine trO_bin (v := .bool (x_x5.A == x_x5.B)) rfl rfl rfl rfl rfl ?_
          refine trO_pick_false rfl rfl rfl rfl ?_
          refine trO_asg rfl rfl ?_
          refine trO_nil ?_
          exact trX_cut (s := (x_x5.A == x_x5.B)) (_, _, _) (has_exact ⟨rfl, rfl, rfl, rfl, rfl, trivial⟩ ⟨rfl, rfl, rfl, trivial⟩)
      ·
        rintro old6 ⟨v1, v3, v6⟩ nn
        show Tr _ _ _ ⟨[(1, .optr 1 v1 0 0), (3, .osl 3 v3 0 out2.length), (4, .int .i64 k3), (6, .optr 6 v6 0 0), (7, .bool old6)], [(1, some (v1, ⟨false, true, 3, 27, [.agg [.int .i64 f1.Params, .sl (f1.Slots.map eSlot), .sl (f1.Code.map eInstr)]]⟩)), (3, some (v3, ⟨false, false, 2, 36, out2.map eA2_Int⟩)), (6, some (v6, ⟨false, true, 2, 36, [.agg [.int .i64 x_x5.A, .int .i64 x_x5.B]]⟩))], _⟩ (ref18_Moves_j3 out2 x_x5 k3 old6)
        unfold ref18_Moves_j3
        refine tr_seq ?_
        refine tr_seq ?_
        refine tr_reg ?_
        refine trO_asg rfl rfl ?_
        refine trO_nil ?_
        refine trX_seq ?_
        refine tr_block ?_
        refine tr_loop (E := fun (s : Bool × Int) (g : Nat × Nat × Nat) => [(1, .optr 1 g.1 0 0), (3, .osl 3 g.2.1 0 out2.length), (4, .int .i64 k3), (6, .optr 6 g.2.2 0 0), (7, .bool s.1), (8, .int .i64 s.2)]) (O := fun s g => [(1, some (g.1, ⟨false, true, 3, 27, [.agg [.int .i64 f1.Params, .sl (f1.Slots.map eSlot), .sl (f1.Code.map eInstr)]]⟩)), (3, some (g.2.1, ⟨false, false, 2, 36, out2.map eA2_Int⟩)), (6, some (g.2.2, ⟨false, true, 2, 36, [.agg [.int .i64 x_x5.A, .int .i64 x_x5.B]]⟩))]) (body := fun s => ref18_Moves_b4 out2 x_x5 k3 s.1 s.2) (s := (old6, 0)) (_, _, _) (has_exact ⟨rfl, rfl, rfl, rfl, rfl, rfl, trivial⟩ ⟨rfl, rfl, rfl, trivial⟩) ?_
        rintro ⟨old7, i8⟩ ⟨v1, v3, v6⟩ nn
        show Tr _ _ _ ⟨[(1, .optr 1 v1 0 0), (3, .osl 3 v3 0 out2.length), (4, .int .i64 k3), (6, .optr 6 v6 0 0), (7, .bool old7), (8, .int .i64 i8)], [(1, some (v1, ⟨false, true, 3, 27, [.agg [.int .i64 f1.Params, .sl (f1.Slots.map eSlot), .sl (f1.Code.map eInstr)]]⟩)), (3, some (v3, ⟨false, false, 2, 36, out2.map eA2_Int⟩)), (6, some (v6, ⟨false, true, 2, 36, [.agg [.int .i64 x_x5.A, .int .i64 x_x5.B]]⟩))], _⟩ (ref18_Moves_b4 out2 x_x5 k3 old7 i8)
        unfold ref18_Moves_b4
        refine tr_seq ?_
        refine tr_seq ?_
        refine tr_reg ?_
        refine trO_mv rfl rfl ?_
        refine trO_mv rfl rfl ?_
        refine trO_len_own rfl rfl ?_
        refine trO_bin (v := .bool (decide (i8 < (out2.length : Int)))) rfl rfl rfl rfl rfl ?_
        refine trO_nil ?_
        refine trX_seq ?_
        refine tr_cond (c := (decide (i8 < (out2.length : Int)))) rfl ?_ ?_
        ·
          refine tr_skip ?_
          refine trX_seq ?_
          refine tr_seq ?_
          refine tr_block ?_
          refine tr_reg ?_
          refine trO_mv rfl rfl ?_
          refine trO_mv rfl rfl ?_
          refine trO_split 43 (b := old7) rfl ?_ ?_
          ·
            refine trO_off rfl ?_
            refine trO_off rfl ?_
            refine trO_off rfl ?_
            refine trO_off rfl ?_
            refine trO_off rfl ?_
            refine trO_off rfl ?_
            refine trO_pick_true rfl rfl rfl rfl ?_
            refine trO_asg rfl rfl ?_
            refine trO_nil_draw (by kernel_rfl) ?_
            refine trX_blk_normal ?_
            refine trX_seq ?_
            refine tr_reg ?_
            refine trO_mv rfl rfl ?_
            refine trO_bin (v := .int .i64 (IntKind.i64.wrap (i8 + 1))) rfl rfl rfl rfl rfl ?_
            refine trO_asg rfl rfl ?_
            refine trO_nil ?_
            exact trX_loop (s := (true, IntKind.i64.wrap (i8 + 1))) (_, _, _) (has_exact ⟨rfl, rfl, rfl, rfl, rfl, rfl, trivial⟩ ⟨rfl, rfl, rfl, trivial⟩)
          ·
            refine trO_mv rfl rfl ?_
            refine trO_mv rfl rfl ?_
            refine trO_chk fun hq => ?_
            refine trO_ixA_own (l := out2) (en := eA2_Int) rfl rfl rfl rfl rfl hq ?_
            refine trO_bind fun out_e9 hout_e9 => ?_
            refine trO_ld_obj (v := .agg [.int .i64 out_e9.a0, .int .i64 out_e9.a1]) (z := eA2_Int out_e9) rfl rfl rfl (map_get hout_e9) rfl rfl ?_
            refine trO_ld_obj (v := .agg [.int .i64 x_x5.A, .int .i64 x_x5.B]) (z := .agg [.int .i64 x_x5.A, .int .i64 x_x5.B]) rfl rfl rfl rfl rfl rfl ?_
            refine trO_eqA (p := ((out_e9.a0 == x_x5.A) && ((out_e9.a1 == x_x5.B) && true))) rfl rfl rfl rfl ⟨rfl, ⟨rfl, trivial⟩⟩ rfl ?_
            refine trO_pick_false rfl rfl rfl rfl ?_
            refine trO_asg rfl rfl ?_
            refine trO_nil_draw (by kernel_rfl) ?_
            refine trX_blk_normal ?_
            refine trX_seq ?_
            refine tr_reg ?_
            refine trO_mv rfl rfl ?_
            refine trO_bin (v := .int .i64 (IntKind.i64.wrap (i8 + 1))) rfl rfl rfl rfl rfl ?_
            refine trO_asg rfl rfl ?_
            refine trO_nil ?_
            exact trX_loop (s := (((out_e9.a0 == x_x5.A) && ((out_e9.a1 == x_x5.B) && true)), IntKind.i64.wrap (i8 + 1))) (_, _, _) (has_exact ⟨rfl, rfl, rfl, rfl, rfl, rfl, trivial⟩ ⟨rfl, rfl, rfl, trivial⟩)
        ·
          refine tr_exit ?_
          refine trX_seq_exit ?_
          refine trX_loop_exit ?_
          refine trX_blk_here ?_
          refine trX_seq ?_
          refine tr_seq ?_
          refine tr_reg ?_
          refine trO_mv rfl rfl ?_
          refine trO_un (w := .bool (!old7)) rfl rfl rfl rfl trivial ?_
          refine trO_nil ?_
          refine trX_seq ?_
          refine tr_cond (c := (!old7)) rfl ?_ ?_
          ·
            refine tr_reg ?_
            refine trO_mv rfl rfl ?_
            refine trO_ld_obj (v := .agg [.int .i64 x_x5.A, .int .i64 x_x5.B]) (z := .agg [.int .i64 x_x5.A, .int .i64 x_x5.B]) rfl rfl rfl rfl rfl rfl ?_
            refine trO_bldS ([(TA2_Int.mk x_x5.A x_x5.B)] : List TA2_Int) eA2_Int rfl rfl rfl (by simp) rfl rfl rfl ?_
            refine trO_chk fun hq => ?_
            refine trO_app (out2) (([(TA2_Int.mk x_x5.A x_x5.B)] : List TA2_Int)) eA2_Int rfl rfl rfl rfl rfl rfl rfl (by simp) (take_drop0_map' _ _ rfl) rfl rfl (by simp) (take_len_map' _ _ rfl) (fun _ => rfl) rfl hq ?_
            refine trO_asg_own (l := out2 ++ ([(TA2_Int.mk x_x5.A x_x5.B)] : List TA2_Int)) (en := eA2_Int) rfl rfl rfl rfl ?_
            refine trO_nil ?_
            exact trX_bcut_normal (s := out2 ++ ([(TA2_Int.mk x_x5.A x_x5.B)] : List TA2_Int)) (_, _) (has_exact ⟨rfl, rfl, rfl, trivial⟩ ⟨rfl, rfl, trivial⟩)
          ·
            refine tr_skip ?_
            exact trX_bcut_normal (s := out2) (_, _) (has_exact ⟨rfl, rfl, rfl, trivial⟩ ⟨rfl, rfl, trivial⟩)
    ·
      rintro out4 ⟨v1, v3⟩ nn
      show Tr _ _ _ ⟨[(1, .optr 1 v1 0 0), (3, .osl 3 v3 0 out4.length), (4, .int .i64 k3)], [(1, some (v1, ⟨false, true, 3, 27, [.agg [.int .i64 f1.Params, .sl (f1.Slots.map eSlot), .sl (f1.Code.map eInstr)]]⟩)), (3, some (v3, ⟨false, false, 2, 36, out4.map eA2_Int⟩))], _⟩ (ref18_Moves_j2 k3 out4)
      unfold ref18_Moves_j2
      refine tr_reg ?_
      refine trO_mv rfl rfl ?_
      refine trO_bin (v := .int .i64 (IntKind.i64.wrap (k3 + 1))) rfl rfl rfl rfl rfl ?_
      refine trO_asg rfl rfl ?_
      refine trO_nil ?_
      exact trX_loop (s := (out4, IntKind.i64.wrap (k3 + 1))) (_, _) (has_exact ⟨rfl, rfl, rfl, trivial⟩ ⟨rfl, rfl, trivial⟩)
  ·
    refine tr_exit ?_
    refine trX_seq_exit ?_
    refine trX_loop_exit ?_
    refine trX_blk_here ?_
    refine trX_seq ?_
    refine tr_seq ?_
    refine tr_reg ?_
    refine trO_mv rfl rfl ?_
    refine trO_asg_own (l := out2) (en := eA2_Int) rfl rfl rfl rfl ?_
    refine trO_nil ?_
    refine trX_seq ?_
    refine tr_ret ?_
    exact ret_row (b := out2) rfl (by first | (simp; done) | (simp; omega)) rfl rfl (by first | (simp; done) | (simp; omega)) rfl (by first | (simp; done) | (simp; omega)) (congrArg D.sl (take_len_map' _ _ rfl)) rfl

def dc3 : DCode := (.seq (.reg [⟨(some 2), (.asg (.c (.bool false)) none), none, []⟩] false) (.seq (.seq (.reg [⟨(some 9), (.call (.c (.clo 6 [])) []), none, []⟩, ⟨(some 10), (.un .not (.t 9)), none, []⟩] false) (.cond (.t 10) (.seq (.reg [⟨(some 2), (.asg (.c (.bool false)) none), none, []⟩] false) .ret) .skip)) (.seq (.reg [⟨(some 12), (.mv (.t 0)), none, []⟩, ⟨(some 13), (.call (.c (.clo 7 [])) [(.t 12)]), none, []⟩, ⟨(some 11), (.mv (.t 13)), none, []⟩, ⟨(some 14), (.ext (.t 11) 0), none, []⟩, ⟨(some 15), (.ext (.t 11) 1), none, []⟩, ⟨(some 16), (.ext (.t 11) 2), none, []⟩, ⟨(some 3), (.new (.agg [(.int .i64 0), .nils, .nils]) 3 27), none, []⟩, ⟨(some 4), (.new (.agg [.nils]) 1 30), none, []⟩, ⟨none, (.st 3 (.t 3) (.t 14)), none, []⟩, ⟨none, (.st 1 (.t 4) (.t 15)), none, []⟩, ⟨(some 5), (.asg (.t 16) none), none, []⟩] false) (.seq (.reg [⟨(some 17), (.ld 3 true (.t 3)), none, []⟩, ⟨(some 18), (.call (.c (.clo 8 [])) [(.t 17)]), none, [0]⟩, ⟨(some 19), (.ld 3 true (.t 3)), none, []⟩, ⟨(some 20), (.call (.c (.clo 9 [])) [(.t 19)]), none, [2, 1]⟩, ⟨(some 6), (.asg (.t 18) (some ⟨2, 36⟩)), none, [1, 3, 0, 1]⟩, ⟨(some 7), (.asg (.t 20) (some ⟨2, 36⟩)), none, [3, 4, 0, 1, 2, 3, 4]⟩] true) (.seq (.seq (.reg [⟨(some 21), (.mv (.t 6)), none, []⟩, ⟨(some 22), (.len false (.t 21)), none, []⟩, ⟨(some 23), (.mv (.t 7)), none, []⟩, ⟨(some 24), (.len false (.t 23)), none, []⟩, ⟨(some 25), (.bin .neq (.t 22) (.t 24)), none, []⟩] false) (.cond (.t 25) (.seq (.reg [⟨(some 2), (.asg (.c (.bool false)) none), none, []⟩] false) .ret) .skip)) (.seq (.seq (.reg [⟨(some 8), (.asg (.c (.int .i64 0)) none), none, []⟩] false) (.block 0 (.loop (.seq (.seq (.reg [⟨(some 26), (.mv (.t 8)), none, []⟩, ⟨(some 27), (.mv (.t 6)), none, []⟩, ⟨(some 28), (.len false (.t 27)), none, []⟩, ⟨(some 29), (.bin .lss (.t 26) (.t 28)), none, []⟩] false) (.cond (.t 29) .skip (.exit 0))) (.seq (.block 1 (.seq (.reg [⟨(some 32), (.mv (.t 6)), none, []⟩, ⟨(some 33), (.mv (.t 8)), none, []⟩, ⟨(some 34), (.ixA 2 (.t 32) (.t 33)), none, [0, 1]⟩, ⟨(some 35), (.ld 2 true (.t 34)), none, [2]⟩, ⟨(some 36), (.mv (.t 7)), none, []⟩, ⟨(some 37), (.mv (.t 8)), none, []⟩, ⟨(some 38), (.ixA 2 (.t 36) (.t 37)), none, [4, 5]⟩, ⟨(some 39), (.ld 2 true (.t 38)), none, [6]⟩, ⟨(some 40), (.eqA 2 true (.t 35) (.t 39)), none, [3, 7]⟩] true) (.cond (.t 40) (.seq (.reg [⟨(some 2), (.asg (.c (.bool false)) none), none, []⟩] false) .ret) .skip))) (.reg [⟨(some 30), (.mv (.t 8)), none, []⟩, ⟨(some 31), (.bin .add (.t 30) (.c (.int .i64 1))), none, []⟩, ⟨(some 8), (.asg (.t 31) none), none, []⟩] false)))))) (.seq (.reg [⟨(some 2), (.asg (.c (.bool true)) none), none, []⟩] false) .ret)))))))
theorem dc3_c : (Try.f3.body.bind (cCode Try.prog Try.f3.ntmps)) = some dc3 := by kernel_rfl
theorem dc3_r : Try.f3.results.toList.mapM (cRes Try.prog) = some [(.t 2)] := by kernel_rfl
def law18_InterfereMoves_enc (a : (List Int)) : List D := [.sl (a.map eU8)]
def law18_InterfereMoves_dec (ds : List D) : (List Int) := (uL uI) (ds.getD 0 .top)
theorem law18_InterfereMoves_de (a : (List Int)) : law18_InterfereMoves_dec (law18_InterfereMoves_enc a) = a := by simp [law18_InterfereMoves_dec, law18_InterfereMoves_enc, uI, uBo, uS, uL_e (u := uI) (en := eU8) (fun _ => rfl)]
def law18_InterfereMoves_R (b : Bool) : D := .bool b
def law18_InterfereMoves_E (_b : Bool) : List D := []
noncomputable def law18_InterfereMoves_S : Dw.Spec := fSpec [] .ground law18_InterfereMoves_enc law18_InterfereMoves_dec (fun a => law18_InterfereMoves a) law18_InterfereMoves_R law18_InterfereMoves_E
set_option maxHeartbeats 4000000 in
theorem law18_InterfereMoves_ok : SpecOk Try.prog 3 law18_InterfereMoves_S := by
  refine fn_ok (specs_ok (l := [(6, law18_awake_S), (7, law18_scene_S), (8, interfere_Moves_S), (9, ref18_Moves_S)]) (by simp [law18_awake_ok, law18_scene_ok, interfere_Moves_ok, ref18_Moves_ok])) Try.func3 (by decide) dc3_c dc3_r (np := 1) (by decide) law18_InterfereMoves_de (fun _ => rfl) ?_
  intro codes1
  show Tr (specs [(6, law18_awake_S), (7, law18_scene_S), (8, interfere_Moves_S), (9, ref18_Moves_S)]) dc3 (kRet [] .ground [(.t 2)] 1 law18_InterfereMoves_R law18_InterfereMoves_E) ⟨[(0, .sl (codes1.map eU8))], [], 1⟩ (law18_InterfereMoves codes1)
  unfold dc3 law18_InterfereMoves
  refine tr_seq ?_
  refine tr_reg ?_
  refine trO_asg rfl rfl ?_
  refine trO_nil ?_
  refine trX_seq ?_
  refine tr_seq ?_
  refine tr_seq ?_
  refine tr_reg ?_
  refine trO_bind fun r2 hr2 => ?_
  refine trO_call_ground () rfl rfl rfl law18_awake_de rfl rfl (by simp) rfl hr2 rfl ?_
  refine trO_un (w := .bool (!r2)) rfl rfl rfl rfl trivial ?_
  refine trO_nil ?_
  refine trX_seq ?_
  refine tr_cond (c := (!r2)) rfl ?_ ?_
  ·
    refine tr_seq ?_
    refine tr_reg ?_
    refine trO_asg rfl rfl ?_
    refine trO_nil ?_
    refine trX_seq ?_
    refine tr_ret ?_
    refine trX_seq_ret ?_
    exact ret_ground (b := false) rfl (by first | (simp; done) | (simp; omega)) rfl rfl (by first | (simp; done) | (simp; omega)) rfl
  ·
    refine tr_skip ?_
    refine trX_seq ?_
    refine tr_seq ?_
    refine tr_reg ?_
    refine trO_mv rfl rfl ?_
    refine trO_bind fun r3 hr3 => ?_
    refine trO_call_tupPtr (rs := [eFunc r3.1, eLive r3.2.1, edraw_Codes r3.2.2]) (z := edraw_Codes r3.2.2) codes1 rfl rfl rfl law18_scene_de rfl rfl (by simp) rfl hr3 rfl rfl ?_
    refine trO_mv rfl rfl ?_
    refine trO_ext (v := .agg [.int .i64 r3.1.Params, .sl (r3.1.Slots.map eSlot), .sl (r3.1.Code.map eInstr)]) rfl rfl rfl ?_
    refine trO_ext (v := .agg [.sl (r3.2.1.Out.map (eL eI64))]) rfl rfl rfl ?_
    refine trO_ext (v := .optr 13 _ 0 0) rfl rfl rfl ?_
    refine trO_new rfl ?_
    refine trO_new rfl ?_
    refine trO_st_var (z' := .agg [.int .i64 r3.1.Params, .sl (r3.1.Slots.map eSlot), .sl (r3.1.Code.map eInstr)]) rfl rfl rfl rfl rfl rfl rfl rfl rfl ?_
    refine trO_st_var (z' := .agg [.sl (r3.2.1.Out.map (eL eI64))]) rfl rfl rfl rfl rfl rfl rfl rfl rfl ?_
    refine trO_asg rfl rfl ?_
    refine trO_nil ?_
    refine trX_seq ?_
    refine tr_seq ?_
    refine tr_reg ?_
    refine trO_ld_obj (v := .agg [.int .i64 r3.1.Params, .sl (r3.1.Slots.map eSlot), .sl (r3.1.Code.map eInstr)]) (z := .agg [.int .i64 r3.1.Params, .sl (r3.1.Slots.map eSlot), .sl (r3.1.Code.map eInstr)]) rfl rfl rfl rfl rfl rfl ?_
    refine trO_bind fun r4 hr4 => ?_
    refine trO_call_row (l := r4) (en := eA2_Int) r3.1 rfl rfl rfl interfere_Moves_de rfl rfl (by simp) rfl hr4 rfl ?_
    refine trO_ld_obj (v := .agg [.int .i64 r3.1.Params, .sl (r3.1.Slots.map eSlot), .sl (r3.1.Code.map eInstr)]) (z := .agg [.int .i64 r3.1.Params, .sl (r3.1.Slots.map eSlot), .sl (r3.1.Code.map eInstr)]) rfl rfl rfl rfl rfl rfl ?_
    refine trO_bind fun r5 hr5 => ?_
    refine trO_call_row (l := r5) (en := eA2_Int) r3.1 rfl rfl rfl ref18_Moves_de rfl rfl (by simp) rfl hr5 rfl ?_
    refine trO_asg_own (l := r4) (en := eA2_Int) rfl rfl rfl rfl ?_
    refine trO_asg_own (l := r5) (en := eA2_Int) rfl rfl rfl rfl ?_
    refine trO_nil_draw (by kernel_rfl) ?_
    refine trX_seq ?_
    refine tr_seq ?_
    refine tr_seq ?_
    refine tr_reg ?_
    refine trO_mv rfl rfl ?_
    refine trO_len_own rfl rfl ?_
    refine trO_mv rfl rfl ?_
    refine trO_len_own rfl rfl ?_
    refine trO_bin (v := .bool ((r4.length : Int) != (r5.length : Int))) rfl rfl rfl rfl rfl ?_
    refine trO_nil ?_
    refine trX_seq ?_
    refine tr_cond (c := ((r4.length : Int) != (r5.length : Int))) rfl ?_ ?_
    ·
      refine tr_seq ?_
      refine tr_reg ?_
      refine trO_asg rfl rfl ?_
      refine trO_nil ?_
      refine trX_seq ?_
      refine tr_ret ?_
      refine trX_seq_ret ?_
      exact ret_ground (b := false) rfl (by first | (simp; done) | (simp; omega)) rfl rfl (by first | (simp; done) | (simp; omega)) rfl
    ·
      refine tr_skip ?_
      refine trX_seq ?_
      refine tr_seq ?_
      refine tr_seq ?_
      refine tr_reg ?_
      refine trO_asg rfl rfl ?_
      refine trO_nil ?_
      refine trX_seq ?_
      refine tr_block ?_
      refine tr_loop (E := fun (s : Int) (g : Nat × Nat) => [(6, .osl 6 g.1 0 r4.length), (7, .osl 7 g.2 0 r5.length), (8, .int .i64 s)]) (O := fun s g => [(6, some (g.1, ⟨false, false, 2, 36, r4.map eA2_Int⟩)), (7, some (g.2, ⟨false, false, 2, 36, r5.map eA2_Int⟩))]) (body := fun s => law18_InterfereMoves_b1 r4 r5 s) (s := 0) (_, _) (has_exact ⟨rfl, rfl, rfl, trivial⟩ ⟨rfl, rfl, trivial⟩) ?_
      rintro i6 ⟨v6, v7⟩ nn
      show Tr _ _ _ ⟨[(6, .osl 6 v6 0 r4.length), (7, .osl 7 v7 0 r5.length), (8, .int .i64 i6)], [(6, some (v6, ⟨false, false, 2, 36, r4.map eA2_Int⟩)), (7, some (v7, ⟨false, false, 2, 36, r5.map eA2_Int⟩))], _⟩ (law18_InterfereMoves_b1 r4 r5 i6)
      unfold law18_InterfereMoves_b1
      refine tr_seq ?_
      refine tr_seq ?_
      refine tr_reg ?_
      refine trO_mv rfl rfl ?_
      refine trO_mv rfl rfl ?_
      refine trO_len_own rfl rfl ?_
      refine trO_bin (v := .bool (decide (i6 < (r4.length : Int)))) rfl rfl rfl rfl rfl ?_
      refine trO_nil ?_
      refine trX_seq ?_
      refine tr_cond (c := (decide (i6 < (r4.length : Int)))) rfl ?_ ?_
      ·
        refine tr_skip ?_
        refine trX_seq ?_
        refine tr_seq ?_
        refine tr_block ?_
        refine tr_seq ?_
        refine tr_reg ?_
        refine trO_mv rfl rfl ?_
        refine trO_mv rfl rfl ?_
        refine trO_chk fun hq => ?_
        refine trO_ixA_own (l := r4) (en := eA2_Int) rfl rfl rfl rfl rfl hq ?_
        refine trO_bind fun a_e7 ha_e7 => ?_
        refine trO_ld_obj (v := .agg [.int .i64 a_e7.a0, .int .i64 a_e7.a1]) (z := eA2_Int a_e7) rfl rfl rfl (map_get ha_e7) rfl rfl ?_
        refine trO_mv rfl rfl ?_
        refine trO_mv rfl rfl ?_
        refine trO_chk fun hq => ?_
        refine trO_ixA_own (l := r5) (en := eA2_Int) rfl rfl rfl rfl rfl hq ?_
        refine trO_bind fun b_e8 hb_e8 => ?_
        refine trO_ld_obj (v := .agg [.int .i64 b_e8.a0, .int .i64 b_e8.a1]) (z := eA2_Int b_e8) rfl rfl rfl (map_get hb_e8) rfl rfl ?_
        refine trO_eqA (p := ((a_e7.a0 == b_e8.a0) && ((a_e7.a1 == b_e8.a1) && true))) rfl rfl rfl rfl ⟨rfl, ⟨rfl, trivial⟩⟩ rfl ?_
        refine trO_nil_draw (by kernel_rfl) ?_
        refine trX_seq ?_
        refine tr_cond (c := (!((a_e7.a0 == b_e8.a0) && ((a_e7.a1 == b_e8.a1) && true)))) rfl ?_ ?_
        ·
          refine tr_seq ?_
          refine tr_reg ?_
          refine trO_asg rfl rfl ?_
          refine trO_nil ?_
          refine trX_seq ?_
          refine tr_ret ?_
          refine trX_blk_ret ?_
          refine trX_seq_ret ?_
          refine trX_loop_ret ?_
          refine trX_blk_ret ?_
          refine trX_seq_ret ?_
          exact ret_ground (b := false) rfl (by first | (simp; done) | (simp; omega)) rfl rfl (by first | (simp; done) | (simp; omega)) rfl
        ·
          refine tr_skip ?_
          refine trX_blk_normal ?_
          refine trX_seq ?_
          refine tr_reg ?_
          refine trO_mv rfl rfl ?_
          refine trO_bin (v := .int .i64 (IntKind.i64.wrap (i6 + 1))) rfl rfl rfl rfl rfl ?_
          refine trO_asg rfl rfl ?_
          refine trO_nil ?_
          exact trX_loop (s := IntKind.i64.wrap (i6 + 1)) (_, _) (has_exact ⟨rfl, rfl, rfl, trivial⟩ ⟨rfl, rfl, trivial⟩)
      ·
        refine tr_exit ?_
        refine trX_seq_exit ?_
        refine trX_loop_exit ?_
        refine trX_blk_here ?_
        refine trX_seq ?_
        refine tr_seq ?_
        refine tr_reg ?_
        refine trO_asg rfl rfl ?_
        refine trO_nil ?_
        refine trX_seq ?_
        refine tr_ret ?_
        exact ret_ground (b := true) rfl (by first | (simp; done) | (simp; omega)) rfl rfl (by first | (simp; done) | (simp; omega)) rfl

end Go.Proofs.Ytihomlbcppfngaa
