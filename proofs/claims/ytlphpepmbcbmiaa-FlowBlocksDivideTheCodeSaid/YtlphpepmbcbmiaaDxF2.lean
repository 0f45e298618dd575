/-
  Programs on typed data, and the proofs that the code does what they say; written by a program (dx.py).
-/
import Derived.Test.YtlphpepmbcbmiaaProg
import Derived.Test.YtlphpepmbcbmiaaDx4
import Derived.Test.YtlphpepmbcbmiaaDy1
import Derived.KernelRfl
import Derived.Test.YtlphpepmbcbmiaaDxP
import Derived.Test.YtlphpepmbcbmiaaDxF1
namespace Go.Proofs.Ytlphpepmbcbmiaa
open Go Go.Dw Go.Proofs
set_option maxRecDepth 100000
def dc55 : DCode := (.seq (.reg [⟨(some 8), (.new (.agg [(.int .i64 0), .nils, .nils]) 3 27), none, []⟩] false) (.seq (.reg [⟨(some 16), (.mv (.t 2)), none, []⟩, ⟨(some 17), (.mv (.t 1)), none, []⟩, ⟨(some 18), (.ixA 1 (.t 16) (.t 17)), none, [0, 1]⟩, ⟨(some 19), (.ld 1 false (.t 18)), none, [2]⟩, ⟨(some 20), (.mv (.t 0)), none, []⟩, ⟨(some 21), (.call (.c (.clo 61 [])) [(.t 20), (.c (.int .i64 6))]), none, [4]⟩, ⟨(some 22), (.bld [(.int .i64 0), .nils, .nils] [⟨0, ⟨1, (.t 19)⟩⟩, ⟨1, ⟨1, (.t 21)⟩⟩]), none, [3, 5]⟩, ⟨(some 9), (.new (.agg [(.int .i64 0), .nils, .nils]) 3 27), none, []⟩, ⟨none, (.st 3 (.t 9) (.t 22)), none, [7, 6, 5, 0, 1, 2, 3, 4, 5, 6, 7]⟩] true) (.seq (.reg [⟨(some 10), (.asg (.c .nils) (some ⟨5, 52⟩)), none, []⟩] false) (.seq (.seq (.reg [⟨(some 11), (.asg (.c (.int .i64 0)) none), none, []⟩] false) (.block 0 (.loop (.seq (.seq (.reg [⟨(some 23), (.mv (.t 11)), none, []⟩, ⟨(some 24), (.fldA 1 (.t 9)), none, []⟩, ⟨(some 25), (.ld 1 false (.t 24)), none, []⟩, ⟨(some 26), (.len false (.t 25)), none, []⟩, ⟨(some 27), (.bin .lss (.t 23) (.t 26)), none, []⟩] false) (.cond (.t 27) .skip (.exit 0))) (.seq (.block 1 (.seq (.reg [⟨(some 30), (.mv (.t 0)), none, []⟩, ⟨(some 31), (.call (.c (.clo 39 [])) [(.t 30), (.c (.int .i64 4))]), none, []⟩, ⟨(some 32), (.bin .lss (.t 31) (.c (.int .i64 3))), none, []⟩] false) (.cond (.t 32) (.reg [⟨(some 33), (.mv (.t 10)), none, []⟩, ⟨(some 34), (.mv (.t 11)), none, []⟩, ⟨(some 35), (.mv (.t 0)), none, []⟩, ⟨(some 36), (.call (.c (.clo 39 [])) [(.t 35), (.c (.int .i64 4))]), none, []⟩, ⟨(some 37), (.bld [(.int .i64 0), (.int .i64 0), (.int .i64 0), (.int .i64 0), (.int .u64 0)] [⟨0, ⟨1, (.c (.int .i64 16))⟩⟩, ⟨1, ⟨1, (.t 34)⟩⟩, ⟨2, ⟨1, (.t 36)⟩⟩]), none, []⟩, ⟨(some 38), (.bldS 5 52 (.agg [(.int .i64 0), (.int .i64 0), (.int .i64 0), (.int .i64 0), (.int .u64 0)]) 1 [⟨0, (.t 37)⟩]), none, []⟩, ⟨(some 39), (.app 5 52 40 (.t 33) (.t 38)), none, []⟩, ⟨(some 10), (.asg (.t 39) (some ⟨5, 52⟩)), none, []⟩] false) .skip))) (.reg [⟨(some 28), (.mv (.t 11)), none, []⟩, ⟨(some 29), (.bin .add (.t 28) (.c (.int .i64 1))), none, []⟩, ⟨(some 11), (.asg (.t 29) none), none, []⟩] false)))))) (.seq (.seq (.reg [⟨(some 40), (.mv (.t 0)), none, []⟩, ⟨(some 41), (.mv (.t 3)), none, []⟩, ⟨(some 42), (.bin .add (.t 41) (.c (.int .i64 1))), none, []⟩, ⟨(some 43), (.call (.c (.clo 39 [])) [(.t 40), (.t 42)]), none, []⟩, ⟨(some 12), (.asg (.t 43) none), none, []⟩] false) (.block 2 (.loop (.seq (.seq (.reg [⟨(some 44), (.mv (.t 12)), none, []⟩, ⟨(some 45), (.bin .gtr (.t 44) (.c (.int .i64 0))), none, []⟩] false) (.cond (.t 45) .skip (.exit 2))) (.seq (.block 3 (.seq (.reg [⟨(some 48), (.mv (.t 10)), none, []⟩, ⟨(some 49), (.mv (.t 0)), none, []⟩, ⟨(some 50), (.ld 3 true (.t 9)), none, []⟩, ⟨(some 51), (.mv (.t 1)), none, []⟩, ⟨(some 52), (.mv (.t 2)), none, []⟩, ⟨(some 53), (.call (.c (.clo 62 [])) [(.t 49), (.t 50), (.t 51), (.t 52)]), none, []⟩, ⟨(some 54), (.app 5 52 40 (.t 48) (.t 53)), none, []⟩, ⟨(some 10), (.asg (.t 54) (some ⟨5, 52⟩)), none, []⟩] false) (.seq (.reg [⟨(some 55), (.mv (.t 0)), none, []⟩, ⟨(some 56), (.call (.c (.clo 39 [])) [(.t 55), (.c (.int .i64 9))]), none, []⟩] false) (.block 4 (.seq (.reg [⟨(some 58), (.bin .eql (.t 56) (.c (.int .i64 7))), none, []⟩, ⟨(some 57), (.asg (.t 58) none), none, []⟩] false) (.cond (.t 57) (.reg [⟨(some 59), (.mv (.t 10)), none, []⟩, ⟨(some 60), (.mv (.t 0)), none, []⟩, ⟨(some 61), (.call (.c (.clo 39 [])) [(.t 60), (.c (.int .i64 4))]), none, []⟩, ⟨(some 62), (.bld [(.int .i64 0), (.int .i64 0), (.int .i64 0), (.int .i64 0), (.int .u64 0)] [⟨0, ⟨1, (.c (.int .i64 21))⟩⟩, ⟨1, ⟨1, (.t 61)⟩⟩, ⟨2, ⟨1, (.c (.int .i64 (-1)))⟩⟩]), none, []⟩, ⟨(some 63), (.bldS 5 52 (.agg [(.int .i64 0), (.int .i64 0), (.int .i64 0), (.int .i64 0), (.int .u64 0)]) 1 [⟨0, (.t 62)⟩]), none, []⟩, ⟨(some 64), (.app 5 52 40 (.t 59) (.t 63)), none, []⟩, ⟨(some 10), (.asg (.t 64) (some ⟨5, 52⟩)), none, []⟩] false) (.seq (.reg [⟨(some 66), (.bin .eql (.t 56) (.c (.int .i64 8))), none, []⟩, ⟨(some 65), (.asg (.t 66) none), none, []⟩] false) (.cond (.t 65) (.seq (.reg [⟨(some 67), (.mv (.t 0)), none, []⟩, ⟨(some 68), (.call (.c (.clo 39 [])) [(.t 67), (.c (.int .i64 3))]), none, []⟩, ⟨(some 69), (.bin .eql (.t 68) (.c (.int .i64 2))), none, []⟩] false) (.cond (.t 69) (.reg [⟨(some 70), (.mv (.t 10)), none, []⟩, ⟨(some 71), (.bld [(.int .i64 0), (.int .i64 0), (.int .i64 0), (.int .i64 0), (.int .u64 0)] [⟨0, ⟨1, (.c (.int .i64 20))⟩⟩, ⟨1, ⟨1, (.c (.int .i64 (-1)))⟩⟩]), none, []⟩, ⟨(some 72), (.bldS 5 52 (.agg [(.int .i64 0), (.int .i64 0), (.int .i64 0), (.int .i64 0), (.int .u64 0)]) 1 [⟨0, (.t 71)⟩]), none, []⟩, ⟨(some 73), (.app 5 52 40 (.t 70) (.t 72)), none, []⟩, ⟨(some 10), (.asg (.t 73) (some ⟨5, 52⟩)), none, []⟩] false) .skip)) .skip)))))))) (.reg [⟨(some 46), (.mv (.t 12)), none, []⟩, ⟨(some 47), (.bin .sub (.t 46) (.c (.int .i64 1))), none, []⟩, ⟨(some 12), (.asg (.t 47) none), none, []⟩] false)))))) (.seq (.reg [⟨(some 74), (.bld [(.int .i64 0), (.int .i64 0), (.int .i64 0), (.int .i64 0), (.int .u64 0)] [⟨0, ⟨1, (.c (.int .i64 23))⟩⟩]), none, []⟩, ⟨(some 13), (.new (.agg [(.int .i64 0), (.int .i64 0), (.int .i64 0), (.int .i64 0), (.int .u64 0)]) 5 52), none, []⟩, ⟨none, (.st 5 (.t 13) (.t 74)), none, []⟩] false) (.seq (.seq (.reg [⟨(some 75), (.mv (.t 0)), none, []⟩, ⟨(some 76), (.call (.c (.clo 39 [])) [(.t 75), (.c (.int .i64 12))]), none, []⟩, ⟨(some 77), (.bin .eql (.t 76) (.c (.int .i64 11))), none, []⟩] false) (.cond (.t 77) (.reg [⟨(some 78), (.mv (.t 0)), none, []⟩, ⟨(some 79), (.call (.c (.clo 63 [])) [(.t 78)]), none, []⟩, ⟨(some 80), (.bld [(.int .i64 0), (.int .i64 0), (.int .i64 0), (.int .i64 0), (.int .u64 0)] [⟨0, ⟨1, (.c (.int .i64 24))⟩⟩, ⟨4, ⟨1, (.t 79)⟩⟩]), none, []⟩, ⟨none, (.st 5 (.t 13) (.t 80)), none, []⟩] false) .skip)) (.seq (.reg [⟨(some 81), (.mv (.t 10)), none, []⟩, ⟨(some 82), (.ld 5 true (.t 13)), none, []⟩, ⟨(some 83), (.bldS 5 52 (.agg [(.int .i64 0), (.int .i64 0), (.int .i64 0), (.int .i64 0), (.int .u64 0)]) 1 [⟨0, (.t 82)⟩]), none, []⟩, ⟨(some 84), (.app 5 52 40 (.t 81) (.t 83)), none, []⟩, ⟨(some 10), (.asg (.t 84) (some ⟨5, 52⟩)), none, []⟩] false) (.seq (.seq (.reg [⟨(some 14), (.asg (.c (.int .i64 0)) none), none, []⟩] false) (.block 5 (.loop (.seq (.seq (.reg [⟨(some 85), (.mv (.t 14)), none, []⟩, ⟨(some 86), (.mv (.t 10)), none, []⟩, ⟨(some 87), (.len false (.t 86)), none, []⟩, ⟨(some 88), (.bin .lss (.t 85) (.t 87)), none, []⟩] false) (.cond (.t 88) .skip (.exit 5))) (.seq (.block 6 (.seq (.reg [⟨(some 91), (.mv (.t 14)), none, []⟩, ⟨(some 92), (.mv (.t 0)), none, []⟩, ⟨(some 93), (.call (.c (.clo 39 [])) [(.t 92), (.c (.int .i64 8))]), none, []⟩, ⟨(some 94), (.bin .add (.t 91) (.t 93)), none, []⟩, ⟨(some 95), (.bin .sub (.t 94) (.c (.int .i64 2))), none, []⟩, ⟨(some 15), (.asg (.t 95) none), none, []⟩] false) (.seq (.seq (.reg [⟨(some 96), (.mv (.t 15)), none, []⟩, ⟨(some 97), (.bin .lss (.t 96) (.c (.int .i64 0))), none, []⟩, ⟨(some 98), (.mv (.t 97)), none, []⟩, ⟨(some 99), (.mv (.t 15)), (some ⟨98, false⟩), []⟩, ⟨(some 100), (.mv (.t 10)), (some ⟨98, false⟩), []⟩, ⟨(some 101), (.len false (.t 100)), (some ⟨98, false⟩), []⟩, ⟨(some 102), (.bin .geq (.t 99) (.t 101)), (some ⟨98, false⟩), []⟩, ⟨(some 103), (.pick (.t 98) (.c (.bool true)) (.t 102)), none, []⟩] false) (.cond (.t 103) (.reg [⟨(some 104), (.mv (.t 10)), none, []⟩, ⟨(some 105), (.len false (.t 104)), none, []⟩, ⟨(some 106), (.bin .sub (.t 105) (.c (.int .i64 1))), none, []⟩, ⟨(some 15), (.asg (.t 106) none), none, []⟩] false) .skip)) (.block 7 (.seq (.reg [⟨(some 108), (.mv (.t 10)), none, []⟩, ⟨(some 109), (.mv (.t 14)), none, []⟩, ⟨(some 110), (.ixA 5 (.t 108) (.t 109)), none, []⟩, ⟨(some 111), (.fldA 0 (.t 110)), none, []⟩, ⟨(some 112), (.ld 1 false (.t 111)), none, []⟩, ⟨(some 113), (.bin .eql (.t 112) (.c (.int .i64 20))), none, []⟩, ⟨(some 114), (.mv (.t 113)), none, []⟩, ⟨(some 115), (.mv (.t 10)), (some ⟨114, true⟩), []⟩, ⟨(some 116), (.mv (.t 14)), (some ⟨114, true⟩), []⟩, ⟨(some 117), (.ixA 5 (.t 115) (.t 116)), (some ⟨114, true⟩), []⟩, ⟨(some 118), (.fldA 1 (.t 117)), (some ⟨114, true⟩), []⟩, ⟨(some 119), (.ld 1 false (.t 118)), (some ⟨114, true⟩), []⟩, ⟨(some 120), (.bin .lss (.t 119) (.c (.int .i64 0))), (some ⟨114, true⟩), []⟩, ⟨(some 121), (.pick (.t 114) (.t 120) (.c (.bool false))), none, []⟩, ⟨(some 107), (.asg (.t 121) none), none, []⟩] false) (.cond (.t 107) (.reg [⟨(some 122), (.mv (.t 10)), none, []⟩, ⟨(some 123), (.mv (.t 14)), none, []⟩, ⟨(some 124), (.mv (.t 15)), none, []⟩, ⟨(some 125), (.ixA 5 (.t 122) (.t 123)), none, []⟩, ⟨(some 126), (.fldA 1 (.t 125)), none, []⟩, ⟨none, (.st 1 (.t 126) (.t 124)), none, []⟩] false) (.seq (.reg [⟨(some 128), (.mv (.t 10)), none, []⟩, ⟨(some 129), (.mv (.t 14)), none, []⟩, ⟨(some 130), (.ixA 5 (.t 128) (.t 129)), none, []⟩, ⟨(some 131), (.fldA 0 (.t 130)), none, []⟩, ⟨(some 132), (.ld 1 false (.t 131)), none, []⟩, ⟨(some 133), (.bin .eql (.t 132) (.c (.int .i64 21))), none, []⟩, ⟨(some 134), (.mv (.t 133)), none, []⟩, ⟨(some 135), (.mv (.t 10)), (some ⟨134, true⟩), []⟩, ⟨(some 136), (.mv (.t 14)), (some ⟨134, true⟩), []⟩, ⟨(some 137), (.ixA 5 (.t 135) (.t 136)), (some ⟨134, true⟩), []⟩, ⟨(some 138), (.fldA 2 (.t 137)), (some ⟨134, true⟩), []⟩, ⟨(some 139), (.ld 1 false (.t 138)), (some ⟨134, true⟩), []⟩, ⟨(some 140), (.bin .lss (.t 139) (.c (.int .i64 0))), (some ⟨134, true⟩), []⟩, ⟨(some 141), (.pick (.t 134) (.t 140) (.c (.bool false))), none, []⟩, ⟨(some 127), (.asg (.t 141) none), none, []⟩] false) (.cond (.t 127) (.reg [⟨(some 142), (.mv (.t 10)), none, []⟩, ⟨(some 143), (.mv (.t 14)), none, []⟩, ⟨(some 144), (.mv (.t 15)), none, []⟩, ⟨(some 145), (.ixA 5 (.t 142) (.t 143)), none, []⟩, ⟨(some 146), (.fldA 2 (.t 145)), none, []⟩, ⟨none, (.st 1 (.t 146) (.t 144)), none, []⟩] false) .skip)))))))) (.reg [⟨(some 89), (.mv (.t 14)), none, []⟩, ⟨(some 90), (.bin .add (.t 89) (.c (.int .i64 1))), none, []⟩, ⟨(some 14), (.asg (.t 90) none), none, []⟩] false)))))) (.seq (.reg [⟨(some 147), (.mv (.t 10)), none, []⟩, ⟨(some 148), (.fldA 2 (.t 9)), none, []⟩, ⟨none, (.st 1 (.t 148) (.t 147)), none, []⟩] false) (.seq (.reg [⟨(some 149), (.ld 3 true (.t 9)), none, []⟩, ⟨none, (.st 3 (.t 8) (.t 149)), none, []⟩] false) .ret)))))))))))
theorem dc55_c : (Try.f55.body.bind (cCode Try.prog Try.f55.ntmps)) = some dc55 := by kernel_rfl
theorem dc55_r : Try.f55.results.toList.mapM (cRes Try.prog) = some [(.c 8 3 true)] := by kernel_rfl
def draw_Codes_function_enc (a : Tdraw_Codes × Int × (List Int) × Int) : List D := [edraw_Codes a.1, .int .i64 a.2.1, .sl (a.2.2.1.map eI64), .int .i64 a.2.2.2]
def draw_Codes_function_dec (ds : List D) : Tdraw_Codes × Int × (List Int) × Int := (udraw_Codes (ds.getD 0 .top), uI (ds.getD 1 .top), (uL uI) (ds.getD 2 .top), uI (ds.getD 3 .top))
theorem draw_Codes_function_de (a : Tdraw_Codes × Int × (List Int) × Int) : draw_Codes_function_dec (draw_Codes_function_enc a) = a := by simp [draw_Codes_function_dec, draw_Codes_function_enc, uI, uBo, uS, uL_e (u := uI) (en := eI64) (fun _ => rfl)]
def draw_Codes_function_R (b : TFunc × Tdraw_Codes) : D := eFunc b.1
def draw_Codes_function_E (b : TFunc × Tdraw_Codes) : List D := [edraw_Codes b.2]
noncomputable def draw_Codes_function_S : Dw.Spec := fSpec [(0, (2, 80))] .val draw_Codes_function_enc draw_Codes_function_dec (fun a => draw_Codes_function a.1 a.2.1 a.2.2.1 a.2.2.2) draw_Codes_function_R draw_Codes_function_E
set_option maxHeartbeats 4000000 in
theorem draw_Codes_function_ok : SpecOk Try.prog 55 draw_Codes_function_S := by
  refine fn_ok (specs_ok (l := [(61, draw_Codes_Slots_S), (39, draw_Codes_Next_S), (62, draw_Codes_body_S), (63, draw_Codes_Word_S)]) (by simp [draw_Codes_Slots_ok, draw_Codes_Next_ok, draw_Codes_body_ok, draw_Codes_Word_ok])) Try.func55 (by decide) dc55_c dc55_r (np := 4) (by decide) draw_Codes_function_de (fun _ => rfl) ?_
  rintro ⟨c1, i2, params3, most4⟩
  show Tr (specs [(61, draw_Codes_Slots_S), (39, draw_Codes_Next_S), (62, draw_Codes_body_S), (63, draw_Codes_Word_S)]) dc55 (kRet [(0, (2, 80))] .val [(.c 8 3 true)] 4 draw_Codes_function_R draw_Codes_function_E) ⟨[(0, .optr 0 0 0 0), (1, .int .i64 i2), (2, .sl (params3.map eI64)), (3, .int .i64 most4)], [(0, some (0, ⟨false, true, 2, 80, [.agg [.sl (c1.list.map eU8), .int .i64 c1.at_]]⟩))], 4⟩ (draw_Codes_function c1 i2 params3 most4)
  unfold dc55 draw_Codes_function
  refine tr_seq ?_
  refine tr_reg ?_
  refine trO_new rfl ?_
  refine trO_nil ?_
  refine trX_seq ?_
  refine tr_seq ?_
  refine tr_reg ?_
  refine trO_mv rfl rfl ?_
  refine trO_mv rfl rfl ?_
  refine trO_bind fun x_x5 hx_x5 => ?_
  refine trO_ixA_sl (en := eI64) rfl rfl rfl hx_x5 rfl ?_
  refine trO_ld_f (v := .int .i64 x_x5) rfl rfl rfl rfl ?_
  refine trO_mv rfl rfl ?_
  refine trO_bind fun r6 hr6 => ?_
  refine trO_call_row (l := r6.1) (en := eSlot) (c1, 6) rfl rfl rfl draw_Codes_Slots_de rfl rfl (by simp) rfl hr6 rfl ?_
  refine trO_bld (cs := [.int .i64 x_x5, .osl 21 _ 0 r6.1.length, .nils]) (ps := [(0, 1, .int .i64 x_x5), (1, 1, .osl 21 _ 0 r6.1.length)]) rfl rfl rfl rfl ?_
  refine trO_new rfl ?_
  refine trO_st_var (z' := .agg [.int .i64 x_x5, .osl 21 _ 0 r6.1.length, .nils]) rfl rfl rfl rfl rfl rfl rfl rfl rfl ?_
  refine trO_nil_draw (by kernel_rfl) ?_
  refine trX_seq ?_
  refine tr_seq ?_
  refine tr_reg ?_
  refine trO_asg_nil (α := TInstr) rfl eInstr rfl ?_
  refine trO_nil ?_
  refine trX_seq ?_
  refine tr_seq ?_
  refine tr_seq ?_
  refine tr_reg ?_
  refine trO_asg rfl rfl ?_
  refine trO_nil ?_
  refine trX_seq ?_
  refine tr_block ?_
  refine tr_loop (E := fun (s : (List Int) × Int × (List TInstr) × Int) (g : Nat × Nat × Nat × Nat) => [(0, .optr 0 0 0 0), (1, .int .i64 i2), (2, .sl (params3.map eI64)), (3, .int .i64 most4), (8, .optr 8 g.1 0 0), (9, .optr 9 g.2.1 0 0), (10, .osl 10 g.2.2.1 0 s.2.2.1.length), (11, .int .i64 s.2.2.2)]) (O := fun s g => [(0, some (0, ⟨false, true, 2, 80, [.agg [.sl (s.1.map eU8), .int .i64 s.2.1]]⟩)), (8, some (g.1, ⟨false, true, 3, 27, [.agg [.int .i64 0, .nils, .nils]]⟩)), (9, some (g.2.1, ⟨false, true, 3, 27, [.agg [.int .i64 x_x5, .osl 21 g.2.2.2 0 r6.1.length, .nils]]⟩)), (10, some (g.2.2.1, ⟨false, false, 5, 52, s.2.2.1.map eInstr⟩)), (21, some (g.2.2.2, ⟨false, false, 2, 109, r6.1.map eSlot⟩))]) (body := fun s => draw_Codes_function_b1 r6 most4 x_x5 i2 params3 s.1 s.2.1 s.2.2.1 s.2.2.2) (s := (r6.2.list, r6.2.at_, ([] : List TInstr), 0)) (_, _, _, _) (has_exact ⟨rfl, rfl, rfl, rfl, rfl, rfl, rfl, rfl, trivial⟩ ⟨rfl, rfl, rfl, rfl, rfl, trivial⟩) ?_
  rintro ⟨c7, c8, code9, s10⟩ ⟨v8, v9, v10, v21⟩ nn
  show Tr _ _ _ ⟨[(0, .optr 0 0 0 0), (1, .int .i64 i2), (2, .sl (params3.map eI64)), (3, .int .i64 most4), (8, .optr 8 v8 0 0), (9, .optr 9 v9 0 0), (10, .osl 10 v10 0 code9.length), (11, .int .i64 s10)], [(0, some (0, ⟨false, true, 2, 80, [.agg [.sl (c7.map eU8), .int .i64 c8]]⟩)), (8, some (v8, ⟨false, true, 3, 27, [.agg [.int .i64 0, .nils, .nils]]⟩)), (9, some (v9, ⟨false, true, 3, 27, [.agg [.int .i64 x_x5, .osl 21 v21 0 r6.1.length, .nils]]⟩)), (10, some (v10, ⟨false, false, 5, 52, code9.map eInstr⟩)), (21, some (v21, ⟨false, false, 2, 109, r6.1.map eSlot⟩))], _⟩ (draw_Codes_function_b1 r6 most4 x_x5 i2 params3 c7 c8 code9 s10)
  unfold draw_Codes_function_b1
  refine tr_seq ?_
  refine tr_seq ?_
  refine tr_reg ?_
  refine trO_mv rfl rfl ?_
  refine trO_fldA rfl rfl ?_
  refine trO_ld_obj (v := .osl 21 _ 0 r6.1.length) (z := .agg [.int .i64 x_x5, .osl 21 _ 0 r6.1.length, .nils]) rfl rfl rfl rfl rfl rfl ?_
  refine trO_len_own rfl rfl ?_
  refine trO_bin (v := .bool (decide (s10 < (r6.1.length : Int)))) rfl rfl rfl rfl rfl ?_
  refine trO_nil ?_
  refine trX_seq ?_
  refine tr_cond (c := (decide (s10 < (r6.1.length : Int)))) rfl ?_ ?_
  ·
    refine tr_skip ?_
    refine trX_seq ?_
    refine tr_seq ?_
    refine tr_block ?_
    refine tr_seq ?_
    refine tr_reg ?_
    refine trO_mv rfl rfl ?_
    refine trO_bind fun r11 hr11 => ?_
    refine trO_call_val ((Tdraw_Codes.mk c7 c8), 4) rfl rfl rfl draw_Codes_Next_de rfl rfl (by simp) rfl hr11 ?_
    refine trO_bin (v := .bool (decide (r11.1 < 3))) rfl rfl rfl rfl rfl ?_
    refine trO_nil ?_
    refine trX_seq ?_
    refine tr_cond (c := (decide (r11.1 < 3))) rfl ?_ ?_
    ·
      refine tr_reg ?_
      refine trO_mv rfl rfl ?_
      refine trO_mv rfl rfl ?_
      refine trO_mv rfl rfl ?_
      refine trO_bind fun r12 hr12 => ?_
      refine trO_call_val (r11.2, 4) rfl rfl rfl draw_Codes_Next_de rfl rfl (by simp) rfl hr12 ?_
      refine trO_bld (cs := [.int .i64 16, .int .i64 s10, .int .i64 r12.1, .int .i64 0, .int .u64 0]) (ps := [(0, 1, .int .i64 16), (1, 1, .int .i64 s10), (2, 1, .int .i64 r12.1)]) rfl rfl rfl rfl ?_
      refine trO_bldS ([(TInstr.mk 16 s10 r12.1 0 0)] : List TInstr) eInstr rfl rfl rfl (by simp) rfl rfl rfl ?_
      refine trO_chk fun hq => ?_
      refine trO_app (code9) (([(TInstr.mk 16 s10 r12.1 0 0)] : List TInstr)) eInstr rfl rfl rfl rfl rfl rfl rfl (by simp) (take_drop0_map' _ _ rfl) rfl rfl (by simp) (take_len_map' _ _ rfl) (fun _ => rfl) rfl hq ?_
      refine trO_asg_own (l := code9 ++ ([(TInstr.mk 16 s10 r12.1 0 0)] : List TInstr)) (en := eInstr) rfl rfl rfl rfl ?_
      refine trO_nil ?_
      refine trX_blk_normal ?_
      refine trX_seq ?_
      refine tr_reg ?_
      refine trO_mv rfl rfl ?_
      refine trO_bin (v := .int .i64 (IntKind.i64.wrap (s10 + 1))) rfl rfl rfl rfl rfl ?_
      refine trO_asg rfl rfl ?_
      refine trO_nil ?_
      exact trX_loop (s := (r12.2.list, r12.2.at_, code9 ++ ([(TInstr.mk 16 s10 r12.1 0 0)] : List TInstr), IntKind.i64.wrap (s10 + 1))) (_, _, _, _) (has_exact ⟨rfl, rfl, rfl, rfl, rfl, rfl, rfl, rfl, trivial⟩ ⟨rfl, rfl, rfl, rfl, rfl, trivial⟩)
    ·
      refine tr_skip ?_
      refine trX_blk_normal ?_
      refine trX_seq ?_
      refine tr_reg ?_
      refine trO_mv rfl rfl ?_
      refine trO_bin (v := .int .i64 (IntKind.i64.wrap (s10 + 1))) rfl rfl rfl rfl rfl ?_
      refine trO_asg rfl rfl ?_
      refine trO_nil ?_
      exact trX_loop (s := (r11.2.list, r11.2.at_, code9, IntKind.i64.wrap (s10 + 1))) (_, _, _, _) (has_exact ⟨rfl, rfl, rfl, rfl, rfl, rfl, rfl, rfl, trivial⟩ ⟨rfl, rfl, rfl, rfl, rfl, trivial⟩)
  ·
    refine tr_exit ?_
    refine trX_seq_exit ?_
    refine trX_loop_exit ?_
    refine trX_blk_here ?_
    refine trX_seq ?_
    refine tr_seq ?_
    refine tr_seq ?_
    refine tr_reg ?_
    refine trO_mv rfl rfl ?_
    refine trO_mv rfl rfl ?_
    refine trO_bin (v := .int .i64 (IntKind.i64.wrap (most4 + 1))) rfl rfl rfl rfl rfl ?_
    refine trO_bind fun r13 hr13 => ?_
    refine trO_call_val ((Tdraw_Codes.mk c7 c8), IntKind.i64.wrap (most4 + 1)) rfl rfl rfl draw_Codes_Next_de rfl rfl (by simp) rfl hr13 ?_
    refine trO_asg rfl rfl ?_
    refine trO_nil ?_
    refine trX_seq ?_
    refine tr_block ?_
    refine tr_loop (E := fun (s : (List Int) × Int × (List TInstr) × (List TSlot) × Int) (g : Nat × Nat × Nat) => [(0, .optr 0 0 0 0), (1, .int .i64 i2), (2, .sl (params3.map eI64)), (8, .optr 8 g.1 0 0), (9, .optr 9 g.2.1 0 0), (10, .osl 10 g.2.2 0 s.2.2.1.length), (12, .int .i64 s.2.2.2.2)]) (O := fun s g => [(0, some (0, ⟨false, true, 2, 80, [.agg [.sl (s.1.map eU8), .int .i64 s.2.1]]⟩)), (8, some (g.1, ⟨false, true, 3, 27, [.agg [.int .i64 0, .nils, .nils]]⟩)), (9, some (g.2.1, ⟨false, true, 3, 27, [.agg [.int .i64 x_x5, .sl (s.2.2.2.1.map eSlot), .nils]]⟩)), (10, some (g.2.2, ⟨false, false, 5, 52, s.2.2.1.map eInstr⟩))]) (body := fun s => draw_Codes_function_b2 x_x5 i2 params3 s.1 s.2.1 s.2.2.1 s.2.2.2.1 s.2.2.2.2) (s := (r13.2.list, r13.2.at_, code9, r6.1, r13.1)) (_, _, _) (has_conv [(21, some (_, ⟨true, false, 2, 109, r6.1.map eSlot⟩))] ⟨⟨_, _, rfl, rfl, rfl⟩, trivial⟩ ⟨(conv_same rfl), (conv_same rfl), (conv_same rfl), (conv_same rfl), (conv_same rfl), (conv_same rfl), (conv_same rfl), trivial⟩ ⟨(.inl rfl), (.inl rfl), (.inr ⟨_, _, _, _, rfl, rfl, rfl, rfl, conv_agg rfl ⟨(convC_same rfl), (convC_own (l := r6.1) (en := eSlot) rfl rfl rfl (by simp)), (convC_same rfl), trivial⟩⟩), (.inl rfl), trivial⟩) ?_
    rintro ⟨c14, c15, code16, f17, n18⟩ ⟨v8, v9, v10⟩ nn
    show Tr _ _ _ ⟨[(0, .optr 0 0 0 0), (1, .int .i64 i2), (2, .sl (params3.map eI64)), (8, .optr 8 v8 0 0), (9, .optr 9 v9 0 0), (10, .osl 10 v10 0 code16.length), (12, .int .i64 n18)], [(0, some (0, ⟨false, true, 2, 80, [.agg [.sl (c14.map eU8), .int .i64 c15]]⟩)), (8, some (v8, ⟨false, true, 3, 27, [.agg [.int .i64 0, .nils, .nils]]⟩)), (9, some (v9, ⟨false, true, 3, 27, [.agg [.int .i64 x_x5, .sl (f17.map eSlot), .nils]]⟩)), (10, some (v10, ⟨false, false, 5, 52, code16.map eInstr⟩))], _⟩ (draw_Codes_function_b2 x_x5 i2 params3 c14 c15 code16 f17 n18)
    unfold draw_Codes_function_b2
    refine tr_seq ?_
    refine tr_seq ?_
    refine tr_reg ?_
    refine trO_mv rfl rfl ?_
    refine trO_bin (v := .bool (decide (n18 > 0))) rfl rfl rfl rfl rfl ?_
    refine trO_nil ?_
    refine trX_seq ?_
    refine tr_cond (c := (decide (n18 > 0))) rfl ?_ ?_
    ·
      refine tr_skip ?_
      refine trX_seq ?_
      refine tr_seq ?_
      refine tr_block ?_
      refine tr_seq ?_
      refine tr_reg ?_
      refine trO_mv rfl rfl ?_
      refine trO_mv rfl rfl ?_
      refine trO_ld_obj (v := .agg [.int .i64 x_x5, .sl (f17.map eSlot), .nils]) (z := .agg [.int .i64 x_x5, .sl (f17.map eSlot), .nils]) rfl rfl rfl rfl rfl rfl ?_
      refine trO_mv rfl rfl ?_
      refine trO_mv rfl rfl ?_
      refine trO_bind fun r19 hr19 => ?_
      refine trO_call_row (l := r19.1) (en := eInstr) ((Tdraw_Codes.mk c14 c15), (TFunc.mk x_x5 f17 ([])), i2, params3) rfl rfl rfl draw_Codes_body_de rfl rfl (by simp) (by first | rfl | (simp only [take_drop0_map, take_sub_map]; rfl) | simp [draw_Codes_body_enc, edraw_Codes, eFunc]) hr19 rfl ?_
      refine trO_chk fun hq => ?_
      refine trO_app (code16) (r19.1) eInstr rfl rfl rfl rfl rfl rfl rfl (by simp) (take_drop0_map' _ _ rfl) rfl rfl (by simp) (take_len_map' _ _ rfl) (fun _ => rfl) rfl hq ?_
      refine trO_asg_own (l := code16 ++ r19.1) (en := eInstr) rfl rfl rfl rfl ?_
      refine trO_nil ?_
      refine trX_seq ?_
      refine tr_seq ?_
      refine tr_reg ?_
      refine trO_mv rfl rfl ?_
      refine trO_bind fun r20 hr20 => ?_
      refine trO_call_val (r19.2, 9) rfl rfl rfl draw_Codes_Next_de rfl rfl (by simp) rfl hr20 ?_
      refine trO_nil ?_
      refine trX_seq ?_
      refine tr_block ?_
      refine tr_seq ?_
      refine tr_reg ?_
      refine trO_bin (v := .bool (r20.1 == 7)) rfl rfl rfl rfl rfl ?_
      refine trO_asg rfl rfl ?_
      refine trO_nil ?_
      refine trX_seq ?_
      refine tr_cond (c := (r20.1 == 7)) rfl ?_ ?_
      ·
        refine tr_reg ?_
        refine trO_mv rfl rfl ?_
        refine trO_mv rfl rfl ?_
        refine trO_bind fun r21 hr21 => ?_
        refine trO_call_val (r20.2, 4) rfl rfl rfl draw_Codes_Next_de rfl rfl (by simp) rfl hr21 ?_
        refine trO_bld (cs := [.int .i64 21, .int .i64 r21.1, .int .i64 (-1), .int .i64 0, .int .u64 0]) (ps := [(0, 1, .int .i64 21), (1, 1, .int .i64 r21.1), (2, 1, .int .i64 (-1))]) rfl rfl rfl rfl ?_
        refine trO_bldS ([(TInstr.mk 21 r21.1 (-1) 0 0)] : List TInstr) eInstr rfl rfl rfl (by simp) rfl rfl rfl ?_
        refine trO_chk fun hq => ?_
        refine trO_app (code16 ++ r19.1) (([(TInstr.mk 21 r21.1 (-1) 0 0)] : List TInstr)) eInstr rfl rfl rfl rfl rfl rfl rfl (by simp) (take_drop0_map' _ _ rfl) rfl rfl (by simp) (take_len_map' _ _ rfl) (fun _ => rfl) rfl hq ?_
        refine trO_asg_own (l := (code16 ++ r19.1) ++ ([(TInstr.mk 21 r21.1 (-1) 0 0)] : List TInstr)) (en := eInstr) rfl rfl rfl rfl ?_
        refine trO_nil ?_
        refine trX_blk_normal ?_
        refine trX_blk_normal ?_
        refine trX_seq ?_
        refine tr_reg ?_
        refine trO_mv rfl rfl ?_
        refine trO_bin (v := .int .i64 (IntKind.i64.wrap (n18 - 1))) rfl rfl rfl rfl rfl ?_
        refine trO_asg rfl rfl ?_
        refine trO_nil ?_
        exact trX_loop (s := (r21.2.list, r21.2.at_, (code16 ++ r19.1) ++ ([(TInstr.mk 21 r21.1 (-1) 0 0)] : List TInstr), f17, IntKind.i64.wrap (n18 - 1))) (_, _, _) (has_exact ⟨rfl, rfl, rfl, rfl, rfl, rfl, rfl, trivial⟩ ⟨rfl, rfl, rfl, rfl, trivial⟩)
      ·
        refine tr_seq ?_
        refine tr_reg ?_
        refine trO_bin (v := .bool (r20.1 == 8)) rfl rfl rfl rfl rfl ?_
        refine trO_asg rfl rfl ?_
        refine trO_nil ?_
        refine trX_seq ?_
        refine tr_cond (c := (r20.1 == 8)) rfl ?_ ?_
        ·
          refine tr_seq ?_
          refine tr_reg ?_
          refine trO_mv rfl rfl ?_
          refine trO_bind fun r22 hr22 => ?_
          refine trO_call_val (r20.2, 3) rfl rfl rfl draw_Codes_Next_de rfl rfl (by simp) rfl hr22 ?_
          refine trO_bin (v := .bool (r22.1 == 2)) rfl rfl rfl rfl rfl ?_
          refine trO_nil ?_
          refine trX_seq ?_
          refine tr_cond (c := (r22.1 == 2)) rfl ?_ ?_
          ·
            refine tr_reg ?_
            refine trO_mv rfl rfl ?_
            refine trO_bld (cs := [.int .i64 20, .int .i64 (-1), .int .i64 0, .int .i64 0, .int .u64 0]) (ps := [(0, 1, .int .i64 20), (1, 1, .int .i64 (-1))]) rfl rfl rfl rfl ?_
            refine trO_bldS ([(TInstr.mk 20 (-1) 0 0 0)] : List TInstr) eInstr rfl rfl rfl (by simp) rfl rfl rfl ?_
            refine trO_chk fun hq => ?_
            refine trO_app (code16 ++ r19.1) (([(TInstr.mk 20 (-1) 0 0 0)] : List TInstr)) eInstr rfl rfl rfl rfl rfl rfl rfl (by simp) (take_drop0_map' _ _ rfl) rfl rfl (by simp) (take_len_map' _ _ rfl) (fun _ => rfl) rfl hq ?_
            refine trO_asg_own (l := (code16 ++ r19.1) ++ ([(TInstr.mk 20 (-1) 0 0 0)] : List TInstr)) (en := eInstr) rfl rfl rfl rfl ?_
            refine trO_nil ?_
            refine trX_blk_normal ?_
            refine trX_blk_normal ?_
            refine trX_seq ?_
            refine tr_reg ?_
            refine trO_mv rfl rfl ?_
            refine trO_bin (v := .int .i64 (IntKind.i64.wrap (n18 - 1))) rfl rfl rfl rfl rfl ?_
            refine trO_asg rfl rfl ?_
            refine trO_nil ?_
            exact trX_loop (s := (r22.2.list, r22.2.at_, (code16 ++ r19.1) ++ ([(TInstr.mk 20 (-1) 0 0 0)] : List TInstr), f17, IntKind.i64.wrap (n18 - 1))) (_, _, _) (has_exact ⟨rfl, rfl, rfl, rfl, rfl, rfl, rfl, trivial⟩ ⟨rfl, rfl, rfl, rfl, trivial⟩)
          ·
            refine tr_skip ?_
            refine trX_blk_normal ?_
            refine trX_blk_normal ?_
            refine trX_seq ?_
            refine tr_reg ?_
            refine trO_mv rfl rfl ?_
            refine trO_bin (v := .int .i64 (IntKind.i64.wrap (n18 - 1))) rfl rfl rfl rfl rfl ?_
            refine trO_asg rfl rfl ?_
            refine trO_nil ?_
            exact trX_loop (s := (r22.2.list, r22.2.at_, code16 ++ r19.1, f17, IntKind.i64.wrap (n18 - 1))) (_, _, _) (has_exact ⟨rfl, rfl, rfl, rfl, rfl, rfl, rfl, trivial⟩ ⟨rfl, rfl, rfl, rfl, trivial⟩)
        ·
          refine tr_skip ?_
          refine trX_blk_normal ?_
          refine trX_blk_normal ?_
          refine trX_seq ?_
          refine tr_reg ?_
          refine trO_mv rfl rfl ?_
          refine trO_bin (v := .int .i64 (IntKind.i64.wrap (n18 - 1))) rfl rfl rfl rfl rfl ?_
          refine trO_asg rfl rfl ?_
          refine trO_nil ?_
          exact trX_loop (s := (r20.2.list, r20.2.at_, code16 ++ r19.1, f17, IntKind.i64.wrap (n18 - 1))) (_, _, _) (has_exact ⟨rfl, rfl, rfl, rfl, rfl, rfl, rfl, trivial⟩ ⟨rfl, rfl, rfl, rfl, trivial⟩)
    ·
      refine tr_exit ?_
      refine trX_seq_exit ?_
      refine trX_loop_exit ?_
      refine trX_blk_here ?_
      refine trX_seq ?_
      refine tr_seq ?_
      refine tr_reg ?_
      refine trO_bld (cs := [.int .i64 23, .int .i64 0, .int .i64 0, .int .i64 0, .int .u64 0]) (ps := [(0, 1, .int .i64 23)]) rfl rfl rfl rfl ?_
      refine trO_new rfl ?_
      refine trO_st_var (z' := .agg [.int .i64 23, .int .i64 0, .int .i64 0, .int .i64 0, .int .u64 0]) rfl rfl rfl rfl rfl rfl rfl rfl rfl ?_
      refine trO_nil ?_
      refine trX_seq ?_
      refine tr_seq_cut (E := fun (s : (List Int) × Int × Int × Int) (g : Nat × Nat × Nat × Nat) => [(0, .optr 0 0 0 0), (8, .optr 8 g.1 0 0), (9, .optr 9 g.2.1 0 0), (10, .osl 10 g.2.2.1 0 code16.length), (13, .optr 13 g.2.2.2 0 0)]) (O := fun s g => [(0, some (0, ⟨false, true, 2, 80, [.agg [.sl (s.1.map eU8), .int .i64 s.2.1]]⟩)), (8, some (g.1, ⟨false, true, 3, 27, [.agg [.int .i64 0, .nils, .nils]]⟩)), (9, some (g.2.1, ⟨false, true, 3, 27, [.agg [.int .i64 x_x5, .sl (f17.map eSlot), .nils]]⟩)), (10, some (g.2.2.1, ⟨false, false, 5, 52, code16.map eInstr⟩)), (13, some (g.2.2.2, ⟨false, true, 5, 52, [.agg [.int .i64 s.2.2.1, .int .i64 0, .int .i64 0, .int .i64 0, .int .u64 s.2.2.2]]⟩))]) (j := fun s => draw_Codes_function_j3 code16 x_x5 f17 s.1 s.2.1 s.2.2.1 s.2.2.2) ?_ ?_
      ·
        refine tr_seq ?_
        refine tr_reg ?_
        refine trO_mv rfl rfl ?_
        refine trO_bind fun r27 hr27 => ?_
        refine trO_call_val ((Tdraw_Codes.mk c14 c15), 12) rfl rfl rfl draw_Codes_Next_de rfl rfl (by simp) rfl hr27 ?_
        refine trO_bin (v := .bool (r27.1 == 11)) rfl rfl rfl rfl rfl ?_
        refine trO_nil ?_
        refine trX_seq ?_
        refine tr_cond (c := (r27.1 == 11)) rfl ?_ ?_
        ·
          refine tr_reg ?_
          refine trO_mv rfl rfl ?_
          refine trO_bind fun r28 hr28 => ?_
          refine trO_call_val r27.2 rfl rfl rfl draw_Codes_Word_de rfl rfl (by simp) rfl hr28 ?_
          refine trO_bld (cs := [.int .i64 24, .int .i64 0, .int .i64 0, .int .i64 0, .int .u64 r28.1]) (ps := [(0, 1, .int .i64 24), (4, 1, .int .u64 r28.1)]) rfl rfl rfl rfl ?_
          refine trO_st_var (z' := .agg [.int .i64 24, .int .i64 0, .int .i64 0, .int .i64 0, .int .u64 r28.1]) rfl rfl rfl rfl rfl rfl rfl rfl rfl ?_
          refine trO_nil ?_
          exact trX_cut (s := (r28.2.list, r28.2.at_, 24, r28.1)) (_, _, _, _) (has_exact ⟨rfl, rfl, rfl, rfl, rfl, trivial⟩ ⟨rfl, rfl, rfl, rfl, rfl, trivial⟩)
        ·
          refine tr_skip ?_
          exact trX_cut (s := (r27.2.list, r27.2.at_, 23, 0)) (_, _, _, _) (has_exact ⟨rfl, rfl, rfl, rfl, rfl, trivial⟩ ⟨rfl, rfl, rfl, rfl, rfl, trivial⟩)
      ·
        rintro ⟨c23, c24, end25, end26⟩ ⟨v8, v9, v10, v13⟩ nn
        show Tr _ _ _ ⟨[(0, .optr 0 0 0 0), (8, .optr 8 v8 0 0), (9, .optr 9 v9 0 0), (10, .osl 10 v10 0 code16.length), (13, .optr 13 v13 0 0)], [(0, some (0, ⟨false, true, 2, 80, [.agg [.sl (c23.map eU8), .int .i64 c24]]⟩)), (8, some (v8, ⟨false, true, 3, 27, [.agg [.int .i64 0, .nils, .nils]]⟩)), (9, some (v9, ⟨false, true, 3, 27, [.agg [.int .i64 x_x5, .sl (f17.map eSlot), .nils]]⟩)), (10, some (v10, ⟨false, false, 5, 52, code16.map eInstr⟩)), (13, some (v13, ⟨false, true, 5, 52, [.agg [.int .i64 end25, .int .i64 0, .int .i64 0, .int .i64 0, .int .u64 end26]]⟩))], _⟩ (draw_Codes_function_j3 code16 x_x5 f17 c23 c24 end25 end26)
        unfold draw_Codes_function_j3
        refine tr_seq ?_
        refine tr_reg ?_
        refine trO_mv rfl rfl ?_
        refine trO_ld_obj (v := .agg [.int .i64 end25, .int .i64 0, .int .i64 0, .int .i64 0, .int .u64 end26]) (z := .agg [.int .i64 end25, .int .i64 0, .int .i64 0, .int .i64 0, .int .u64 end26]) rfl rfl rfl rfl rfl rfl ?_
        refine trO_bldS ([(TInstr.mk end25 0 0 0 end26)] : List TInstr) eInstr rfl rfl rfl (by simp) rfl rfl rfl ?_
        refine trO_chk fun hq => ?_
        refine trO_app (code16) (([(TInstr.mk end25 0 0 0 end26)] : List TInstr)) eInstr rfl rfl rfl rfl rfl rfl rfl (by simp) (take_drop0_map' _ _ rfl) rfl rfl (by simp) (take_len_map' _ _ rfl) (fun _ => rfl) rfl hq ?_
        refine trO_asg_own (l := code16 ++ ([(TInstr.mk end25 0 0 0 end26)] : List TInstr)) (en := eInstr) rfl rfl rfl rfl ?_
        refine trO_nil ?_
        refine trX_seq ?_
        refine tr_seq ?_
        refine tr_seq ?_
        refine tr_reg ?_
        refine trO_asg rfl rfl ?_
        refine trO_nil ?_
        refine trX_seq ?_
        refine tr_block ?_
        refine tr_loop (E := fun (s : (List Int) × Int × (List TInstr) × Int) (g : Nat × Nat × Nat) => [(0, .optr 0 0 0 0), (8, .optr 8 g.1 0 0), (9, .optr 9 g.2.1 0 0), (10, .osl 10 g.2.2 0 s.2.2.1.length), (14, .int .i64 s.2.2.2)]) (O := fun s g => [(0, some (0, ⟨false, true, 2, 80, [.agg [.sl (s.1.map eU8), .int .i64 s.2.1]]⟩)), (8, some (g.1, ⟨false, true, 3, 27, [.agg [.int .i64 0, .nils, .nils]]⟩)), (9, some (g.2.1, ⟨false, true, 3, 27, [.agg [.int .i64 x_x5, .sl (f17.map eSlot), .nils]]⟩)), (10, some (g.2.2, ⟨false, false, 5, 52, s.2.2.1.map eInstr⟩))]) (body := fun s => draw_Codes_function_b4 x_x5 f17 s.1 s.2.1 s.2.2.1 s.2.2.2) (s := (c23, c24, code16 ++ ([(TInstr.mk end25 0 0 0 end26)] : List TInstr), 0)) (_, _, _) (has_exact ⟨rfl, rfl, rfl, rfl, rfl, trivial⟩ ⟨rfl, rfl, rfl, rfl, trivial⟩) ?_
        rintro ⟨c29, c30, code31, k32⟩ ⟨v8, v9, v10⟩ nn
        show Tr _ _ _ ⟨[(0, .optr 0 0 0 0), (8, .optr 8 v8 0 0), (9, .optr 9 v9 0 0), (10, .osl 10 v10 0 code31.length), (14, .int .i64 k32)], [(0, some (0, ⟨false, true, 2, 80, [.agg [.sl (c29.map eU8), .int .i64 c30]]⟩)), (8, some (v8, ⟨false, true, 3, 27, [.agg [.int .i64 0, .nils, .nils]]⟩)), (9, some (v9, ⟨false, true, 3, 27, [.agg [.int .i64 x_x5, .sl (f17.map eSlot), .nils]]⟩)), (10, some (v10, ⟨false, false, 5, 52, code31.map eInstr⟩))], _⟩ (draw_Codes_function_b4 x_x5 f17 c29 c30 code31 k32)
        unfold draw_Codes_function_b4
        refine tr_seq ?_
        refine tr_seq ?_
        refine tr_reg ?_
        refine trO_mv rfl rfl ?_
        refine trO_mv rfl rfl ?_
        refine trO_len_own rfl rfl ?_
        refine trO_bin (v := .bool (decide (k32 < (code31.length : Int)))) rfl rfl rfl rfl rfl ?_
        refine trO_nil ?_
        refine trX_seq ?_
        refine tr_cond (c := (decide (k32 < (code31.length : Int)))) rfl ?_ ?_
        ·
          refine tr_skip ?_
          refine trX_seq ?_
          refine tr_seq ?_
          refine tr_block ?_
          refine tr_seq ?_
          refine tr_reg ?_
          refine trO_mv rfl rfl ?_
          refine trO_mv rfl rfl ?_
          refine trO_bind fun r33 hr33 => ?_
          refine trO_call_val ((Tdraw_Codes.mk c29 c30), 8) rfl rfl rfl draw_Codes_Next_de rfl rfl (by simp) rfl hr33 ?_
          refine trO_bin (v := .int .i64 (IntKind.i64.wrap (k32 + r33.1))) rfl rfl rfl rfl rfl ?_
          refine trO_bin (v := .int .i64 (IntKind.i64.wrap ((IntKind.i64.wrap (k32 + r33.1)) - 2))) rfl rfl rfl rfl rfl ?_
          refine trO_asg rfl rfl ?_
          refine trO_nil ?_
          refine trX_seq ?_
          refine tr_seq_cut (E := fun (s : Int) (g : Nat × Nat × Nat) => [(0, .optr 0 0 0 0), (8, .optr 8 g.1 0 0), (9, .optr 9 g.2.1 0 0), (10, .osl 10 g.2.2 0 code31.length), (14, .int .i64 k32), (15, .int .i64 s)]) (O := fun s g => [(0, some (0, ⟨false, true, 2, 80, [.agg [.sl (r33.2.list.map eU8), .int .i64 r33.2.at_]]⟩)), (8, some (g.1, ⟨false, true, 3, 27, [.agg [.int .i64 0, .nils, .nils]]⟩)), (9, some (g.2.1, ⟨false, true, 3, 27, [.agg [.int .i64 x_x5, .sl (f17.map eSlot), .nils]]⟩)), (10, some (g.2.2, ⟨false, false, 5, 52, code31.map eInstr⟩))]) (j := fun s => draw_Codes_function_j5 k32 code31 r33 s) ?_ ?_
          ·
            refine tr_seq ?_
            refine tr_reg ?_
            refine trO_mv rfl rfl ?_
            refine trO_bin (v := .bool (decide ((IntKind.i64.wrap ((IntKind.i64.wrap (k32 + r33.1)) - 2)) < 0))) rfl rfl rfl rfl rfl ?_
            refine trO_mv rfl rfl ?_
            refine trO_split 98 (b := (decide ((IntKind.i64.wrap ((IntKind.i64.wrap (k32 + r33.1)) - 2)) < 0))) rfl ?_ ?_
            ·
              refine trO_off rfl ?_
              refine trO_off rfl ?_
              refine trO_off rfl ?_
              refine trO_off rfl ?_
              refine trO_pick_true rfl rfl rfl rfl ?_
              refine trO_nil ?_
              refine trX_seq ?_
              refine tr_cond_true rfl ?_
              refine tr_reg ?_
              refine trO_mv rfl rfl ?_
              refine trO_len_own rfl rfl ?_
              refine trO_bin (v := .int .i64 (IntKind.i64.wrap ((code31.length : Int) - 1))) rfl rfl rfl rfl rfl ?_
              refine trO_asg rfl rfl ?_
              refine trO_nil ?_
              exact trX_cut (s := IntKind.i64.wrap ((code31.length : Int) - 1)) (_, _, _) (has_exact ⟨rfl, rfl, rfl, rfl, rfl, rfl, trivial⟩ ⟨rfl, rfl, rfl, rfl, trivial⟩)
            ·
              refine trO_mv rfl rfl ?_
              refine trO_mv rfl rfl ?_
              refine trO_len_own rfl rfl ?_
              refine trO_bin (v := .bool (decide ((IntKind.i64.wrap ((IntKind.i64.wrap (k32 + r33.1)) - 2)) ≥ (code31.length : Int)))) rfl rfl rfl rfl rfl ?_
              refine trO_pick_false rfl rfl rfl rfl ?_
              refine trO_nil ?_
              refine trX_seq ?_
              refine tr_cond (c := (decide ((IntKind.i64.wrap ((IntKind.i64.wrap (k32 + r33.1)) - 2)) ≥ (code31.length : Int)))) rfl ?_ ?_
              ·
                refine tr_reg ?_
                refine trO_mv rfl rfl ?_
                refine trO_len_own rfl rfl ?_
                refine trO_bin (v := .int .i64 (IntKind.i64.wrap ((code31.length : Int) - 1))) rfl rfl rfl rfl rfl ?_
                refine trO_asg rfl rfl ?_
                refine trO_nil ?_
                exact trX_cut (s := IntKind.i64.wrap ((code31.length : Int) - 1)) (_, _, _) (has_exact ⟨rfl, rfl, rfl, rfl, rfl, rfl, trivial⟩ ⟨rfl, rfl, rfl, rfl, trivial⟩)
              ·
                refine tr_skip ?_
                exact trX_cut (s := IntKind.i64.wrap ((IntKind.i64.wrap (k32 + r33.1)) - 2)) (_, _, _) (has_exact ⟨rfl, rfl, rfl, rfl, rfl, rfl, trivial⟩ ⟨rfl, rfl, rfl, rfl, trivial⟩)
          ·
            rintro to34 ⟨v8, v9, v10⟩ nn
            show Tr _ _ _ ⟨[(0, .optr 0 0 0 0), (8, .optr 8 v8 0 0), (9, .optr 9 v9 0 0), (10, .osl 10 v10 0 code31.length), (14, .int .i64 k32), (15, .int .i64 to34)], [(0, some (0, ⟨false, true, 2, 80, [.agg [.sl (r33.2.list.map eU8), .int .i64 r33.2.at_]]⟩)), (8, some (v8, ⟨false, true, 3, 27, [.agg [.int .i64 0, .nils, .nils]]⟩)), (9, some (v9, ⟨false, true, 3, 27, [.agg [.int .i64 x_x5, .sl (f17.map eSlot), .nils]]⟩)), (10, some (v10, ⟨false, false, 5, 52, code31.map eInstr⟩))], _⟩ (draw_Codes_function_j5 k32 code31 r33 to34)
            unfold draw_Codes_function_j5
            refine tr_block ?_
            refine tr_seq_cut (E := fun (s : Bool) (g : Nat × Nat × Nat) => [(0, .optr 0 0 0 0), (8, .optr 8 g.1 0 0), (9, .optr 9 g.2.1 0 0), (10, .osl 10 g.2.2 0 code31.length), (14, .int .i64 k32), (15, .int .i64 to34), (107, .bool s)]) (O := fun s g => [(0, some (0, ⟨false, true, 2, 80, [.agg [.sl (r33.2.list.map eU8), .int .i64 r33.2.at_]]⟩)), (8, some (g.1, ⟨false, true, 3, 27, [.agg [.int .i64 0, .nils, .nils]]⟩)), (9, some (g.2.1, ⟨false, true, 3, 27, [.agg [.int .i64 x_x5, .sl (f17.map eSlot), .nils]]⟩)), (10, some (g.2.2, ⟨false, false, 5, 52, code31.map eInstr⟩))]) (j := fun s => draw_Codes_function_j6 k32 code31 r33 to34 s) ?_ ?_
            ·
              refine tr_reg ?_
              refine trO_mv rfl rfl ?_
              refine trO_mv rfl rfl ?_
              refine trO_chk fun hq => ?_
              refine trO_ixA_own (l := code31) (en := eInstr) rfl rfl rfl rfl rfl hq ?_
              refine trO_fldA rfl rfl ?_
              refine trO_bind fun code_e36 hcode_e36 => ?_
              refine trO_ld_obj (v := .int .i64 code_e36.Op) (z := eInstr code_e36) rfl rfl rfl (map_get hcode_e36) rfl rfl ?_
              refine trO_bin (v := .bool (code_e36.Op == 20)) rfl rfl rfl rfl rfl ?_
              refine trO_mv rfl rfl ?_
              refine trO_split 114 (b := (code_e36.Op == 20)) rfl ?_ ?_
              ·
                refine trO_mv rfl rfl ?_
                refine trO_mv rfl rfl ?_
                refine trO_chk fun hq => ?_
                refine trO_ixA_own (l := code31) (en := eInstr) rfl rfl rfl rfl rfl hq ?_
                refine trO_fldA rfl rfl ?_
                refine trO_bind fun code_e37 hcode_e37 => ?_
                refine trO_ld_obj (v := .int .i64 code_e37.A) (z := eInstr code_e37) rfl rfl rfl (map_get hcode_e37) rfl rfl ?_
                refine trO_bin (v := .bool (decide (code_e37.A < 0))) rfl rfl rfl rfl rfl ?_
                refine trO_pick_true rfl rfl rfl rfl ?_
                refine trO_asg rfl rfl ?_
                refine trO_nil ?_
                exact trX_cut (s := (decide (code_e37.A < 0))) (_, _, _) (has_exact ⟨rfl, rfl, rfl, rfl, rfl, rfl, rfl, trivial⟩ ⟨rfl, rfl, rfl, rfl, trivial⟩)
              ·
                refine trO_off rfl ?_
                refine trO_off rfl ?_
                refine trO_off rfl ?_
                refine trO_off rfl ?_
                refine trO_off rfl ?_
                refine trO_off rfl ?_
                refine trO_pick_false rfl rfl rfl rfl ?_
                refine trO_asg rfl rfl ?_
                refine trO_nil ?_
                exact trX_cut (s := false) (_, _, _) (has_exact ⟨rfl, rfl, rfl, rfl, rfl, rfl, rfl, trivial⟩ ⟨rfl, rfl, rfl, rfl, trivial⟩)
            ·
              rintro x35 ⟨v8, v9, v10⟩ nn
              show Tr _ _ _ ⟨[(0, .optr 0 0 0 0), (8, .optr 8 v8 0 0), (9, .optr 9 v9 0 0), (10, .osl 10 v10 0 code31.length), (14, .int .i64 k32), (15, .int .i64 to34), (107, .bool x35)], [(0, some (0, ⟨false, true, 2, 80, [.agg [.sl (r33.2.list.map eU8), .int .i64 r33.2.at_]]⟩)), (8, some (v8, ⟨false, true, 3, 27, [.agg [.int .i64 0, .nils, .nils]]⟩)), (9, some (v9, ⟨false, true, 3, 27, [.agg [.int .i64 x_x5, .sl (f17.map eSlot), .nils]]⟩)), (10, some (v10, ⟨false, false, 5, 52, code31.map eInstr⟩))], _⟩ (draw_Codes_function_j6 k32 code31 r33 to34 x35)
              unfold draw_Codes_function_j6
              refine tr_cond (c := x35) rfl ?_ ?_
              ·
                refine tr_reg ?_
                refine trO_mv rfl rfl ?_
                refine trO_mv rfl rfl ?_
                refine trO_mv rfl rfl ?_
                refine trO_chk fun hq => ?_
                refine trO_ixA_own (l := code31) (en := eInstr) rfl rfl rfl rfl rfl hq ?_
                refine trO_fldA rfl rfl ?_
                refine trO_bind fun code_o38 hcode_o38 => ?_
                refine trO_st_elem (l := code31) (en := eInstr) (q' := (TInstr.mk code_o38.Op to34 code_o38.B code_o38.C code_o38.Imm)) rfl rfl rfl rfl rfl rfl rfl (by simp) hcode_o38 rfl rfl rfl rfl rfl ?_
                refine trO_nil ?_
                refine trX_blk_normal ?_
                refine trX_blk_normal ?_
                refine trX_seq ?_
                refine tr_reg ?_
                refine trO_mv rfl rfl ?_
                refine trO_bin (v := .int .i64 (IntKind.i64.wrap (k32 + 1))) rfl rfl rfl rfl rfl ?_
                refine trO_asg rfl rfl ?_
                refine trO_nil ?_
                exact trX_loop (s := (r33.2.list, r33.2.at_, code31.set k32.toNat (TInstr.mk code_o38.Op to34 code_o38.B code_o38.C code_o38.Imm), IntKind.i64.wrap (k32 + 1))) (_, _, _) (has_exact ⟨rfl, rfl, rfl, (osl_len (q := code31.length) rfl (by simp)), rfl, trivial⟩ ⟨rfl, rfl, rfl, rfl, trivial⟩)
              ·
                refine tr_seq ?_
                refine tr_reg ?_
                refine trO_mv rfl rfl ?_
                refine trO_mv rfl rfl ?_
                refine trO_chk fun hq => ?_
                refine trO_ixA_own (l := code31) (en := eInstr) rfl rfl rfl rfl rfl hq ?_
                refine trO_fldA rfl rfl ?_
                refine trO_bind fun code_e39 hcode_e39 => ?_
                refine trO_ld_obj (v := .int .i64 code_e39.Op) (z := eInstr code_e39) rfl rfl rfl (map_get hcode_e39) rfl rfl ?_
                refine trO_bin (v := .bool (code_e39.Op == 21)) rfl rfl rfl rfl rfl ?_
                refine trO_mv rfl rfl ?_
                refine trO_split 134 (b := (code_e39.Op == 21)) rfl ?_ ?_
                ·
                  refine trO_mv rfl rfl ?_
                  refine trO_mv rfl rfl ?_
                  refine trO_chk fun hq => ?_
                  refine trO_ixA_own (l := code31) (en := eInstr) rfl rfl rfl rfl rfl hq ?_
                  refine trO_fldA rfl rfl ?_
                  refine trO_bind fun code_e40 hcode_e40 => ?_
                  refine trO_ld_obj (v := .int .i64 code_e40.B) (z := eInstr code_e40) rfl rfl rfl (map_get hcode_e40) rfl rfl ?_
                  refine trO_bin (v := .bool (decide (code_e40.B < 0))) rfl rfl rfl rfl rfl ?_
                  refine trO_pick_true rfl rfl rfl rfl ?_
                  refine trO_asg rfl rfl ?_
                  refine trO_nil ?_
                  refine trX_seq ?_
                  refine tr_cond (c := (decide (code_e40.B < 0))) rfl ?_ ?_
                  ·
                    refine tr_reg ?_
                    refine trO_mv rfl rfl ?_
                    refine trO_mv rfl rfl ?_
                    refine trO_mv rfl rfl ?_
                    refine trO_chk fun hq => ?_
                    refine trO_ixA_own (l := code31) (en := eInstr) rfl rfl rfl rfl rfl hq ?_
                    refine trO_fldA rfl rfl ?_
                    refine trO_bind fun code_o41 hcode_o41 => ?_
                    refine trO_st_elem (l := code31) (en := eInstr) (q' := (TInstr.mk code_o41.Op code_o41.A to34 code_o41.C code_o41.Imm)) rfl rfl rfl rfl rfl rfl rfl (by simp) hcode_o41 rfl rfl rfl rfl rfl ?_
                    refine trO_nil ?_
                    refine trX_blk_normal ?_
                    refine trX_blk_normal ?_
                    refine trX_seq ?_
                    refine tr_reg ?_
                    refine trO_mv rfl rfl ?_
                    refine trO_bin (v := .int .i64 (IntKind.i64.wrap (k32 + 1))) rfl rfl rfl rfl rfl ?_
                    refine trO_asg rfl rfl ?_
                    refine trO_nil ?_
                    exact trX_loop (s := (r33.2.list, r33.2.at_, code31.set k32.toNat (TInstr.mk code_o41.Op code_o41.A to34 code_o41.C code_o41.Imm), IntKind.i64.wrap (k32 + 1))) (_, _, _) (has_exact ⟨rfl, rfl, rfl, (osl_len (q := code31.length) rfl (by simp)), rfl, trivial⟩ ⟨rfl, rfl, rfl, rfl, trivial⟩)
                  ·
                    refine tr_skip ?_
                    refine trX_blk_normal ?_
                    refine trX_blk_normal ?_
                    refine trX_seq ?_
                    refine tr_reg ?_
                    refine trO_mv rfl rfl ?_
                    refine trO_bin (v := .int .i64 (IntKind.i64.wrap (k32 + 1))) rfl rfl rfl rfl rfl ?_
                    refine trO_asg rfl rfl ?_
                    refine trO_nil ?_
                    exact trX_loop (s := (r33.2.list, r33.2.at_, code31, IntKind.i64.wrap (k32 + 1))) (_, _, _) (has_exact ⟨rfl, rfl, rfl, rfl, rfl, trivial⟩ ⟨rfl, rfl, rfl, rfl, trivial⟩)
                ·
                  refine trO_off rfl ?_
                  refine trO_off rfl ?_
                  refine trO_off rfl ?_
                  refine trO_off rfl ?_
                  refine trO_off rfl ?_
                  refine trO_off rfl ?_
                  refine trO_pick_false rfl rfl rfl rfl ?_
                  refine trO_asg rfl rfl ?_
                  refine trO_nil ?_
                  refine trX_seq ?_
                  refine tr_cond_false rfl ?_
                  refine tr_skip ?_
                  refine trX_blk_normal ?_
                  refine trX_blk_normal ?_
                  refine trX_seq ?_
                  refine tr_reg ?_
                  refine trO_mv rfl rfl ?_
                  refine trO_bin (v := .int .i64 (IntKind.i64.wrap (k32 + 1))) rfl rfl rfl rfl rfl ?_
                  refine trO_asg rfl rfl ?_
                  refine trO_nil ?_
                  exact trX_loop (s := (r33.2.list, r33.2.at_, code31, IntKind.i64.wrap (k32 + 1))) (_, _, _) (has_exact ⟨rfl, rfl, rfl, rfl, rfl, trivial⟩ ⟨rfl, rfl, rfl, rfl, trivial⟩)
        ·
          refine tr_exit ?_
          refine trX_seq_exit ?_
          refine trX_loop_exit ?_
          refine trX_blk_here ?_
          refine trX_seq ?_
          refine tr_seq ?_
          refine tr_reg ?_
          refine trO_mv rfl rfl ?_
          refine trO_fldA rfl rfl ?_
          refine trO_st_var (z' := .agg [.int .i64 x_x5, .sl (f17.map eSlot), .osl 10 _ 0 code31.length]) rfl rfl rfl rfl rfl rfl rfl rfl rfl ?_
          refine trO_nil ?_
          refine trX_seq ?_
          refine tr_seq ?_
          refine tr_reg ?_
          refine trO_ld_obj (v := .agg [.int .i64 x_x5, .sl (f17.map eSlot), .osl 10 _ 0 code31.length]) (z := .agg [.int .i64 x_x5, .sl (f17.map eSlot), .osl 10 _ 0 code31.length]) rfl rfl rfl rfl rfl rfl ?_
          refine trO_st_var (z' := .agg [.int .i64 x_x5, .sl (f17.map eSlot), .osl 10 _ 0 code31.length]) rfl rfl rfl rfl rfl rfl rfl rfl rfl ?_
          refine trO_nil ?_
          refine trX_seq ?_
          refine tr_ret ?_
          exact ret_val (b := ((TFunc.mk x_x5 f17 code31), (Tdraw_Codes.mk c29 c30))) rfl (by first | (simp; done) | (simp; omega)) rfl rfl (by first | (simp; done) | (simp; omega)) (by first | rfl | (simp only [take_drop0_map, take_sub_map]; rfl) | simp [draw_Codes_function_R, eFunc])

def dc38 : DCode := (.seq (.reg [⟨(some 6), (.new (.agg [.nils]) 1 56), none, []⟩] false) (.seq (.reg [⟨(some 12), (.bldS 1 3 (.int .i64 0) 1 [⟨0, (.c (.int .i64 0))⟩]), none, []⟩, ⟨(some 7), (.asg (.t 12) (some ⟨1, 3⟩)), none, []⟩] false) (.seq (.seq (.reg [⟨(some 13), (.mv (.t 0)), none, []⟩, ⟨(some 14), (.mv (.t 1)), none, []⟩, ⟨(some 15), (.call (.c (.clo 39 [])) [(.t 13), (.t 14)]), none, []⟩, ⟨(some 8), (.asg (.t 15) none), none, []⟩] false) (.block 0 (.loop (.seq (.seq (.reg [⟨(some 16), (.mv (.t 8)), none, []⟩, ⟨(some 17), (.bin .gtr (.t 16) (.c (.int .i64 0))), none, []⟩] false) (.cond (.t 17) .skip (.exit 0))) (.seq (.block 1 (.reg [⟨(some 20), (.mv (.t 7)), none, []⟩, ⟨(some 21), (.mv (.t 0)), none, []⟩, ⟨(some 22), (.call (.c (.clo 39 [])) [(.t 21), (.c (.int .i64 4))]), none, []⟩, ⟨(some 23), (.bldS 1 3 (.int .i64 0) 1 [⟨0, (.t 22)⟩]), none, []⟩, ⟨(some 24), (.app 1 3 8 (.t 20) (.t 23)), none, []⟩, ⟨(some 7), (.asg (.t 24) (some ⟨1, 3⟩)), none, []⟩] false)) (.reg [⟨(some 18), (.mv (.t 8)), none, []⟩, ⟨(some 19), (.bin .sub (.t 18) (.c (.int .i64 1))), none, []⟩, ⟨(some 8), (.asg (.t 19) none), none, []⟩] false)))))) (.seq (.reg [⟨(some 9), (.new (.agg [.nils]) 1 56), none, []⟩] false) (.seq (.seq (.reg [⟨(some 10), (.asg (.c (.int .i64 0)) none), none, []⟩] false) (.block 2 (.loop (.seq (.seq (.reg [⟨(some 25), (.mv (.t 10)), none, []⟩, ⟨(some 26), (.mv (.t 7)), none, []⟩, ⟨(some 27), (.len false (.t 26)), none, []⟩, ⟨(some 28), (.bin .lss (.t 25) (.t 27)), none, []⟩] false) (.cond (.t 28) .skip (.exit 2))) (.seq (.block 3 (.seq (.reg [⟨(some 31), (.fldA 0 (.t 9)), none, []⟩, ⟨(some 32), (.ld 1 false (.t 31)), none, []⟩, ⟨(some 33), (.app 3 27 56 (.c .nils) (.t 32)), none, []⟩, ⟨(some 34), (.mv (.t 0)), none, []⟩, ⟨(some 35), (.mv (.t 10)), none, []⟩, ⟨(some 36), (.mv (.t 7)), none, []⟩, ⟨(some 37), (.mv (.t 2)), none, []⟩, ⟨(some 38), (.call (.c (.clo 55 [])) [(.t 34), (.t 35), (.t 36), (.t 37)]), none, []⟩, ⟨(some 39), (.bldS 3 27 (.agg [(.int .i64 0), (.sl []), (.sl [])]) 1 [⟨0, (.t 38)⟩]), none, []⟩, ⟨(some 40), (.app 3 27 56 (.t 33) (.t 39)), none, []⟩, ⟨(some 11), (.asg (.t 40) (some ⟨3, 27⟩)), none, []⟩] false) (.reg [⟨(some 41), (.mv (.t 11)), none, []⟩, ⟨(some 42), (.fldA 0 (.t 9)), none, []⟩, ⟨none, (.st 1 (.t 42) (.t 41)), none, []⟩] false))) (.reg [⟨(some 29), (.mv (.t 10)), none, []⟩, ⟨(some 30), (.bin .add (.t 29) (.c (.int .i64 1))), none, []⟩, ⟨(some 10), (.asg (.t 30) none), none, []⟩] false)))))) (.seq (.reg [⟨(some 43), (.ld 1 true (.t 9)), none, []⟩, ⟨none, (.st 1 (.t 6) (.t 43)), none, []⟩] false) .ret))))))
theorem dc38_c : (Try.f38.body.bind (cCode Try.prog Try.f38.ntmps)) = some dc38 := by kernel_rfl
theorem dc38_r : Try.f38.results.toList.mapM (cRes Try.prog) = some [(.c 6 1 true)] := by kernel_rfl
def draw_Codes_Program_enc (a : Tdraw_Codes × Int × Int) : List D := [edraw_Codes a.1, .int .i64 a.2.1, .int .i64 a.2.2]
def draw_Codes_Program_dec (ds : List D) : Tdraw_Codes × Int × Int := (udraw_Codes (ds.getD 0 .top), uI (ds.getD 1 .top), uI (ds.getD 2 .top))
theorem draw_Codes_Program_de (a : Tdraw_Codes × Int × Int) : draw_Codes_Program_dec (draw_Codes_Program_enc a) = a := by simp [draw_Codes_Program_dec, draw_Codes_Program_enc, uI, uBo, uS]
def draw_Codes_Program_R (b : TProgram × Tdraw_Codes) : D := eProgram b.1
def draw_Codes_Program_E (b : TProgram × Tdraw_Codes) : List D := [edraw_Codes b.2]
noncomputable def draw_Codes_Program_S : Dw.Spec := fSpec [(0, (2, 80))] .val draw_Codes_Program_enc draw_Codes_Program_dec (fun a => draw_Codes_Program a.1 a.2.1 a.2.2) draw_Codes_Program_R draw_Codes_Program_E
set_option maxHeartbeats 4000000 in
theorem draw_Codes_Program_ok : SpecOk Try.prog 38 draw_Codes_Program_S := by
  refine fn_ok (specs_ok (l := [(39, draw_Codes_Next_S), (55, draw_Codes_function_S)]) (by simp [draw_Codes_Next_ok, draw_Codes_function_ok])) Try.func38 (by decide) dc38_c dc38_r (np := 3) (by decide) draw_Codes_Program_de (fun _ => rfl) ?_
  rintro ⟨c1, funcs2, most3⟩
  show Tr (specs [(39, draw_Codes_Next_S), (55, draw_Codes_function_S)]) dc38 (kRet [(0, (2, 80))] .val [(.c 6 1 true)] 3 draw_Codes_Program_R draw_Codes_Program_E) ⟨[(0, .optr 0 0 0 0), (1, .int .i64 funcs2), (2, .int .i64 most3)], [(0, some (0, ⟨false, true, 2, 80, [.agg [.sl (c1.list.map eU8), .int .i64 c1.at_]]⟩))], 3⟩ (draw_Codes_Program c1 funcs2 most3)
  unfold dc38 draw_Codes_Program
  refine tr_seq ?_
  refine tr_reg ?_
  refine trO_new rfl ?_
  refine trO_nil ?_
  refine trX_seq ?_
  refine tr_seq ?_
  refine tr_reg ?_
  refine trO_bldS ([0] : List Int) eI64 rfl rfl rfl (by simp) rfl rfl rfl ?_
  refine trO_asg_own (l := ([0] : List Int)) (en := eI64) rfl rfl rfl rfl ?_
  refine trO_nil ?_
  refine trX_seq ?_
  refine tr_seq ?_
  refine tr_seq ?_
  refine tr_reg ?_
  refine trO_mv rfl rfl ?_
  refine trO_mv rfl rfl ?_
  refine trO_bind fun r4 hr4 => ?_
  refine trO_call_val (c1, funcs2) rfl rfl rfl draw_Codes_Next_de rfl rfl (by simp) rfl hr4 ?_
  refine trO_asg rfl rfl ?_
  refine trO_nil ?_
  refine trX_seq ?_
  refine tr_block ?_
  refine tr_loop (E := fun (s : (List Int) × Int × (List Int) × Int) (g : Nat × Nat) => [(0, .optr 0 0 0 0), (2, .int .i64 most3), (6, .optr 6 g.1 0 0), (7, .osl 7 g.2 0 s.2.2.1.length), (8, .int .i64 s.2.2.2)]) (O := fun s g => [(0, some (0, ⟨false, true, 2, 80, [.agg [.sl (s.1.map eU8), .int .i64 s.2.1]]⟩)), (6, some (g.1, ⟨false, true, 1, 56, [.agg [.nils]]⟩)), (7, some (g.2, ⟨false, false, 1, 3, s.2.2.1.map eI64⟩))]) (body := fun s => draw_Codes_Program_b1 most3 s.1 s.2.1 s.2.2.1 s.2.2.2) (s := (r4.2.list, r4.2.at_, ([0] : List Int), r4.1)) (_, _) (has_exact ⟨rfl, rfl, rfl, rfl, rfl, trivial⟩ ⟨rfl, rfl, rfl, trivial⟩) ?_
  rintro ⟨c5, c6, params7, n8⟩ ⟨v6, v7⟩ nn
  show Tr _ _ _ ⟨[(0, .optr 0 0 0 0), (2, .int .i64 most3), (6, .optr 6 v6 0 0), (7, .osl 7 v7 0 params7.length), (8, .int .i64 n8)], [(0, some (0, ⟨false, true, 2, 80, [.agg [.sl (c5.map eU8), .int .i64 c6]]⟩)), (6, some (v6, ⟨false, true, 1, 56, [.agg [.nils]]⟩)), (7, some (v7, ⟨false, false, 1, 3, params7.map eI64⟩))], _⟩ (draw_Codes_Program_b1 most3 c5 c6 params7 n8)
  unfold draw_Codes_Program_b1
  refine tr_seq ?_
  refine tr_seq ?_
  refine tr_reg ?_
  refine trO_mv rfl rfl ?_
  refine trO_bin (v := .bool (decide (n8 > 0))) rfl rfl rfl rfl rfl ?_
  refine trO_nil ?_
  refine trX_seq ?_
  refine tr_cond (c := (decide (n8 > 0))) rfl ?_ ?_
  ·
    refine tr_skip ?_
    refine trX_seq ?_
    refine tr_seq ?_
    refine tr_block ?_
    refine tr_reg ?_
    refine trO_mv rfl rfl ?_
    refine trO_mv rfl rfl ?_
    refine trO_bind fun r9 hr9 => ?_
    refine trO_call_val ((Tdraw_Codes.mk c5 c6), 4) rfl rfl rfl draw_Codes_Next_de rfl rfl (by simp) rfl hr9 ?_
    refine trO_bldS ([r9.1] : List Int) eI64 rfl rfl rfl (by simp) rfl rfl rfl ?_
    refine trO_chk fun hq => ?_
    refine trO_app (params7) (([r9.1] : List Int)) eI64 rfl rfl rfl rfl rfl rfl rfl (by simp) (take_drop0_map' _ _ rfl) rfl rfl (by simp) (take_len_map' _ _ rfl) (fun _ => rfl) rfl hq ?_
    refine trO_asg_own (l := params7 ++ ([r9.1] : List Int)) (en := eI64) rfl rfl rfl rfl ?_
    refine trO_nil ?_
    refine trX_blk_normal ?_
    refine trX_seq ?_
    refine tr_reg ?_
    refine trO_mv rfl rfl ?_
    refine trO_bin (v := .int .i64 (IntKind.i64.wrap (n8 - 1))) rfl rfl rfl rfl rfl ?_
    refine trO_asg rfl rfl ?_
    refine trO_nil ?_
    exact trX_loop (s := (r9.2.list, r9.2.at_, params7 ++ ([r9.1] : List Int), IntKind.i64.wrap (n8 - 1))) (_, _) (has_exact ⟨rfl, rfl, rfl, rfl, rfl, trivial⟩ ⟨rfl, rfl, rfl, trivial⟩)
  ·
    refine tr_exit ?_
    refine trX_seq_exit ?_
    refine trX_loop_exit ?_
    refine trX_blk_here ?_
    refine trX_seq ?_
    refine tr_seq ?_
    refine tr_reg ?_
    refine trO_new rfl ?_
    refine trO_nil ?_
    refine trX_seq ?_
    refine tr_seq ?_
    refine tr_seq ?_
    refine tr_reg ?_
    refine trO_asg rfl rfl ?_
    refine trO_nil ?_
    refine trX_seq ?_
    refine tr_block ?_
    refine tr_loop (E := fun (s : (List Int) × Int × (List TFunc) × Int × (List Int)) (g : Nat × Nat) => [(0, .optr 0 0 0 0), (2, .int .i64 most3), (6, .optr 6 g.1 0 0), (7, .sl (s.2.2.2.2.map eI64)), (9, .optr 9 g.2 0 0), (10, .int .i64 s.2.2.2.1)]) (O := fun s g => [(0, some (0, ⟨false, true, 2, 80, [.agg [.sl (s.1.map eU8), .int .i64 s.2.1]]⟩)), (6, some (g.1, ⟨false, true, 1, 56, [.agg [.nils]]⟩)), (9, some (g.2, ⟨false, true, 1, 56, [.agg [.sl (s.2.2.1.map eFunc)]]⟩))]) (body := fun s => draw_Codes_Program_b2 most3 s.1 s.2.1 s.2.2.1 s.2.2.2.1 s.2.2.2.2) (s := (c5, c6, [], 0, params7)) (_, _) (has_conv [(7, some (_, ⟨true, false, 1, 3, params7.map eI64⟩))] ⟨⟨_, _, rfl, rfl, rfl⟩, trivial⟩ ⟨(conv_same rfl), (conv_same rfl), (conv_same rfl), (conv_cell (convC_own (l := params7) (en := eI64) rfl rfl rfl (by simp))), (conv_same rfl), (conv_same rfl), trivial⟩ ⟨(.inl rfl), (.inl rfl), (.inr ⟨_, _, _, _, rfl, rfl, rfl, rfl, conv_agg rfl ⟨(convC_nil eFunc rfl), trivial⟩⟩), trivial⟩) ?_
    rintro ⟨c10, c11, p12, i13, params14⟩ ⟨v6, v9⟩ nn
    show Tr _ _ _ ⟨[(0, .optr 0 0 0 0), (2, .int .i64 most3), (6, .optr 6 v6 0 0), (7, .sl (params14.map eI64)), (9, .optr 9 v9 0 0), (10, .int .i64 i13)], [(0, some (0, ⟨false, true, 2, 80, [.agg [.sl (c10.map eU8), .int .i64 c11]]⟩)), (6, some (v6, ⟨false, true, 1, 56, [.agg [.nils]]⟩)), (9, some (v9, ⟨false, true, 1, 56, [.agg [.sl (p12.map eFunc)]]⟩))], _⟩ (draw_Codes_Program_b2 most3 c10 c11 p12 i13 params14)
    unfold draw_Codes_Program_b2
    refine tr_seq ?_
    refine tr_seq ?_
    refine tr_reg ?_
    refine trO_mv rfl rfl ?_
    refine trO_mv rfl rfl ?_
    refine trO_len_sl rfl rfl ?_
    refine trO_bin (v := .bool (decide (i13 < (params14.length : Int)))) rfl rfl rfl rfl rfl ?_
    refine trO_nil ?_
    refine trX_seq ?_
    refine tr_cond (c := (decide (i13 < (params14.length : Int)))) rfl ?_ ?_
    ·
      refine tr_skip ?_
      refine trX_seq ?_
      refine tr_seq ?_
      refine tr_block ?_
      refine tr_seq ?_
      refine tr_reg ?_
      refine trO_fldA rfl rfl ?_
      refine trO_ld_obj (v := .sl (p12.map eFunc)) (z := .agg [.sl (p12.map eFunc)]) rfl rfl rfl rfl rfl rfl ?_
      refine trO_chk fun hq => ?_
      refine trO_app (([] : List TFunc)) (p12) eFunc rfl rfl rfl rfl rfl rfl rfl (by simp) rfl rfl rfl (by simp) rfl (fun _ => rfl) rfl hq ?_
      refine trO_mv rfl rfl ?_
      refine trO_mv rfl rfl ?_
      refine trO_mv rfl rfl ?_
      refine trO_mv rfl rfl ?_
      refine trO_bind fun r15 hr15 => ?_
      refine trO_call_val ((Tdraw_Codes.mk c10 c11), i13, params14, most3) rfl rfl rfl draw_Codes_function_de rfl rfl (by simp) rfl hr15 ?_
      refine trO_bldS ([r15.1] : List TFunc) eFunc rfl rfl rfl (by simp) rfl rfl rfl ?_
      refine trO_chk fun hq => ?_
      refine trO_app (([] : List TFunc) ++ p12) (([r15.1] : List TFunc)) eFunc rfl rfl rfl rfl rfl rfl rfl (by simp) (take_drop0_map' _ _ rfl) rfl rfl (by simp) (take_len_map' _ _ rfl) (fun _ => rfl) rfl hq ?_
      refine trO_asg_own (l := (([] : List TFunc) ++ p12) ++ ([r15.1] : List TFunc)) (en := eFunc) rfl rfl rfl rfl ?_
      refine trO_nil ?_
      refine trX_seq ?_
      refine tr_reg ?_
      refine trO_mv rfl rfl ?_
      refine trO_fldA rfl rfl ?_
      refine trO_st_var (z' := .agg [.osl 11 _ 0 (((([] : List TFunc) ++ p12) ++ ([r15.1] : List TFunc)).length)]) rfl rfl rfl rfl rfl rfl rfl rfl rfl ?_
      refine trO_nil ?_
      refine trX_blk_normal ?_
      refine trX_seq ?_
      refine tr_reg ?_
      refine trO_mv rfl rfl ?_
      refine trO_bin (v := .int .i64 (IntKind.i64.wrap (i13 + 1))) rfl rfl rfl rfl rfl ?_
      refine trO_asg rfl rfl ?_
      refine trO_nil ?_
      exact trX_loop (s := (r15.2.list, r15.2.at_, (([] : List TFunc) ++ p12) ++ ([r15.1] : List TFunc), IntKind.i64.wrap (i13 + 1), params14)) (_, _) (has_conv [(11, some (_, ⟨true, false, 3, 27, ((([] : List TFunc) ++ p12) ++ ([r15.1] : List TFunc)).map eFunc⟩))] ⟨⟨_, _, rfl, rfl, rfl⟩, trivial⟩ ⟨(conv_same rfl), (conv_same rfl), (conv_same rfl), (conv_same rfl), (conv_same rfl), (conv_same rfl), trivial⟩ ⟨(.inl rfl), (.inl rfl), (.inr ⟨_, _, _, _, rfl, rfl, rfl, rfl, conv_agg rfl ⟨(convC_own (l := (([] : List TFunc) ++ p12) ++ ([r15.1] : List TFunc)) (en := eFunc) rfl rfl rfl (by simp)), trivial⟩⟩), trivial⟩)
    ·
      refine tr_exit ?_
      refine trX_seq_exit ?_
      refine trX_loop_exit ?_
      refine trX_blk_here ?_
      refine trX_seq ?_
      refine tr_seq ?_
      refine tr_reg ?_
      refine trO_ld_obj (v := .agg [.sl (p12.map eFunc)]) (z := .agg [.sl (p12.map eFunc)]) rfl rfl rfl rfl rfl rfl ?_
      refine trO_st_var (z' := .agg [.sl (p12.map eFunc)]) rfl rfl rfl rfl rfl rfl rfl rfl rfl ?_
      refine trO_nil ?_
      refine trX_seq ?_
      refine tr_ret ?_
      exact ret_val (b := ((TProgram.mk p12), (Tdraw_Codes.mk c10 c11))) rfl (by first | (simp; done) | (simp; omega)) rfl rfl (by first | (simp; done) | (simp; omega)) rfl

def dc13 : DCode := (.seq (.reg [⟨(some 2), (.new (.agg [(.int .i64 0), .nils, .nils]) 3 27), none, []⟩, ⟨(some 3), (.asg (.c .top) none), none, []⟩] false) (.seq (.reg [⟨(some 6), (.mv (.t 0)), none, []⟩, ⟨(some 7), (.call (.c (.clo 37 [])) [(.t 6), (.c (.int .i64 250))]), none, []⟩, ⟨(some 4), (.asg (.t 7) none), none, []⟩] false) (.seq (.reg [⟨(some 8), (.mv (.t 4)), none, []⟩, ⟨(some 9), (.call (.c (.clo 38 [])) [(.t 8), (.c (.int .i64 3)), (.c (.int .i64 16))]), none, []⟩, ⟨(some 5), (.new (.agg [.nils]) 1 56), none, []⟩, ⟨none, (.st 1 (.t 5) (.t 9)), none, []⟩] false) (.seq (.reg [⟨(some 10), (.fldA 0 (.t 5)), none, []⟩, ⟨(some 11), (.ld 1 false (.t 10)), none, [0]⟩, ⟨(some 12), (.mv (.t 4)), none, []⟩, ⟨(some 13), (.fldA 0 (.t 5)), none, []⟩, ⟨(some 14), (.ld 1 false (.t 13)), none, [3]⟩, ⟨(some 15), (.len false (.t 14)), none, [4]⟩, ⟨(some 16), (.call (.c (.clo 39 [])) [(.t 12), (.t 15)]), none, [2, 5]⟩, ⟨(some 17), (.ixA 3 (.t 11) (.t 16)), none, [1, 6]⟩, ⟨(some 18), (.ld 3 true (.t 17)), none, [7]⟩, ⟨(some 19), (.mv (.t 4)), none, []⟩, ⟨none, (.st 3 (.t 2) (.t 18)), none, [8, 6, 0, 1, 2, 3, 4, 5, 6, 7, 8]⟩, ⟨(some 3), (.asg (.t 19) none), none, [9, 10, 0, 1, 2, 3, 4, 5, 6, 7, 8, 9, 10]⟩] true) .ret))))
theorem dc13_c : (Try.f13.body.bind (cCode Try.prog Try.f13.ntmps)) = some dc13 := by kernel_rfl
theorem dc13_r : Try.f13.results.toList.mapM (cRes Try.prog) = some [(.c 2 3 true), (.t 3)] := by kernel_rfl
def law13_function_enc (a : (List Int)) : List D := [.sl (a.map eU8)]
def law13_function_dec (ds : List D) : (List Int) := (uL uI) (ds.getD 0 .top)
theorem law13_function_de (a : (List Int)) : law13_function_dec (law13_function_enc a) = a := by simp [law13_function_dec, law13_function_enc, uI, uBo, uS, uL_e (u := uI) (en := eU8) (fun _ => rfl)]
def law13_function_R (b : TFunc × Tdraw_Codes) : D := .tup [eFunc b.1, edraw_Codes b.2]
def law13_function_E (_b : TFunc × Tdraw_Codes) : List D := []
noncomputable def law13_function_S : Dw.Spec := fSpec [] (.tupPtr 1 2 80) law13_function_enc law13_function_dec (fun a => law13_function a) law13_function_R law13_function_E
set_option maxHeartbeats 4000000 in
theorem law13_function_ok : SpecOk Try.prog 13 law13_function_S := by
  refine fn_ok (specs_ok (l := [(37, draw_New_S), (38, draw_Codes_Program_S), (39, draw_Codes_Next_S)]) (by simp [draw_New_ok, draw_Codes_Program_ok, draw_Codes_Next_ok])) Try.func13 (by decide) dc13_c dc13_r (np := 1) (by decide) law13_function_de (fun _ => rfl) ?_
  intro codes1
  show Tr (specs [(37, draw_New_S), (38, draw_Codes_Program_S), (39, draw_Codes_Next_S)]) dc13 (kRet [] (.tupPtr 1 2 80) [(.c 2 3 true), (.t 3)] 1 law13_function_R law13_function_E) ⟨[(0, .sl (codes1.map eU8))], [], 1⟩ (law13_function codes1)
  unfold dc13 law13_function
  refine tr_seq ?_
  refine tr_reg ?_
  refine trO_new rfl ?_
  refine trO_asg rfl rfl ?_
  refine trO_nil ?_
  refine trX_seq ?_
  refine tr_seq ?_
  refine tr_reg ?_
  refine trO_mv rfl rfl ?_
  refine trO_bind fun r2 hr2 => ?_
  refine trO_call_ptr (codes1, 250) rfl rfl rfl draw_New_de rfl rfl (by simp) rfl hr2 ?_
  refine trO_asg rfl rfl ?_
  refine trO_nil ?_
  refine trX_seq ?_
  refine tr_seq ?_
  refine tr_reg ?_
  refine trO_mv rfl rfl ?_
  refine trO_bind fun r3 hr3 => ?_
  refine trO_call_val (r2, 3, 16) rfl rfl rfl draw_Codes_Program_de rfl rfl (by simp) rfl hr3 ?_
  refine trO_new rfl ?_
  refine trO_st_var (z' := .agg [.sl (r3.1.Funcs.map eFunc)]) rfl rfl rfl rfl rfl rfl rfl rfl rfl ?_
  refine trO_nil ?_
  refine trX_seq ?_
  refine tr_seq ?_
  refine tr_reg ?_
  refine trO_fldA rfl rfl ?_
  refine trO_ld_obj (v := .sl (r3.1.Funcs.map eFunc)) (z := .agg [.sl (r3.1.Funcs.map eFunc)]) rfl rfl rfl rfl rfl rfl ?_
  refine trO_mv rfl rfl ?_
  refine trO_fldA rfl rfl ?_
  refine trO_ld_obj (v := .sl (r3.1.Funcs.map eFunc)) (z := .agg [.sl (r3.1.Funcs.map eFunc)]) rfl rfl rfl rfl rfl rfl ?_
  refine trO_len_sl rfl rfl ?_
  refine trO_bind fun r4 hr4 => ?_
  refine trO_call_val (r3.2, (r3.1.Funcs.length : Int)) rfl rfl rfl draw_Codes_Next_de rfl rfl (by simp) rfl hr4 ?_
  refine trO_bind fun x_x5 hx_x5 => ?_
  refine trO_ixA_sl (en := eFunc) rfl rfl rfl hx_x5 rfl ?_
  refine trO_ld_f (v := .agg [.int .i64 x_x5.Params, .sl (x_x5.Slots.map eSlot), .sl (x_x5.Code.map eInstr)]) rfl rfl rfl rfl ?_
  refine trO_mv rfl rfl ?_
  refine trO_st_var (z' := .agg [.int .i64 x_x5.Params, .sl (x_x5.Slots.map eSlot), .sl (x_x5.Code.map eInstr)]) rfl rfl rfl rfl rfl rfl rfl rfl rfl ?_
  refine trO_asg rfl rfl ?_
  refine trO_nil_draw (by kernel_rfl) ?_
  refine trX_seq ?_
  refine tr_ret ?_
  exact ret_tupPtr (b := (x_x5, r4.2)) (by decide) (by decide) rfl (by first | (simp; done) | (simp; omega)) rfl (by first | (simp; done) | (simp; omega)) rfl (by first | (simp; done) | (simp; omega)) rfl (by first | (simp; done) | (simp; omega)) rfl rfl (by first | (simp; done) | (simp; omega)) rfl

def dc14 : DCode := (.seq (.reg [⟨(some 4), (.asg (.c (.bool false)) none), none, []⟩] false) (.seq (.seq (.reg [⟨(some 6), (.mv (.t 0)), none, []⟩, ⟨(some 7), (.len false (.t 6)), none, []⟩, ⟨(some 8), (.mv (.t 1)), none, []⟩, ⟨(some 9), (.len false (.t 8)), none, []⟩, ⟨(some 10), (.bin .neq (.t 7) (.t 9)), none, []⟩] false) (.cond (.t 10) (.seq (.reg [⟨(some 4), (.asg (.c (.bool false)) none), none, []⟩] false) .ret) .skip)) (.seq (.seq (.reg [⟨(some 5), (.asg (.c (.int .i64 0)) none), none, []⟩] false) (.block 0 (.loop (.seq (.seq (.reg [⟨(some 11), (.mv (.t 5)), none, []⟩, ⟨(some 12), (.mv (.t 0)), none, []⟩, ⟨(some 13), (.len false (.t 12)), none, []⟩, ⟨(some 14), (.bin .lss (.t 11) (.t 13)), none, []⟩] false) (.cond (.t 14) .skip (.exit 0))) (.seq (.block 1 (.seq (.reg [⟨(some 17), (.mv (.t 0)), none, []⟩, ⟨(some 18), (.mv (.t 5)), none, []⟩, ⟨(some 19), (.ixA 1 (.t 17) (.t 18)), none, [0, 1]⟩, ⟨(some 20), (.ld 1 false (.t 19)), none, [2]⟩, ⟨(some 21), (.mv (.t 1)), none, []⟩, ⟨(some 22), (.mv (.t 5)), none, []⟩, ⟨(some 23), (.ixA 1 (.t 21) (.t 22)), none, [4, 5]⟩, ⟨(some 24), (.ld 1 false (.t 23)), none, [6]⟩, ⟨(some 25), (.bin .neq (.t 20) (.t 24)), none, [3, 7]⟩] true) (.cond (.t 25) (.seq (.reg [⟨(some 4), (.asg (.c (.bool false)) none), none, []⟩] false) .ret) .skip))) (.reg [⟨(some 15), (.mv (.t 5)), none, []⟩, ⟨(some 16), (.bin .add (.t 15) (.c (.int .i64 1))), none, []⟩, ⟨(some 5), (.asg (.t 16) none), none, []⟩] false)))))) (.seq (.reg [⟨(some 4), (.asg (.c (.bool true)) none), none, []⟩] false) .ret))))
theorem dc14_c : (Try.f14.body.bind (cCode Try.prog Try.f14.ntmps)) = some dc14 := by kernel_rfl
theorem dc14_r : Try.f14.results.toList.mapM (cRes Try.prog) = some [(.t 4)] := by kernel_rfl
def ref04_Same_enc (a : (List Int) × (List Int)) : List D := [.sl (a.1.map eI64), .sl (a.2.map eI64)]
def ref04_Same_dec (ds : List D) : (List Int) × (List Int) := ((uL uI) (ds.getD 0 .top), (uL uI) (ds.getD 1 .top))
theorem ref04_Same_de (a : (List Int) × (List Int)) : ref04_Same_dec (ref04_Same_enc a) = a := by simp [ref04_Same_dec, ref04_Same_enc, uI, uBo, uS, uL_e (u := uI) (en := eI64) (fun _ => rfl)]
def ref04_Same_R (b : Bool) : D := .bool b
def ref04_Same_E (_b : Bool) : List D := []
noncomputable def ref04_Same_S : Dw.Spec := fSpec [] .ground ref04_Same_enc ref04_Same_dec (fun a => ref04_Same a.1 a.2) ref04_Same_R ref04_Same_E
set_option maxHeartbeats 4000000 in
theorem ref04_Same_ok : SpecOk Try.prog 14 ref04_Same_S := by
  refine fn_ok (specs_nil) Try.func14 (by decide) dc14_c dc14_r (np := 2) (by decide) ref04_Same_de (fun _ => rfl) ?_
  rintro ⟨a1, b2⟩
  show Tr (specs []) dc14 (kRet [] .ground [(.t 4)] 2 ref04_Same_R ref04_Same_E) ⟨[(0, .sl (a1.map eI64)), (1, .sl (b2.map eI64))], [], 2⟩ (ref04_Same a1 b2)
  unfold dc14 ref04_Same
  refine tr_seq ?_
  refine tr_reg ?_
  refine trO_asg rfl rfl ?_
  refine trO_nil ?_
  refine trX_seq ?_
  refine tr_seq ?_
  refine tr_seq ?_
  refine tr_reg ?_
  refine trO_mv rfl rfl ?_
  refine trO_len_sl rfl rfl ?_
  refine trO_mv rfl rfl ?_
  refine trO_len_sl rfl rfl ?_
  refine trO_bin (v := .bool ((a1.length : Int) != (b2.length : Int))) rfl rfl rfl rfl rfl ?_
  refine trO_nil ?_
  refine trX_seq ?_
  refine tr_cond (c := ((a1.length : Int) != (b2.length : Int))) rfl ?_ ?_
  ·
    refine tr_seq ?_
    refine tr_reg ?_
    refine trO_asg rfl rfl ?_
    refine trO_nil ?_
    refine trX_seq ?_
    refine tr_ret ?_
    refine trX_seq_ret ?_
    exact ret_ground (b := false) rfl (by first | (simp; done) | (simp; omega)) rfl rfl (by first | (simp; done) | (simp; omega)) rfl
  ·
    refine tr_skip ?_
    refine trX_seq ?_
    refine tr_seq ?_
    refine tr_seq ?_
    refine tr_reg ?_
    refine trO_asg rfl rfl ?_
    refine trO_nil ?_
    refine trX_seq ?_
    refine tr_block ?_
    refine tr_loop (E := fun (s : Int) (g : Unit) => [(0, .sl (a1.map eI64)), (1, .sl (b2.map eI64)), (5, .int .i64 s)]) (O := fun s g => []) (body := fun s => ref04_Same_b1 a1 b2 s) (s := 0) () (has_exact ⟨rfl, rfl, rfl, trivial⟩ trivial) ?_
    rintro i3 ⟨⟩ nn
    show Tr _ _ _ ⟨[(0, .sl (a1.map eI64)), (1, .sl (b2.map eI64)), (5, .int .i64 i3)], [], _⟩ (ref04_Same_b1 a1 b2 i3)
    unfold ref04_Same_b1
    refine tr_seq ?_
    refine tr_seq ?_
    refine tr_reg ?_
    refine trO_mv rfl rfl ?_
    refine trO_mv rfl rfl ?_
    refine trO_len_sl rfl rfl ?_
    refine trO_bin (v := .bool (decide (i3 < (a1.length : Int)))) rfl rfl rfl rfl rfl ?_
    refine trO_nil ?_
    refine trX_seq ?_
    refine tr_cond (c := (decide (i3 < (a1.length : Int)))) rfl ?_ ?_
    ·
      refine tr_skip ?_
      refine trX_seq ?_
      refine tr_seq ?_
      refine tr_block ?_
      refine tr_seq ?_
      refine tr_reg ?_
      refine trO_mv rfl rfl ?_
      refine trO_mv rfl rfl ?_
      refine trO_bind fun x_x4 hx_x4 => ?_
      refine trO_ixA_sl (en := eI64) rfl rfl rfl hx_x4 rfl ?_
      refine trO_ld_f (v := .int .i64 x_x4) rfl rfl rfl rfl ?_
      refine trO_mv rfl rfl ?_
      refine trO_mv rfl rfl ?_
      refine trO_bind fun x_x5 hx_x5 => ?_
      refine trO_ixA_sl (en := eI64) rfl rfl rfl hx_x5 rfl ?_
      refine trO_ld_f (v := .int .i64 x_x5) rfl rfl rfl rfl ?_
      refine trO_bin (v := .bool (x_x4 != x_x5)) rfl rfl rfl rfl rfl ?_
      refine trO_nil_draw (by kernel_rfl) ?_
      refine trX_seq ?_
      refine tr_cond (c := (x_x4 != x_x5)) rfl ?_ ?_
      ·
        refine tr_seq ?_
        refine tr_reg ?_
        refine trO_asg rfl rfl ?_
        refine trO_nil ?_
        refine trX_seq ?_
        refine tr_ret ?_
        refine trX_blk_ret ?_
        refine trX_seq_ret ?_
        refine trX_loop_ret ?_
        refine trX_blk_ret ?_
        refine trX_seq_ret ?_
        exact ret_ground (b := false) rfl (by first | (simp; done) | (simp; omega)) rfl rfl (by first | (simp; done) | (simp; omega)) rfl
      ·
        refine tr_skip ?_
        refine trX_blk_normal ?_
        refine trX_seq ?_
        refine tr_reg ?_
        refine trO_mv rfl rfl ?_
        refine trO_bin (v := .int .i64 (IntKind.i64.wrap (i3 + 1))) rfl rfl rfl rfl rfl ?_
        refine trO_asg rfl rfl ?_
        refine trO_nil ?_
        exact trX_loop (s := IntKind.i64.wrap (i3 + 1)) () (has_exact ⟨rfl, rfl, rfl, trivial⟩ trivial)
    ·
      refine tr_exit ?_
      refine trX_seq_exit ?_
      refine trX_loop_exit ?_
      refine trX_blk_here ?_
      refine trX_seq ?_
      refine tr_seq ?_
      refine tr_reg ?_
      refine trO_asg rfl rfl ?_
      refine trO_nil ?_
      refine trX_seq ?_
      refine tr_ret ?_
      exact ret_ground (b := true) rfl (by first | (simp; done) | (simp; omega)) rfl rfl (by first | (simp; done) | (simp; omega)) rfl

def dc43 : DCode := (.seq (.reg [⟨(some 1), (.box (.t 0) 3 27), none, []⟩, ⟨(some 2), (.asg (.c .nils) (some ⟨1, 4⟩)), none, []⟩] false) (.seq (.reg [⟨(some 7), (.fldA 2 (.t 1)), none, []⟩, ⟨(some 8), (.ld 1 false (.t 7)), none, []⟩, ⟨(some 9), (.len false (.t 8)), none, []⟩, ⟨(some 3), (.asg (.t 9) none), none, []⟩] false) (.seq (.reg [⟨(some 10), (.mv (.t 3)), none, []⟩, ⟨(some 11), (.mkS 1 4 1 (.bool false) (.t 10) (.t 10)), none, []⟩, ⟨(some 4), (.asg (.t 11) (some ⟨1, 4⟩)), none, []⟩] false) (.seq (.seq (.reg [⟨(some 12), (.mv (.t 3)), none, []⟩, ⟨(some 13), (.mv (.c (.int .i64 0))), none, []⟩] false) (.block 0 (.loop (.seq (.reg [⟨(some 14), (.bin .lss (.t 13) (.t 12)), none, []⟩] false) (.seq (.cond (.t 14) .skip (.exit 0)) (.seq (.block 1 (.seq (.reg [⟨(some 15), (.mv (.t 13)), none, []⟩, ⟨(some 5), (.asg (.t 15) none), none, []⟩] false) (.seq (.reg [⟨(some 16), (.fldA 2 (.t 1)), none, []⟩, ⟨(some 17), (.ld 1 false (.t 16)), none, []⟩, ⟨(some 18), (.mv (.t 5)), none, []⟩, ⟨(some 19), (.ixA 5 (.t 17) (.t 18)), none, []⟩, ⟨(some 20), (.ld 5 true (.t 19)), none, []⟩, ⟨(some 6), (.new (.agg [(.int .i64 0), (.int .i64 0), (.int .i64 0), (.int .i64 0), (.int .u64 0)]) 5 52), none, []⟩, ⟨none, (.st 5 (.t 6) (.t 20)), none, []⟩] false) (.seq (.seq (.reg [⟨(some 21), (.mv (.t 5)), none, []⟩, ⟨(some 22), (.bin .eql (.t 21) (.c (.int .i64 0))), none, []⟩] false) (.cond (.t 22) (.reg [⟨(some 23), (.mv (.t 4)), none, []⟩, ⟨(some 24), (.mv (.t 5)), none, []⟩, ⟨(some 25), (.ixA 1 (.t 23) (.t 24)), none, []⟩, ⟨none, (.st 1 (.t 25) (.c (.bool true))), none, []⟩] false) .skip)) (.seq (.seq (.reg [⟨(some 26), (.fldA 0 (.t 6)), none, []⟩, ⟨(some 27), (.ld 1 false (.t 26)), none, []⟩] false) (.block 2 (.seq (.reg [⟨(some 29), (.bin .eql (.t 27) (.c (.int .i64 20))), none, []⟩, ⟨(some 28), (.asg (.t 29) none), none, []⟩] false) (.cond (.t 28) (.reg [⟨(some 30), (.mv (.t 4)), none, []⟩, ⟨(some 31), (.fldA 1 (.t 6)), none, []⟩, ⟨(some 32), (.ld 1 false (.t 31)), none, []⟩, ⟨(some 33), (.ixA 1 (.t 30) (.t 32)), none, []⟩, ⟨none, (.st 1 (.t 33) (.c (.bool true))), none, []⟩] false) (.seq (.reg [⟨(some 35), (.bin .eql (.t 27) (.c (.int .i64 21))), none, []⟩, ⟨(some 34), (.asg (.t 35) none), none, []⟩] false) (.cond (.t 34) (.reg [⟨(some 36), (.mv (.t 4)), none, []⟩, ⟨(some 37), (.fldA 2 (.t 6)), none, []⟩, ⟨(some 38), (.ld 1 false (.t 37)), none, []⟩, ⟨(some 39), (.ixA 1 (.t 36) (.t 38)), none, []⟩, ⟨none, (.st 1 (.t 39) (.c (.bool true))), none, []⟩] false) .skip)))))) (.seq (.reg [⟨(some 40), (.fldA 0 (.t 6)), none, []⟩, ⟨(some 41), (.ld 1 false (.t 40)), none, []⟩, ⟨(some 42), (.bin .eql (.t 41) (.c (.int .i64 21))), none, []⟩, ⟨(some 43), (.mv (.t 42)), none, []⟩, ⟨(some 44), (.fldA 0 (.t 6)), (some ⟨43, false⟩), []⟩, ⟨(some 45), (.ld 1 false (.t 44)), (some ⟨43, false⟩), []⟩, ⟨(some 46), (.call (.c (.clo 40 [])) [(.t 45)]), (some ⟨43, false⟩), []⟩, ⟨(some 47), (.pick (.t 43) (.c (.bool true)) (.t 46)), none, []⟩, ⟨(some 48), (.mv (.t 47)), none, []⟩, ⟨(some 49), (.mv (.t 5)), (some ⟨48, true⟩), []⟩, ⟨(some 50), (.bin .add (.t 49) (.c (.int .i64 1))), (some ⟨48, true⟩), []⟩, ⟨(some 51), (.mv (.t 3)), (some ⟨48, true⟩), []⟩, ⟨(some 52), (.bin .lss (.t 50) (.t 51)), (some ⟨48, true⟩), []⟩, ⟨(some 53), (.pick (.t 48) (.t 52) (.c (.bool false))), none, []⟩] false) (.cond (.t 53) (.reg [⟨(some 54), (.mv (.t 4)), none, []⟩, ⟨(some 55), (.mv (.t 5)), none, []⟩, ⟨(some 56), (.bin .add (.t 55) (.c (.int .i64 1))), none, []⟩, ⟨(some 57), (.ixA 1 (.t 54) (.t 56)), none, []⟩, ⟨none, (.st 1 (.t 57) (.c (.bool true))), none, []⟩] false) .skip))))))) (.reg [⟨(some 58), (.bin .add (.t 13) (.c (.int .i64 1))), none, []⟩, ⟨(some 13), (.mv (.t 58)), none, []⟩] false))))))) (.seq (.reg [⟨(some 59), (.mv (.t 4)), none, []⟩, ⟨(some 2), (.asg (.t 59) (some ⟨1, 4⟩)), none, []⟩] false) .ret)))))
theorem dc43_c : (Try.f43.body.bind (cCode Try.prog Try.f43.ntmps)) = some dc43 := by kernel_rfl
theorem dc43_r : Try.f43.results.toList.mapM (cRes Try.prog) = some [(.t 2)] := by kernel_rfl
def flow_leads_enc (a : TFunc) : List D := [eFunc a]
def flow_leads_dec (ds : List D) : TFunc := uFunc (ds.getD 0 .top)
theorem flow_leads_de (a : TFunc) : flow_leads_dec (flow_leads_enc a) = a := by simp [flow_leads_dec, flow_leads_enc, uI, uBo, uS]
def flow_leads_R (b : (List Bool)) : D := .sl (b.map D.bool)
def flow_leads_E (_b : (List Bool)) : List D := []
noncomputable def flow_leads_S : Dw.Spec := fSpec [] (.row 1 4) flow_leads_enc flow_leads_dec (fun a => flow_leads a) flow_leads_R flow_leads_E
set_option maxHeartbeats 4000000 in
theorem flow_leads_ok : SpecOk Try.prog 43 flow_leads_S := by
  refine fn_ok (specs_ok (l := [(40, sir_Terminator_S)]) (by simp [sir_Terminator_ok])) Try.func43 (by decide) dc43_c dc43_r (np := 1) (by decide) flow_leads_de (fun _ => rfl) ?_
  intro f1
  show Tr (specs [(40, sir_Terminator_S)]) dc43 (kRet [] (.row 1 4) [(.t 2)] 1 flow_leads_R flow_leads_E) ⟨[(0, .agg [.int .i64 f1.Params, .sl (f1.Slots.map eSlot), .sl (f1.Code.map eInstr)])], [], 1⟩ (flow_leads f1)
  unfold dc43 flow_leads
  refine tr_seq ?_
  refine tr_reg ?_
  refine trO_box rfl rfl rfl rfl rfl ?_
  refine trO_asg_nil (α := Bool) rfl D.bool rfl ?_
  refine trO_nil ?_
  refine trX_seq ?_
  refine tr_seq ?_
  refine tr_reg ?_
  refine trO_fldA rfl rfl ?_
  refine trO_ld_obj (v := .sl (f1.Code.map eInstr)) (z := .agg [.int .i64 f1.Params, .sl (f1.Slots.map eSlot), .sl (f1.Code.map eInstr)]) rfl rfl rfl rfl rfl rfl ?_
  refine trO_len_sl rfl rfl ?_
  refine trO_asg rfl rfl ?_
  refine trO_nil ?_
  refine trX_seq ?_
  refine tr_seq ?_
  refine tr_reg ?_
  refine trO_mv rfl rfl ?_
  refine trO_chk fun hq => ?_
  refine trO_mkS (q := false) D.bool rfl rfl rfl rfl hq rfl ?_
  refine trO_asg_own (l := List.replicate (f1.Code.length : Int).toNat false) (en := D.bool) rfl rfl rfl rfl ?_
  refine trO_nil ?_
  refine trX_seq ?_
  refine tr_seq ?_
  refine tr_seq ?_
  refine tr_reg ?_
  refine trO_mv rfl rfl ?_
  refine trO_mv rfl rfl ?_
  refine trO_nil ?_
  refine trX_seq ?_
  refine tr_block ?_
  refine tr_loop (E := fun (s : (List Bool) × Int) (g : Nat × Nat) => [(1, .optr 1 g.1 0 0), (3, .int .i64 (f1.Code.length : Int)), (4, .osl 4 g.2 0 s.1.length), (12, .int .i64 (f1.Code.length : Int)), (13, .int .i64 s.2)]) (O := fun s g => [(1, some (g.1, ⟨false, true, 3, 27, [.agg [.int .i64 f1.Params, .sl (f1.Slots.map eSlot), .sl (f1.Code.map eInstr)]]⟩)), (4, some (g.2, ⟨false, false, 1, 4, s.1.map D.bool⟩))]) (body := fun s => flow_leads_b1 f1 s.1 s.2) (s := (List.replicate (f1.Code.length : Int).toNat false, 0)) (_, _) (has_exact ⟨rfl, rfl, rfl, rfl, rfl, trivial⟩ ⟨rfl, rfl, trivial⟩) ?_
  rintro ⟨leader2, x3⟩ ⟨v1, v4⟩ nn
  show Tr _ _ _ ⟨[(1, .optr 1 v1 0 0), (3, .int .i64 (f1.Code.length : Int)), (4, .osl 4 v4 0 leader2.length), (12, .int .i64 (f1.Code.length : Int)), (13, .int .i64 x3)], [(1, some (v1, ⟨false, true, 3, 27, [.agg [.int .i64 f1.Params, .sl (f1.Slots.map eSlot), .sl (f1.Code.map eInstr)]]⟩)), (4, some (v4, ⟨false, false, 1, 4, leader2.map D.bool⟩))], _⟩ (flow_leads_b1 f1 leader2 x3)
  unfold flow_leads_b1
  refine tr_seq ?_
  refine tr_reg ?_
  refine trO_bin (v := .bool (decide (x3 < (f1.Code.length : Int)))) rfl rfl rfl rfl rfl ?_
  refine trO_nil ?_
  refine trX_seq ?_
  refine tr_seq ?_
  refine tr_cond (c := (decide (x3 < (f1.Code.length : Int)))) rfl ?_ ?_
  ·
    refine tr_skip ?_
    refine trX_seq ?_
    refine tr_seq ?_
    refine tr_block ?_
    refine tr_seq ?_
    refine tr_reg ?_
    refine trO_mv rfl rfl ?_
    refine trO_asg rfl rfl ?_
    refine trO_nil ?_
    refine trX_seq ?_
    refine tr_seq ?_
    refine tr_reg ?_
    refine trO_fldA rfl rfl ?_
    refine trO_ld_obj (v := .sl (f1.Code.map eInstr)) (z := .agg [.int .i64 f1.Params, .sl (f1.Slots.map eSlot), .sl (f1.Code.map eInstr)]) rfl rfl rfl rfl rfl rfl ?_
    refine trO_mv rfl rfl ?_
    refine trO_bind fun x_x4 hx_x4 => ?_
    refine trO_ixA_sl (en := eInstr) rfl rfl rfl hx_x4 rfl ?_
    refine trO_ld_f (v := .agg [.int .i64 x_x4.Op, .int .i64 x_x4.A, .int .i64 x_x4.B, .int .i64 x_x4.C, .int .u64 x_x4.Imm]) rfl rfl rfl rfl ?_
    refine trO_new rfl ?_
    refine trO_st_var (z' := .agg [.int .i64 x_x4.Op, .int .i64 x_x4.A, .int .i64 x_x4.B, .int .i64 x_x4.C, .int .u64 x_x4.Imm]) rfl rfl rfl rfl rfl rfl rfl rfl rfl ?_
    refine trO_nil ?_
    refine trX_seq ?_
    refine tr_seq_cut (E := fun (s : (List Bool)) (g : Nat × Nat × Nat) => [(1, .optr 1 g.1 0 0), (3, .int .i64 (f1.Code.length : Int)), (4, .osl 4 g.2.1 0 s.length), (5, .int .i64 x3), (6, .optr 6 g.2.2 0 0), (12, .int .i64 (f1.Code.length : Int)), (13, .int .i64 x3)]) (O := fun s g => [(1, some (g.1, ⟨false, true, 3, 27, [.agg [.int .i64 f1.Params, .sl (f1.Slots.map eSlot), .sl (f1.Code.map eInstr)]]⟩)), (4, some (g.2.1, ⟨false, false, 1, 4, s.map D.bool⟩)), (6, some (g.2.2, ⟨false, true, 5, 52, [.agg [.int .i64 x_x4.Op, .int .i64 x_x4.A, .int .i64 x_x4.B, .int .i64 x_x4.C, .int .u64 x_x4.Imm]]⟩))]) (j := fun s => flow_leads_j2 x_x4 x3 f1 s) ?_ ?_
    ·
      refine tr_seq ?_
      refine tr_reg ?_
      refine trO_mv rfl rfl ?_
      refine trO_bin (v := .bool (x3 == 0)) rfl rfl rfl rfl rfl ?_
      refine trO_nil ?_
      refine trX_seq ?_
      refine tr_cond (c := (x3 == 0)) rfl ?_ ?_
      ·
        refine tr_reg ?_
        refine trO_mv rfl rfl ?_
        refine trO_mv rfl rfl ?_
        refine trO_chk fun hq => ?_
        refine trO_ixA_own (l := leader2) (en := D.bool) rfl rfl rfl rfl rfl hq ?_
        refine trO_bind fun leader_o6 hleader_o6 => ?_
        refine trO_st_elem (l := leader2) (en := D.bool) (q' := true) rfl rfl rfl rfl rfl rfl rfl (by simp) hleader_o6 rfl rfl rfl rfl rfl ?_
        refine trO_nil ?_
        exact trX_cut (s := leader2.set x3.toNat true) (_, _, _) (has_exact ⟨rfl, rfl, (osl_len (q := leader2.length) rfl (by simp)), rfl, rfl, rfl, rfl, trivial⟩ ⟨rfl, rfl, rfl, trivial⟩)
      ·
        refine tr_skip ?_
        exact trX_cut (s := leader2) (_, _, _) (has_exact ⟨rfl, rfl, rfl, rfl, rfl, rfl, rfl, trivial⟩ ⟨rfl, rfl, rfl, trivial⟩)
    ·
      rintro leader5 ⟨v1, v4, v6⟩ nn
      show Tr _ _ _ ⟨[(1, .optr 1 v1 0 0), (3, .int .i64 (f1.Code.length : Int)), (4, .osl 4 v4 0 leader5.length), (5, .int .i64 x3), (6, .optr 6 v6 0 0), (12, .int .i64 (f1.Code.length : Int)), (13, .int .i64 x3)], [(1, some (v1, ⟨false, true, 3, 27, [.agg [.int .i64 f1.Params, .sl (f1.Slots.map eSlot), .sl (f1.Code.map eInstr)]]⟩)), (4, some (v4, ⟨false, false, 1, 4, leader5.map D.bool⟩)), (6, some (v6, ⟨false, true, 5, 52, [.agg [.int .i64 x_x4.Op, .int .i64 x_x4.A, .int .i64 x_x4.B, .int .i64 x_x4.C, .int .u64 x_x4.Imm]]⟩))], _⟩ (flow_leads_j2 x_x4 x3 f1 leader5)
      unfold flow_leads_j2
      refine tr_seq_cut (E := fun (s : (List Bool)) (g : Nat × Nat × Nat) => [(1, .optr 1 g.1 0 0), (3, .int .i64 (f1.Code.length : Int)), (4, .osl 4 g.2.1 0 s.length), (5, .int .i64 x3), (6, .optr 6 g.2.2 0 0), (12, .int .i64 (f1.Code.length : Int)), (13, .int .i64 x3)]) (O := fun s g => [(1, some (g.1, ⟨false, true, 3, 27, [.agg [.int .i64 f1.Params, .sl (f1.Slots.map eSlot), .sl (f1.Code.map eInstr)]]⟩)), (4, some (g.2.1, ⟨false, false, 1, 4, s.map D.bool⟩)), (6, some (g.2.2, ⟨false, true, 5, 52, [.agg [.int .i64 x_x4.Op, .int .i64 x_x4.A, .int .i64 x_x4.B, .int .i64 x_x4.C, .int .u64 x_x4.Imm]]⟩))]) (j := fun s => flow_leads_j3 x_x4 x3 f1 s) ?_ ?_
      ·
        refine tr_seq ?_
        refine tr_reg ?_
        refine trO_fldA rfl rfl ?_
        refine trO_ld_obj (v := .int .i64 x_x4.Op) (z := .agg [.int .i64 x_x4.Op, .int .i64 x_x4.A, .int .i64 x_x4.B, .int .i64 x_x4.C, .int .u64 x_x4.Imm]) rfl rfl rfl rfl rfl rfl ?_
        refine trO_nil ?_
        refine trX_seq ?_
        refine tr_block ?_
        refine tr_seq ?_
        refine tr_reg ?_
        refine trO_bin (v := .bool (x_x4.Op == 20)) rfl rfl rfl rfl rfl ?_
        refine trO_asg rfl rfl ?_
        refine trO_nil ?_
        refine trX_seq ?_
        refine tr_cond (c := (x_x4.Op == 20)) rfl ?_ ?_
        ·
          refine tr_reg ?_
          refine trO_mv rfl rfl ?_
          refine trO_fldA rfl rfl ?_
          refine trO_ld_obj (v := .int .i64 x_x4.A) (z := .agg [.int .i64 x_x4.Op, .int .i64 x_x4.A, .int .i64 x_x4.B, .int .i64 x_x4.C, .int .u64 x_x4.Imm]) rfl rfl rfl rfl rfl rfl ?_
          refine trO_chk fun hq => ?_
          refine trO_ixA_own (l := leader5) (en := D.bool) rfl rfl rfl rfl rfl hq ?_
          refine trO_bind fun leader_o8 hleader_o8 => ?_
          refine trO_st_elem (l := leader5) (en := D.bool) (q' := true) rfl rfl rfl rfl rfl rfl rfl (by simp) hleader_o8 rfl rfl rfl rfl rfl ?_
          refine trO_nil ?_
          refine trX_blk_normal ?_
          exact trX_cut (s := leader5.set x_x4.A.toNat true) (_, _, _) (has_exact ⟨rfl, rfl, (osl_len (q := leader5.length) rfl (by simp)), rfl, rfl, rfl, rfl, trivial⟩ ⟨rfl, rfl, rfl, trivial⟩)
        ·
          refine tr_seq ?_
          refine tr_reg ?_
          refine trO_bin (v := .bool (x_x4.Op == 21)) rfl rfl rfl rfl rfl ?_
          refine trO_asg rfl rfl ?_
          refine trO_nil ?_
          refine trX_seq ?_
          refine tr_cond (c := (x_x4.Op == 21)) rfl ?_ ?_
          ·
            refine tr_reg ?_
            refine trO_mv rfl rfl ?_
            refine trO_fldA rfl rfl ?_
            refine trO_ld_obj (v := .int .i64 x_x4.B) (z := .agg [.int .i64 x_x4.Op, .int .i64 x_x4.A, .int .i64 x_x4.B, .int .i64 x_x4.C, .int .u64 x_x4.Imm]) rfl rfl rfl rfl rfl rfl ?_
            refine trO_chk fun hq => ?_
            refine trO_ixA_own (l := leader5) (en := D.bool) rfl rfl rfl rfl rfl hq ?_
            refine trO_bind fun leader_o9 hleader_o9 => ?_
            refine trO_st_elem (l := leader5) (en := D.bool) (q' := true) rfl rfl rfl rfl rfl rfl rfl (by simp) hleader_o9 rfl rfl rfl rfl rfl ?_
            refine trO_nil ?_
            refine trX_blk_normal ?_
            exact trX_cut (s := leader5.set x_x4.B.toNat true) (_, _, _) (has_exact ⟨rfl, rfl, (osl_len (q := leader5.length) rfl (by simp)), rfl, rfl, rfl, rfl, trivial⟩ ⟨rfl, rfl, rfl, trivial⟩)
          ·
            refine tr_skip ?_
            refine trX_blk_normal ?_
            exact trX_cut (s := leader5) (_, _, _) (has_exact ⟨rfl, rfl, rfl, rfl, rfl, rfl, rfl, trivial⟩ ⟨rfl, rfl, rfl, trivial⟩)
      ·
        rintro leader7 ⟨v1, v4, v6⟩ nn
        show Tr _ _ _ ⟨[(1, .optr 1 v1 0 0), (3, .int .i64 (f1.Code.length : Int)), (4, .osl 4 v4 0 leader7.length), (5, .int .i64 x3), (6, .optr 6 v6 0 0), (12, .int .i64 (f1.Code.length : Int)), (13, .int .i64 x3)], [(1, some (v1, ⟨false, true, 3, 27, [.agg [.int .i64 f1.Params, .sl (f1.Slots.map eSlot), .sl (f1.Code.map eInstr)]]⟩)), (4, some (v4, ⟨false, false, 1, 4, leader7.map D.bool⟩)), (6, some (v6, ⟨false, true, 5, 52, [.agg [.int .i64 x_x4.Op, .int .i64 x_x4.A, .int .i64 x_x4.B, .int .i64 x_x4.C, .int .u64 x_x4.Imm]]⟩))], _⟩ (flow_leads_j3 x_x4 x3 f1 leader7)
        unfold flow_leads_j3
        refine tr_seq ?_
        refine tr_reg ?_
        refine trO_fldA rfl rfl ?_
        refine trO_ld_obj (v := .int .i64 x_x4.Op) (z := .agg [.int .i64 x_x4.Op, .int .i64 x_x4.A, .int .i64 x_x4.B, .int .i64 x_x4.C, .int .u64 x_x4.Imm]) rfl rfl rfl rfl rfl rfl ?_
        refine trO_bin (v := .bool (x_x4.Op == 21)) rfl rfl rfl rfl rfl ?_
        refine trO_mv rfl rfl ?_
        refine trO_split 43 (b := (x_x4.Op == 21)) rfl ?_ ?_
        ·
          refine trO_off rfl ?_
          refine trO_off rfl ?_
          refine trO_off rfl ?_
          refine trO_pick_true rfl rfl rfl rfl ?_
          refine trO_mv rfl rfl ?_
          refine trO_mv rfl rfl ?_
          refine trO_bin (v := .int .i64 (IntKind.i64.wrap (x3 + 1))) rfl rfl rfl rfl rfl ?_
          refine trO_mv rfl rfl ?_
          refine trO_bin (v := .bool (decide ((IntKind.i64.wrap (x3 + 1)) < (f1.Code.length : Int)))) rfl rfl rfl rfl rfl ?_
          refine trO_pick_true rfl rfl rfl rfl ?_
          refine trO_nil ?_
          refine trX_seq ?_
          refine tr_cond (c := (decide ((IntKind.i64.wrap (x3 + 1)) < (f1.Code.length : Int)))) rfl ?_ ?_
          ·
            refine tr_reg ?_
            refine trO_mv rfl rfl ?_
            refine trO_mv rfl rfl ?_
            refine trO_bin (v := .int .i64 (IntKind.i64.wrap (x3 + 1))) rfl rfl rfl rfl rfl ?_
            refine trO_chk fun hq => ?_
            refine trO_ixA_own (l := leader7) (en := D.bool) rfl rfl rfl rfl rfl hq ?_
            refine trO_bind fun leader_o10 hleader_o10 => ?_
            refine trO_st_elem (l := leader7) (en := D.bool) (q' := true) rfl rfl rfl rfl rfl rfl rfl (by simp) hleader_o10 rfl rfl rfl rfl rfl ?_
            refine trO_nil ?_
            refine trX_blk_normal ?_
            refine trX_seq ?_
            refine tr_reg ?_
            refine trO_bin (v := .int .i64 (IntKind.i64.wrap (x3 + 1))) rfl rfl rfl rfl rfl ?_
            refine trO_mv rfl rfl ?_
            refine trO_nil ?_
            exact trX_loop (s := (leader7.set ((IntKind.i64.wrap (x3 + 1)).toNat) true, IntKind.i64.wrap (x3 + 1))) (_, _) (has_exact ⟨rfl, rfl, (osl_len (q := leader7.length) rfl (by simp)), rfl, rfl, trivial⟩ ⟨rfl, rfl, trivial⟩)
          ·
            refine tr_skip ?_
            refine trX_blk_normal ?_
            refine trX_seq ?_
            refine tr_reg ?_
            refine trO_bin (v := .int .i64 (IntKind.i64.wrap (x3 + 1))) rfl rfl rfl rfl rfl ?_
            refine trO_mv rfl rfl ?_
            refine trO_nil ?_
            exact trX_loop (s := (leader7, IntKind.i64.wrap (x3 + 1))) (_, _) (has_exact ⟨rfl, rfl, rfl, rfl, rfl, trivial⟩ ⟨rfl, rfl, trivial⟩)
        ·
          refine trO_fldA rfl rfl ?_
          refine trO_ld_obj (v := .int .i64 x_x4.Op) (z := .agg [.int .i64 x_x4.Op, .int .i64 x_x4.A, .int .i64 x_x4.B, .int .i64 x_x4.C, .int .u64 x_x4.Imm]) rfl rfl rfl rfl rfl rfl ?_
          refine trO_bind fun r11 hr11 => ?_
          refine trO_call_ground x_x4.Op rfl rfl rfl sir_Terminator_de rfl rfl (by simp) rfl hr11 rfl ?_
          refine trO_pick_false rfl rfl rfl rfl ?_
          refine trO_mv rfl rfl ?_
          refine trO_split 48 (b := r11) rfl ?_ ?_
          ·
            refine trO_mv rfl rfl ?_
            refine trO_bin (v := .int .i64 (IntKind.i64.wrap (x3 + 1))) rfl rfl rfl rfl rfl ?_
            refine trO_mv rfl rfl ?_
            refine trO_bin (v := .bool (decide ((IntKind.i64.wrap (x3 + 1)) < (f1.Code.length : Int)))) rfl rfl rfl rfl rfl ?_
            refine trO_pick_true rfl rfl rfl rfl ?_
            refine trO_nil ?_
            refine trX_seq ?_
            refine tr_cond (c := (decide ((IntKind.i64.wrap (x3 + 1)) < (f1.Code.length : Int)))) rfl ?_ ?_
            ·
              refine tr_reg ?_
              refine trO_mv rfl rfl ?_
              refine trO_mv rfl rfl ?_
              refine trO_bin (v := .int .i64 (IntKind.i64.wrap (x3 + 1))) rfl rfl rfl rfl rfl ?_
              refine trO_chk fun hq => ?_
              refine trO_ixA_own (l := leader7) (en := D.bool) rfl rfl rfl rfl rfl hq ?_
              refine trO_bind fun leader_o12 hleader_o12 => ?_
              refine trO_st_elem (l := leader7) (en := D.bool) (q' := true) rfl rfl rfl rfl rfl rfl rfl (by simp) hleader_o12 rfl rfl rfl rfl rfl ?_
              refine trO_nil ?_
              refine trX_blk_normal ?_
              refine trX_seq ?_
              refine tr_reg ?_
              refine trO_bin (v := .int .i64 (IntKind.i64.wrap (x3 + 1))) rfl rfl rfl rfl rfl ?_
              refine trO_mv rfl rfl ?_
              refine trO_nil ?_
              exact trX_loop (s := (leader7.set ((IntKind.i64.wrap (x3 + 1)).toNat) true, IntKind.i64.wrap (x3 + 1))) (_, _) (has_exact ⟨rfl, rfl, (osl_len (q := leader7.length) rfl (by simp)), rfl, rfl, trivial⟩ ⟨rfl, rfl, trivial⟩)
            ·
              refine tr_skip ?_
              refine trX_blk_normal ?_
              refine trX_seq ?_
              refine tr_reg ?_
              refine trO_bin (v := .int .i64 (IntKind.i64.wrap (x3 + 1))) rfl rfl rfl rfl rfl ?_
              refine trO_mv rfl rfl ?_
              refine trO_nil ?_
              exact trX_loop (s := (leader7, IntKind.i64.wrap (x3 + 1))) (_, _) (has_exact ⟨rfl, rfl, rfl, rfl, rfl, trivial⟩ ⟨rfl, rfl, trivial⟩)
          ·
            refine trO_off rfl ?_
            refine trO_off rfl ?_
            refine trO_off rfl ?_
            refine trO_off rfl ?_
            refine trO_pick_false rfl rfl rfl rfl ?_
            refine trO_nil ?_
            refine trX_seq ?_
            refine tr_cond_false rfl ?_
            refine tr_skip ?_
            refine trX_blk_normal ?_
            refine trX_seq ?_
            refine tr_reg ?_
            refine trO_bin (v := .int .i64 (IntKind.i64.wrap (x3 + 1))) rfl rfl rfl rfl rfl ?_
            refine trO_mv rfl rfl ?_
            refine trO_nil ?_
            exact trX_loop (s := (leader7, IntKind.i64.wrap (x3 + 1))) (_, _) (has_exact ⟨rfl, rfl, rfl, rfl, rfl, trivial⟩ ⟨rfl, rfl, trivial⟩)
  ·
    refine tr_exit ?_
    refine trX_seq_exit ?_
    refine trX_loop_exit ?_
    refine trX_blk_here ?_
    refine trX_seq ?_
    refine tr_seq ?_
    refine tr_reg ?_
    refine trO_mv rfl rfl ?_
    refine trO_asg_own (l := leader2) (en := D.bool) rfl rfl rfl rfl ?_
    refine trO_nil ?_
    refine trX_seq ?_
    refine tr_ret ?_
    exact ret_row (b := leader2) rfl (by first | (simp; done) | (simp; omega)) rfl rfl (by first | (simp; done) | (simp; omega)) rfl (by first | (simp; done) | (simp; omega)) (congrArg D.sl (take_len_map' _ _ rfl)) rfl

def dc23 : DCode := (.seq (.reg [⟨(some 2), (.box (.t 0) 3 27), none, []⟩, ⟨(some 4), (.new (.agg [(.int .i64 0), (.int .i64 0)]) 2 43), none, []⟩] false) (.seq (.seq (.reg [⟨(some 8), (.mv (.t 1)), none, []⟩, ⟨(some 9), (.bin .lss (.t 8) (.c (.int .i64 0))), none, []⟩, ⟨(some 10), (.mv (.t 9)), none, []⟩, ⟨(some 11), (.mv (.t 1)), (some ⟨10, false⟩), []⟩, ⟨(some 12), (.fldA 2 (.t 2)), (some ⟨10, false⟩), []⟩, ⟨(some 13), (.ld 1 false (.t 12)), (some ⟨10, false⟩), []⟩, ⟨(some 14), (.len false (.t 13)), (some ⟨10, false⟩), []⟩, ⟨(some 15), (.bin .geq (.t 11) (.t 14)), (some ⟨10, false⟩), []⟩, ⟨(some 16), (.pick (.t 10) (.c (.bool true)) (.t 15)), none, []⟩] false) (.cond (.t 16) (.seq (.reg [⟨(some 17), (.bld [(.int .i64 0), (.int .i64 0)] []), none, []⟩, ⟨none, (.st 2 (.t 4) (.t 17)), none, []⟩] false) .ret) .skip)) (.seq (.reg [⟨(some 18), (.ld 3 true (.t 2)), none, []⟩, ⟨(some 19), (.call (.c (.clo 43 [])) [(.t 18)]), none, []⟩, ⟨(some 5), (.asg (.t 19) (some ⟨1, 4⟩)), none, []⟩] false) (.seq (.reg [⟨(some 20), (.mv (.t 1)), none, []⟩, ⟨(some 21), (.mv (.t 1)), none, []⟩, ⟨(some 22), (.bin .add (.t 21) (.c (.int .i64 1))), none, []⟩, ⟨(some 6), (.asg (.t 20) none), none, []⟩, ⟨(some 7), (.asg (.t 22) none), none, []⟩] false) (.seq (.block 0 (.loop (.seq (.seq (.reg [⟨(some 23), (.mv (.t 5)), none, []⟩, ⟨(some 24), (.mv (.t 6)), none, []⟩, ⟨(some 25), (.ixA 1 (.t 23) (.t 24)), none, []⟩, ⟨(some 26), (.ld 1 false (.t 25)), none, []⟩, ⟨(some 27), (.un .not (.t 26)), none, []⟩] false) (.cond (.t 27) .skip (.exit 0))) (.block 1 (.reg [⟨(some 28), (.mv (.t 6)), none, []⟩, ⟨(some 29), (.bin .sub (.t 28) (.c (.int .i64 1))), none, []⟩, ⟨(some 6), (.asg (.t 29) none), none, []⟩] false))))) (.seq (.block 2 (.loop (.seq (.seq (.reg [⟨(some 30), (.mv (.t 7)), none, []⟩, ⟨(some 31), (.mv (.t 5)), none, []⟩, ⟨(some 32), (.len false (.t 31)), none, []⟩, ⟨(some 33), (.bin .lss (.t 30) (.t 32)), none, []⟩, ⟨(some 34), (.mv (.t 33)), none, []⟩, ⟨(some 35), (.mv (.t 5)), (some ⟨34, true⟩), []⟩, ⟨(some 36), (.mv (.t 7)), (some ⟨34, true⟩), []⟩, ⟨(some 37), (.ixA 1 (.t 35) (.t 36)), (some ⟨34, true⟩), []⟩, ⟨(some 38), (.ld 1 false (.t 37)), (some ⟨34, true⟩), []⟩, ⟨(some 39), (.un .not (.t 38)), (some ⟨34, true⟩), []⟩, ⟨(some 40), (.pick (.t 34) (.t 39) (.c (.bool false))), none, []⟩] false) (.cond (.t 40) .skip (.exit 2))) (.block 3 (.reg [⟨(some 41), (.mv (.t 7)), none, []⟩, ⟨(some 42), (.bin .add (.t 41) (.c (.int .i64 1))), none, []⟩, ⟨(some 7), (.asg (.t 42) none), none, []⟩] false))))) (.seq (.reg [⟨(some 43), (.mv (.t 6)), none, []⟩, ⟨(some 44), (.mv (.t 7)), none, []⟩, ⟨(some 45), (.mv (.t 6)), none, []⟩, ⟨(some 46), (.bin .sub (.t 44) (.t 45)), none, []⟩, ⟨(some 47), (.bld [(.int .i64 0), (.int .i64 0)] [⟨0, ⟨1, (.t 43)⟩⟩, ⟨1, ⟨1, (.t 46)⟩⟩]), none, []⟩, ⟨none, (.st 2 (.t 4) (.t 47)), none, []⟩] false) .ret)))))))
theorem dc23_c : (Try.f23.body.bind (cCode Try.prog Try.f23.ntmps)) = some dc23 := by kernel_rfl
theorem dc23_r : Try.f23.results.toList.mapM (cRes Try.prog) = some [(.c 4 2 true)] := by kernel_rfl
def flow_Block_enc (a : TFunc × Int) : List D := [eFunc a.1, .int .i64 a.2]
def flow_Block_dec (ds : List D) : TFunc × Int := (uFunc (ds.getD 0 .top), uI (ds.getD 1 .top))
theorem flow_Block_de (a : TFunc × Int) : flow_Block_dec (flow_Block_enc a) = a := by simp [flow_Block_dec, flow_Block_enc, uI, uBo, uS]
def flow_Block_R (b : TInterval) : D := eInterval b
def flow_Block_E (_b : TInterval) : List D := []
noncomputable def flow_Block_S : Dw.Spec := fSpec [] .ground flow_Block_enc flow_Block_dec (fun a => flow_Block a.1 a.2) flow_Block_R flow_Block_E
set_option maxHeartbeats 4000000 in
theorem flow_Block_ok : SpecOk Try.prog 23 flow_Block_S := by
  refine fn_ok (specs_ok (l := [(43, flow_leads_S)]) (by simp [flow_leads_ok])) Try.func23 (by decide) dc23_c dc23_r (np := 2) (by decide) flow_Block_de (fun _ => rfl) ?_
  rintro ⟨f1, k2⟩
  show Tr (specs [(43, flow_leads_S)]) dc23 (kRet [] .ground [(.c 4 2 true)] 2 flow_Block_R flow_Block_E) ⟨[(0, .agg [.int .i64 f1.Params, .sl (f1.Slots.map eSlot), .sl (f1.Code.map eInstr)]), (1, .int .i64 k2)], [], 2⟩ (flow_Block f1 k2)
  unfold dc23 flow_Block
  refine tr_seq ?_
  refine tr_reg ?_
  refine trO_box rfl rfl rfl rfl rfl ?_
  refine trO_new rfl ?_
  refine trO_nil ?_
  refine trX_seq ?_
  refine tr_seq_cut (E := fun (s : Unit) (g : Nat × Nat) => [(1, .int .i64 k2), (2, .optr 2 g.1 0 0), (4, .optr 4 g.2 0 0)]) (O := fun s g => [(2, some (g.1, ⟨false, true, 3, 27, [.agg [.int .i64 f1.Params, .sl (f1.Slots.map eSlot), .sl (f1.Code.map eInstr)]]⟩)), (4, some (g.2, ⟨false, true, 2, 43, [.agg [.int .i64 0, .int .i64 0]]⟩))]) (j := fun s => flow_Block_j1 f1 k2) ?_ ?_
  ·
    refine tr_seq ?_
    refine tr_reg ?_
    refine trO_mv rfl rfl ?_
    refine trO_bin (v := .bool (decide (k2 < 0))) rfl rfl rfl rfl rfl ?_
    refine trO_mv rfl rfl ?_
    refine trO_split 10 (b := (decide (k2 < 0))) rfl ?_ ?_
    ·
      refine trO_off rfl ?_
      refine trO_off rfl ?_
      refine trO_off rfl ?_
      refine trO_off rfl ?_
      refine trO_off rfl ?_
      refine trO_pick_true rfl rfl rfl rfl ?_
      refine trO_nil ?_
      refine trX_seq ?_
      refine tr_cond_true rfl ?_
      refine tr_seq ?_
      refine tr_reg ?_
      refine trO_bld (cs := [.int .i64 0, .int .i64 0]) (ps := []) rfl rfl rfl rfl ?_
      refine trO_st_var (z' := .agg [.int .i64 0, .int .i64 0]) rfl rfl rfl rfl rfl rfl rfl rfl rfl ?_
      refine trO_nil ?_
      refine trX_seq ?_
      refine tr_ret ?_
      refine trX_cut_ret ?_
      exact ret_ground (b := (TInterval.mk 0 0)) rfl (by first | (simp; done) | (simp; omega)) rfl rfl (by first | (simp; done) | (simp; omega)) rfl
    ·
      refine trO_mv rfl rfl ?_
      refine trO_fldA rfl rfl ?_
      refine trO_ld_obj (v := .sl (f1.Code.map eInstr)) (z := .agg [.int .i64 f1.Params, .sl (f1.Slots.map eSlot), .sl (f1.Code.map eInstr)]) rfl rfl rfl rfl rfl rfl ?_
      refine trO_len_sl rfl rfl ?_
      refine trO_bin (v := .bool (decide (k2 ≥ (f1.Code.length : Int)))) rfl rfl rfl rfl rfl ?_
      refine trO_pick_false rfl rfl rfl rfl ?_
      refine trO_nil ?_
      refine trX_seq ?_
      refine tr_cond (c := (decide (k2 ≥ (f1.Code.length : Int)))) rfl ?_ ?_
      ·
        refine tr_seq ?_
        refine tr_reg ?_
        refine trO_bld (cs := [.int .i64 0, .int .i64 0]) (ps := []) rfl rfl rfl rfl ?_
        refine trO_st_var (z' := .agg [.int .i64 0, .int .i64 0]) rfl rfl rfl rfl rfl rfl rfl rfl rfl ?_
        refine trO_nil ?_
        refine trX_seq ?_
        refine tr_ret ?_
        refine trX_cut_ret ?_
        exact ret_ground (b := (TInterval.mk 0 0)) rfl (by first | (simp; done) | (simp; omega)) rfl rfl (by first | (simp; done) | (simp; omega)) rfl
      ·
        refine tr_skip ?_
        exact trX_cut (s := ()) (_, _) (has_exact ⟨rfl, rfl, rfl, trivial⟩ ⟨rfl, rfl, trivial⟩)
  ·
    rintro ⟨⟩ ⟨v2, v4⟩ nn
    show Tr _ _ _ ⟨[(1, .int .i64 k2), (2, .optr 2 v2 0 0), (4, .optr 4 v4 0 0)], [(2, some (v2, ⟨false, true, 3, 27, [.agg [.int .i64 f1.Params, .sl (f1.Slots.map eSlot), .sl (f1.Code.map eInstr)]]⟩)), (4, some (v4, ⟨false, true, 2, 43, [.agg [.int .i64 0, .int .i64 0]]⟩))], _⟩ (flow_Block_j1 f1 k2)
    unfold flow_Block_j1
    refine tr_seq ?_
    refine tr_reg ?_
    refine trO_ld_obj (v := .agg [.int .i64 f1.Params, .sl (f1.Slots.map eSlot), .sl (f1.Code.map eInstr)]) (z := .agg [.int .i64 f1.Params, .sl (f1.Slots.map eSlot), .sl (f1.Code.map eInstr)]) rfl rfl rfl rfl rfl rfl ?_
    refine trO_bind fun r3 hr3 => ?_
    refine trO_call_row (l := r3) (en := D.bool) f1 rfl rfl rfl flow_leads_de rfl rfl (by simp) rfl hr3 rfl ?_
    refine trO_asg_own (l := r3) (en := D.bool) rfl rfl rfl rfl ?_
    refine trO_nil ?_
    refine trX_seq ?_
    refine tr_seq ?_
    refine tr_reg ?_
    refine trO_mv rfl rfl ?_
    refine trO_mv rfl rfl ?_
    refine trO_bin (v := .int .i64 (IntKind.i64.wrap (k2 + 1))) rfl rfl rfl rfl rfl ?_
    refine trO_asg rfl rfl ?_
    refine trO_asg rfl rfl ?_
    refine trO_nil ?_
    refine trX_seq ?_
    refine tr_seq_blk_cut (E := fun (s : Int) (g : Nat × Nat) => [(4, .optr 4 g.1 0 0), (5, .osl 5 g.2 0 r3.length), (6, .int .i64 s), (7, .int .i64 (IntKind.i64.wrap (k2 + 1)))]) (O := fun s g => [(4, some (g.1, ⟨false, true, 2, 43, [.agg [.int .i64 0, .int .i64 0]]⟩)), (5, some (g.2, ⟨false, false, 1, 4, r3.map D.bool⟩))]) (j := fun s => flow_Block_j2 r3 k2 s) ?_ ?_
    ·
      refine tr_loop (E := fun (s : Int) (g : Nat × Nat) => [(4, .optr 4 g.1 0 0), (5, .osl 5 g.2 0 r3.length), (6, .int .i64 s), (7, .int .i64 (IntKind.i64.wrap (k2 + 1)))]) (O := fun s g => [(4, some (g.1, ⟨false, true, 2, 43, [.agg [.int .i64 0, .int .i64 0]]⟩)), (5, some (g.2, ⟨false, false, 1, 4, r3.map D.bool⟩))]) (body := fun s => flow_Block_b3 r3 k2 s) (s := k2) (_, _) (has_exact ⟨rfl, rfl, rfl, rfl, trivial⟩ ⟨rfl, rfl, trivial⟩) ?_
      rintro from5 ⟨v4, v5⟩ nn
      show Tr _ _ _ ⟨[(4, .optr 4 v4 0 0), (5, .osl 5 v5 0 r3.length), (6, .int .i64 from5), (7, .int .i64 (IntKind.i64.wrap (k2 + 1)))], [(4, some (v4, ⟨false, true, 2, 43, [.agg [.int .i64 0, .int .i64 0]]⟩)), (5, some (v5, ⟨false, false, 1, 4, r3.map D.bool⟩))], _⟩ (flow_Block_b3 r3 k2 from5)
      unfold flow_Block_b3
      refine tr_seq ?_
      refine tr_seq ?_
      refine tr_reg ?_
      refine trO_mv rfl rfl ?_
      refine trO_mv rfl rfl ?_
      refine trO_chk fun hq => ?_
      refine trO_ixA_own (l := r3) (en := D.bool) rfl rfl rfl rfl rfl hq ?_
      refine trO_bind fun leader_e6 hleader_e6 => ?_
      refine trO_ld_obj (v := .bool leader_e6) (z := D.bool leader_e6) rfl rfl rfl (map_get hleader_e6) rfl rfl ?_
      refine trO_un (w := .bool (!leader_e6)) rfl rfl rfl rfl trivial ?_
      refine trO_nil ?_
      refine trX_seq ?_
      refine tr_cond (c := (!leader_e6)) rfl ?_ ?_
      ·
        refine tr_skip ?_
        refine trX_seq ?_
        refine tr_block ?_
        refine tr_reg ?_
        refine trO_mv rfl rfl ?_
        refine trO_bin (v := .int .i64 (IntKind.i64.wrap (from5 - 1))) rfl rfl rfl rfl rfl ?_
        refine trO_asg rfl rfl ?_
        refine trO_nil ?_
        refine trX_blk_normal ?_
        exact trX_loop (s := IntKind.i64.wrap (from5 - 1)) (_, _) (has_exact ⟨rfl, rfl, rfl, rfl, trivial⟩ ⟨rfl, rfl, trivial⟩)
      ·
        refine tr_exit ?_
        refine trX_seq_exit ?_
        refine trX_loop_exit ?_
        exact trX_bcut_here (s := from5) (_, _) (has_exact ⟨rfl, rfl, rfl, rfl, trivial⟩ ⟨rfl, rfl, trivial⟩)
    ·
      rintro from4 ⟨v4, v5⟩ nn
      show Tr _ _ _ ⟨[(4, .optr 4 v4 0 0), (5, .osl 5 v5 0 r3.length), (6, .int .i64 from4), (7, .int .i64 (IntKind.i64.wrap (k2 + 1)))], [(4, some (v4, ⟨false, true, 2, 43, [.agg [.int .i64 0, .int .i64 0]]⟩)), (5, some (v5, ⟨false, false, 1, 4, r3.map D.bool⟩))], _⟩ (flow_Block_j2 r3 k2 from4)
      unfold flow_Block_j2
      refine tr_seq_blk_cut (E := fun (s : Int) (g : Nat) => [(4, .optr 4 g 0 0), (6, .int .i64 from4), (7, .int .i64 s)]) (O := fun s g => [(4, some (g, ⟨false, true, 2, 43, [.agg [.int .i64 0, .int .i64 0]]⟩))]) (j := fun s => flow_Block_j4 from4 s) ?_ ?_
      ·
        refine tr_loop (E := fun (s : Int) (g : Nat × Nat) => [(4, .optr 4 g.1 0 0), (5, .osl 5 g.2 0 r3.length), (6, .int .i64 from4), (7, .int .i64 s)]) (O := fun s g => [(4, some (g.1, ⟨false, true, 2, 43, [.agg [.int .i64 0, .int .i64 0]]⟩)), (5, some (g.2, ⟨false, false, 1, 4, r3.map D.bool⟩))]) (body := fun s => flow_Block_b5 r3 from4 s) (s := IntKind.i64.wrap (k2 + 1)) (_, _) (has_exact ⟨rfl, rfl, rfl, rfl, trivial⟩ ⟨rfl, rfl, trivial⟩) ?_
        rintro to8 ⟨v4, v5⟩ nn
        show Tr _ _ _ ⟨[(4, .optr 4 v4 0 0), (5, .osl 5 v5 0 r3.length), (6, .int .i64 from4), (7, .int .i64 to8)], [(4, some (v4, ⟨false, true, 2, 43, [.agg [.int .i64 0, .int .i64 0]]⟩)), (5, some (v5, ⟨false, false, 1, 4, r3.map D.bool⟩))], _⟩ (flow_Block_b5 r3 from4 to8)
        unfold flow_Block_b5
        refine tr_seq ?_
        refine tr_seq ?_
        refine tr_reg ?_
        refine trO_mv rfl rfl ?_
        refine trO_mv rfl rfl ?_
        refine trO_len_own rfl rfl ?_
        refine trO_bin (v := .bool (decide (to8 < (r3.length : Int)))) rfl rfl rfl rfl rfl ?_
        refine trO_mv rfl rfl ?_
        refine trO_split 34 (b := (decide (to8 < (r3.length : Int)))) rfl ?_ ?_
        ·
          refine trO_mv rfl rfl ?_
          refine trO_mv rfl rfl ?_
          refine trO_chk fun hq => ?_
          refine trO_ixA_own (l := r3) (en := D.bool) rfl rfl rfl rfl rfl hq ?_
          refine trO_bind fun leader_e9 hleader_e9 => ?_
          refine trO_ld_obj (v := .bool leader_e9) (z := D.bool leader_e9) rfl rfl rfl (map_get hleader_e9) rfl rfl ?_
          refine trO_un (w := .bool (!leader_e9)) rfl rfl rfl rfl trivial ?_
          refine trO_pick_true rfl rfl rfl rfl ?_
          refine trO_nil ?_
          refine trX_seq ?_
          refine tr_cond (c := (!leader_e9)) rfl ?_ ?_
          ·
            refine tr_skip ?_
            refine trX_seq ?_
            refine tr_block ?_
            refine tr_reg ?_
            refine trO_mv rfl rfl ?_
            refine trO_bin (v := .int .i64 (IntKind.i64.wrap (to8 + 1))) rfl rfl rfl rfl rfl ?_
            refine trO_asg rfl rfl ?_
            refine trO_nil ?_
            refine trX_blk_normal ?_
            exact trX_loop (s := IntKind.i64.wrap (to8 + 1)) (_, _) (has_exact ⟨rfl, rfl, rfl, rfl, trivial⟩ ⟨rfl, rfl, trivial⟩)
          ·
            refine tr_exit ?_
            refine trX_seq_exit ?_
            refine trX_loop_exit ?_
            exact trX_bcut_here (s := to8) _ (has_exact ⟨rfl, rfl, rfl, trivial⟩ ⟨rfl, trivial⟩)
        ·
          refine trO_off rfl ?_
          refine trO_off rfl ?_
          refine trO_off rfl ?_
          refine trO_off rfl ?_
          refine trO_off rfl ?_
          refine trO_pick_false rfl rfl rfl rfl ?_
          refine trO_nil ?_
          refine trX_seq ?_
          refine tr_cond_false rfl ?_
          refine tr_exit ?_
          refine trX_seq_exit ?_
          refine trX_loop_exit ?_
          exact trX_bcut_here (s := to8) _ (has_exact ⟨rfl, rfl, rfl, trivial⟩ ⟨rfl, trivial⟩)
      ·
        rintro to7 v4 nn
        show Tr _ _ _ ⟨[(4, .optr 4 v4 0 0), (6, .int .i64 from4), (7, .int .i64 to7)], [(4, some (v4, ⟨false, true, 2, 43, [.agg [.int .i64 0, .int .i64 0]]⟩))], _⟩ (flow_Block_j4 from4 to7)
        unfold flow_Block_j4
        refine tr_seq ?_
        refine tr_reg ?_
        refine trO_mv rfl rfl ?_
        refine trO_mv rfl rfl ?_
        refine trO_mv rfl rfl ?_
        refine trO_bin (v := .int .i64 (IntKind.i64.wrap (to7 - from4))) rfl rfl rfl rfl rfl ?_
        refine trO_bld (cs := [.int .i64 from4, .int .i64 (IntKind.i64.wrap (to7 - from4))]) (ps := [(0, 1, .int .i64 from4), (1, 1, .int .i64 (IntKind.i64.wrap (to7 - from4)))]) rfl rfl rfl rfl ?_
        refine trO_st_var (z' := .agg [.int .i64 from4, .int .i64 (IntKind.i64.wrap (to7 - from4))]) rfl rfl rfl rfl rfl rfl rfl rfl rfl ?_
        refine trO_nil ?_
        refine trX_seq ?_
        refine tr_ret ?_
        exact ret_ground (b := (TInterval.mk from4 (IntKind.i64.wrap (to7 - from4)))) rfl (by first | (simp; done) | (simp; omega)) rfl rfl (by first | (simp; done) | (simp; omega)) rfl

end Go.Proofs.Ytlphpepmbcbmiaa
