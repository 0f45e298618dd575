/-
  Programs on typed data, and the proofs that the code does what they say; written by a program (dx.py).
-/
import Derived.Test.YtlphpepmbcbmiaaProg
import Derived.Test.YtlphpepmbcbmiaaDx6
import Derived.Test.YtlphpepmbcbmiaaDy1
import Derived.KernelRfl
import Derived.Test.YtlphpepmbcbmiaaDxP
import Derived.Test.YtlphpepmbcbmiaaDxF1
namespace Go.Proofs.Ytlphpepmbcbmiaa
open Go Go.Dw Go.Proofs
set_option maxRecDepth 100000
def dc62 : DCode := (.seq (.reg [⟨(some 5), (.box (.t 1) 3 27), none, []⟩, ⟨(some 8), (.asg (.c .nils) (some ⟨5, 52⟩)), none, []⟩] false) (.seq (.reg [⟨(some 16), (.mv (.t 0)), none, []⟩, ⟨(some 17), (.call (.c (.clo 39 [])) [(.t 16), (.c (.int .i64 4))]), none, []⟩, ⟨(some 9), (.asg (.t 17) none), none, []⟩] false) (.seq (.reg [⟨(some 18), (.fldA 1 (.t 5)), none, []⟩, ⟨(some 19), (.ld 1 false (.t 18)), none, []⟩, ⟨(some 20), (.len false (.t 19)), none, []⟩, ⟨(some 10), (.asg (.t 20) none), none, []⟩] false) (.seq (.reg [⟨(some 21), (.mv (.t 0)), none, []⟩, ⟨(some 22), (.call (.c (.clo 39 [])) [(.t 21), (.c (.int .i64 20))]), none, []⟩, ⟨(some 11), (.asg (.t 22) none), none, []⟩] false) (.seq (.block 0 (.seq (.reg [⟨(some 24), (.mv (.t 11)), none, []⟩, ⟨(some 25), (.bin .lss (.t 24) (.c (.int .i64 3))), none, []⟩, ⟨(some 26), (.mv (.t 25)), none, []⟩, ⟨(some 27), (.mv (.t 10)), (some ⟨26, true⟩), []⟩, ⟨(some 28), (.bin .gtr (.t 27) (.c (.int .i64 0))), (some ⟨26, true⟩), []⟩, ⟨(some 29), (.pick (.t 26) (.t 28) (.c (.bool false))), none, []⟩, ⟨(some 23), (.asg (.t 29) none), none, []⟩] false) (.cond (.t 23) (.seq (.reg [⟨(some 30), (.mv (.t 0)), none, []⟩, ⟨(some 31), (.mv (.t 10)), none, []⟩, ⟨(some 32), (.call (.c (.clo 39 [])) [(.t 30), (.t 31)]), none, []⟩, ⟨(some 33), (.mv (.t 9)), none, []⟩, ⟨(some 34), (.bld [(.int .i64 0), (.int .i64 0), (.int .i64 0), (.int .i64 0), (.int .u64 0)] [⟨0, ⟨1, (.c (.int .i64 16))⟩⟩, ⟨1, ⟨1, (.t 32)⟩⟩, ⟨2, ⟨1, (.t 33)⟩⟩]), none, []⟩, ⟨(some 35), (.bldS 5 52 (.agg [(.int .i64 0), (.int .i64 0), (.int .i64 0), (.int .i64 0), (.int .u64 0)]) 1 [⟨0, (.t 34)⟩]), none, []⟩, ⟨(some 8), (.asg (.t 35) (some ⟨5, 52⟩)), none, []⟩] false) .ret) (.seq (.reg [⟨(some 37), (.mv (.t 11)), none, []⟩, ⟨(some 38), (.bin .lss (.t 37) (.c (.int .i64 6))), none, []⟩, ⟨(some 39), (.mv (.t 38)), none, []⟩, ⟨(some 40), (.mv (.t 10)), (some ⟨39, true⟩), []⟩, ⟨(some 41), (.bin .gtr (.t 40) (.c (.int .i64 0))), (some ⟨39, true⟩), []⟩, ⟨(some 42), (.pick (.t 39) (.t 41) (.c (.bool false))), none, []⟩, ⟨(some 36), (.asg (.t 42) none), none, []⟩] false) (.cond (.t 36) (.seq (.reg [⟨(some 43), (.mv (.t 9)), none, []⟩, ⟨(some 44), (.mv (.t 0)), none, []⟩, ⟨(some 45), (.mv (.t 10)), none, []⟩, ⟨(some 46), (.call (.c (.clo 39 [])) [(.t 44), (.t 45)]), none, []⟩, ⟨(some 47), (.bld [(.int .i64 0), (.int .i64 0), (.int .i64 0), (.int .i64 0), (.int .u64 0)] [⟨0, ⟨1, (.c (.int .i64 15))⟩⟩, ⟨1, ⟨1, (.t 43)⟩⟩, ⟨2, ⟨1, (.t 46)⟩⟩]), none, []⟩, ⟨(some 48), (.bldS 5 52 (.agg [(.int .i64 0), (.int .i64 0), (.int .i64 0), (.int .i64 0), (.int .u64 0)]) 1 [⟨0, (.t 47)⟩]), none, []⟩, ⟨(some 8), (.asg (.t 48) (some ⟨5, 52⟩)), none, []⟩] false) .ret) (.seq (.reg [⟨(some 50), (.mv (.t 11)), none, []⟩, ⟨(some 51), (.bin .lss (.t 50) (.c (.int .i64 9))), none, []⟩, ⟨(some 52), (.mv (.t 51)), none, []⟩, ⟨(some 53), (.mv (.t 10)), (some ⟨52, true⟩), []⟩, ⟨(some 54), (.bin .gtr (.t 53) (.c (.int .i64 0))), (some ⟨52, true⟩), []⟩, ⟨(some 55), (.pick (.t 52) (.t 54) (.c (.bool false))), none, []⟩, ⟨(some 49), (.asg (.t 55) none), none, []⟩] false) (.cond (.t 49) (.seq (.reg [⟨(some 56), (.mv (.t 0)), none, []⟩, ⟨(some 57), (.mv (.t 10)), none, []⟩, ⟨(some 58), (.call (.c (.clo 39 [])) [(.t 56), (.t 57)]), none, []⟩, ⟨(some 12), (.asg (.t 58) none), none, []⟩] false) (.seq (.reg [⟨(some 59), (.mv (.t 0)), none, []⟩, ⟨(some 60), (.ld 3 true (.t 5)), none, []⟩, ⟨(some 61), (.mv (.t 12)), none, []⟩, ⟨(some 62), (.call (.c (.clo 78 [])) [(.t 59), (.t 60), (.t 61)]), none, []⟩, ⟨(some 63), (.mv (.t 12)), none, []⟩, ⟨(some 64), (.bld [(.int .i64 0), (.int .i64 0), (.int .i64 0), (.int .i64 0), (.int .u64 0)] [⟨0, ⟨1, (.c (.int .i64 17))⟩⟩, ⟨1, ⟨1, (.t 62)⟩⟩, ⟨2, ⟨1, (.t 63)⟩⟩]), none, []⟩, ⟨(some 65), (.bldS 5 52 (.agg [(.int .i64 0), (.int .i64 0), (.int .i64 0), (.int .i64 0), (.int .u64 0)]) 1 [⟨0, (.t 64)⟩]), none, []⟩, ⟨(some 8), (.asg (.t 65) (some ⟨5, 52⟩)), none, []⟩] false) .ret)) (.seq (.reg [⟨(some 67), (.mv (.t 11)), none, []⟩, ⟨(some 68), (.bin .lss (.t 67) (.c (.int .i64 11))), none, []⟩, ⟨(some 66), (.asg (.t 68) none), none, []⟩] false) (.cond (.t 66) (.seq (.reg [⟨(some 69), (.mv (.t 9)), none, []⟩, ⟨(some 70), (.mv (.t 0)), none, []⟩, ⟨(some 71), (.call (.c (.clo 63 [])) [(.t 70)]), none, []⟩, ⟨(some 72), (.bld [(.int .i64 0), (.int .i64 0), (.int .i64 0), (.int .i64 0), (.int .u64 0)] [⟨0, ⟨1, (.c (.int .i64 0))⟩⟩, ⟨1, ⟨1, (.t 69)⟩⟩, ⟨4, ⟨1, (.t 71)⟩⟩]), none, []⟩, ⟨(some 73), (.bldS 5 52 (.agg [(.int .i64 0), (.int .i64 0), (.int .i64 0), (.int .i64 0), (.int .u64 0)]) 1 [⟨0, (.t 72)⟩]), none, []⟩, ⟨(some 8), (.asg (.t 73) (some ⟨5, 52⟩)), none, []⟩] false) .ret) (.seq (.reg [⟨(some 75), (.mv (.t 11)), none, []⟩, ⟨(some 76), (.bin .lss (.t 75) (.c (.int .i64 13))), none, []⟩, ⟨(some 74), (.asg (.t 76) none), none, []⟩] false) (.cond (.t 74) (.seq (.reg [⟨(some 77), (.mv (.t 0)), none, []⟩, ⟨(some 78), (.call (.c (.clo 39 [])) [(.t 77), (.c (.int .i64 10))]), none, []⟩, ⟨(some 79), (.bin .add (.c (.int .i64 2)) (.t 78)), none, []⟩, ⟨(some 80), (.mv (.t 9)), none, []⟩, ⟨(some 81), (.mv (.t 0)), none, []⟩, ⟨(some 82), (.call (.c (.clo 39 [])) [(.t 81), (.c (.int .i64 4))]), none, []⟩, ⟨(some 83), (.mv (.t 0)), none, []⟩, ⟨(some 84), (.call (.c (.clo 39 [])) [(.t 83), (.c (.int .i64 8))]), none, []⟩, ⟨(some 85), (.bld [(.int .i64 0), (.int .i64 0), (.int .i64 0), (.int .i64 0), (.int .u64 0)] [⟨0, ⟨1, (.t 79)⟩⟩, ⟨1, ⟨1, (.t 80)⟩⟩, ⟨2, ⟨1, (.t 82)⟩⟩, ⟨3, ⟨1, (.t 84)⟩⟩]), none, []⟩, ⟨(some 86), (.bldS 5 52 (.agg [(.int .i64 0), (.int .i64 0), (.int .i64 0), (.int .i64 0), (.int .u64 0)]) 1 [⟨0, (.t 85)⟩]), none, []⟩, ⟨(some 8), (.asg (.t 86) (some ⟨5, 52⟩)), none, []⟩] false) .ret) (.seq (.reg [⟨(some 88), (.mv (.t 11)), none, []⟩, ⟨(some 89), (.bin .lss (.t 88) (.c (.int .i64 15))), none, []⟩, ⟨(some 87), (.asg (.t 89) none), none, []⟩] false) (.cond (.t 87) (.seq (.reg [⟨(some 90), (.mv (.t 9)), none, []⟩, ⟨(some 91), (.bld [(.int .i64 0), (.int .i64 0), (.int .i64 0), (.int .i64 0), (.int .u64 0)] [⟨0, ⟨1, (.c (.int .i64 14))⟩⟩, ⟨1, ⟨1, (.t 90)⟩⟩]), none, []⟩, ⟨(some 92), (.bldS 5 52 (.agg [(.int .i64 0), (.int .i64 0), (.int .i64 0), (.int .i64 0), (.int .u64 0)]) 1 [⟨0, (.t 91)⟩]), none, []⟩, ⟨(some 8), (.asg (.t 92) (some ⟨5, 52⟩)), none, []⟩] false) .ret) (.seq (.reg [⟨(some 94), (.mv (.t 11)), none, []⟩, ⟨(some 95), (.bin .eql (.t 94) (.c (.int .i64 15))), none, []⟩, ⟨(some 93), (.asg (.t 95) none), none, []⟩] false) (.cond (.t 93) (.seq (.reg [⟨(some 96), (.bldS 1 3 (.int .i64 0) 3 [⟨0, (.c (.int .i64 13))⟩, ⟨1, (.c (.int .i64 12))⟩, ⟨2, (.c (.int .i64 1))⟩]), none, []⟩, ⟨(some 97), (.mv (.t 0)), none, []⟩, ⟨(some 98), (.call (.c (.clo 39 [])) [(.t 97), (.c (.int .i64 3))]), none, []⟩, ⟨(some 99), (.ixA 1 (.t 96) (.t 98)), none, []⟩, ⟨(some 100), (.ld 1 false (.t 99)), none, []⟩, ⟨(some 101), (.mv (.t 9)), none, []⟩, ⟨(some 102), (.bld [(.int .i64 0), (.int .i64 0), (.int .i64 0), (.int .i64 0), (.int .u64 0)] [⟨0, ⟨1, (.t 100)⟩⟩, ⟨1, ⟨1, (.t 101)⟩⟩]), none, []⟩, ⟨(some 103), (.bldS 5 52 (.agg [(.int .i64 0), (.int .i64 0), (.int .i64 0), (.int .i64 0), (.int .u64 0)]) 1 [⟨0, (.t 102)⟩]), none, []⟩, ⟨(some 8), (.asg (.t 103) (some ⟨5, 52⟩)), none, []⟩] false) .ret) (.seq (.reg [⟨(some 105), (.mv (.t 11)), none, []⟩, ⟨(some 106), (.bin .eql (.t 105) (.c (.int .i64 16))), none, []⟩, ⟨(some 107), (.mv (.t 106)), none, []⟩, ⟨(some 108), (.fldA 0 (.t 5)), (some ⟨107, true⟩), []⟩, ⟨(some 109), (.ld 1 false (.t 108)), (some ⟨107, true⟩), []⟩, ⟨(some 110), (.bin .gtr (.t 109) (.c (.int .i64 0))), (some ⟨107, true⟩), []⟩, ⟨(some 111), (.pick (.t 107) (.t 110) (.c (.bool false))), none, []⟩, ⟨(some 104), (.asg (.t 111) none), none, []⟩] false) (.cond (.t 104) (.seq (.reg [⟨(some 112), (.mv (.t 9)), none, []⟩, ⟨(some 113), (.mv (.t 0)), none, []⟩, ⟨(some 114), (.fldA 0 (.t 5)), none, []⟩, ⟨(some 115), (.ld 1 false (.t 114)), none, []⟩, ⟨(some 116), (.call (.c (.clo 39 [])) [(.t 113), (.t 115)]), none, []⟩, ⟨(some 117), (.bld [(.int .i64 0), (.int .i64 0), (.int .i64 0), (.int .i64 0), (.int .u64 0)] [⟨0, ⟨1, (.c (.int .i64 19))⟩⟩, ⟨1, ⟨1, (.t 112)⟩⟩, ⟨2, ⟨1, (.t 116)⟩⟩]), none, []⟩, ⟨(some 118), (.bldS 5 52 (.agg [(.int .i64 0), (.int .i64 0), (.int .i64 0), (.int .i64 0), (.int .u64 0)]) 1 [⟨0, (.t 117)⟩]), none, []⟩, ⟨(some 8), (.asg (.t 118) (some ⟨5, 52⟩)), none, []⟩] false) .ret) (.seq (.reg [⟨(some 120), (.mv (.t 11)), none, []⟩, ⟨(some 121), (.bin .geq (.t 120) (.c (.int .i64 17))), none, []⟩, ⟨(some 122), (.mv (.t 121)), none, []⟩, ⟨(some 123), (.mv (.t 2)), (some ⟨122, true⟩), []⟩, ⟨(some 124), (.bin .add (.t 123) (.c (.int .i64 1))), (some ⟨122, true⟩), []⟩, ⟨(some 125), (.mv (.t 3)), (some ⟨122, true⟩), []⟩, ⟨(some 126), (.len false (.t 125)), (some ⟨122, true⟩), []⟩, ⟨(some 127), (.bin .lss (.t 124) (.t 126)), (some ⟨122, true⟩), []⟩, ⟨(some 128), (.pick (.t 122) (.t 127) (.c (.bool false))), none, []⟩, ⟨(some 119), (.asg (.t 128) none), none, []⟩] false) (.cond (.t 119) (.seq (.reg [⟨(some 129), (.mv (.t 2)), none, []⟩, ⟨(some 130), (.bin .add (.t 129) (.c (.int .i64 1))), none, []⟩, ⟨(some 131), (.mv (.t 0)), none, []⟩, ⟨(some 132), (.mv (.t 3)), none, []⟩, ⟨(some 133), (.len false (.t 132)), none, []⟩, ⟨(some 134), (.mv (.t 2)), none, []⟩, ⟨(some 135), (.bin .sub (.t 133) (.t 134)), none, []⟩, ⟨(some 136), (.bin .sub (.t 135) (.c (.int .i64 1))), none, []⟩, ⟨(some 137), (.call (.c (.clo 39 [])) [(.t 131), (.t 136)]), none, []⟩, ⟨(some 138), (.bin .add (.t 130) (.t 137)), none, []⟩, ⟨(some 13), (.asg (.t 138) none), none, []⟩] false) (.seq (.reg [⟨(some 14), (.asg (.c .nils) (some ⟨5, 52⟩)), none, []⟩] false) (.seq (.seq (.reg [⟨(some 15), (.asg (.c (.int .i64 0)) none), none, []⟩] false) (.block 1 (.loop (.seq (.seq (.reg [⟨(some 139), (.mv (.t 15)), none, []⟩, ⟨(some 140), (.mv (.t 3)), none, []⟩, ⟨(some 141), (.mv (.t 13)), none, []⟩, ⟨(some 142), (.ixA 1 (.t 140) (.t 141)), none, []⟩, ⟨(some 143), (.ld 1 false (.t 142)), none, []⟩, ⟨(some 144), (.bin .lss (.t 139) (.t 143)), none, []⟩] false) (.cond (.t 144) .skip (.exit 1))) (.seq (.block 2 (.seq (.reg [⟨(some 147), (.mv (.t 0)), none, []⟩, ⟨(some 148), (.call (.c (.clo 39 [])) [(.t 147), (.c (.int .i64 8))]), none, []⟩, ⟨(some 149), (.bin .lss (.t 148) (.c (.int .i64 7))), none, []⟩] false) (.cond (.t 149) (.reg [⟨(some 150), (.mv (.t 14)), none, []⟩, ⟨(some 151), (.mv (.t 15)), none, []⟩, ⟨(some 152), (.mv (.t 0)), none, []⟩, ⟨(some 153), (.call (.c (.clo 39 [])) [(.t 152), (.c (.int .i64 4))]), none, []⟩, ⟨(some 154), (.bld [(.int .i64 0), (.int .i64 0), (.int .i64 0), (.int .i64 0), (.int .u64 0)] [⟨0, ⟨1, (.c (.int .i64 18))⟩⟩, ⟨1, ⟨1, (.t 151)⟩⟩, ⟨2, ⟨1, (.t 153)⟩⟩]), none, []⟩, ⟨(some 155), (.bldS 5 52 (.agg [(.int .i64 0), (.int .i64 0), (.int .i64 0), (.int .i64 0), (.int .u64 0)]) 1 [⟨0, (.t 154)⟩]), none, []⟩, ⟨(some 156), (.app 5 52 40 (.t 150) (.t 155)), none, []⟩, ⟨(some 14), (.asg (.t 156) (some ⟨5, 52⟩)), none, []⟩] false) .skip))) (.reg [⟨(some 145), (.mv (.t 15)), none, []⟩, ⟨(some 146), (.bin .add (.t 145) (.c (.int .i64 1))), none, []⟩, ⟨(some 15), (.asg (.t 146) none), none, []⟩] false)))))) (.seq (.reg [⟨(some 157), (.mv (.t 14)), none, []⟩, ⟨(some 158), (.mv (.t 13)), none, []⟩, ⟨(some 159), (.bld [(.int .i64 0), (.int .i64 0), (.int .i64 0), (.int .i64 0), (.int .u64 0)] [⟨0, ⟨1, (.c (.int .i64 22))⟩⟩, ⟨1, ⟨1, (.t 158)⟩⟩]), none, []⟩, ⟨(some 160), (.bldS 5 52 (.agg [(.int .i64 0), (.int .i64 0), (.int .i64 0), (.int .i64 0), (.int .u64 0)]) 1 [⟨0, (.t 159)⟩]), none, []⟩, ⟨(some 161), (.app 5 52 40 (.t 157) (.t 160)), none, []⟩, ⟨(some 8), (.asg (.t 161) (some ⟨5, 52⟩)), none, []⟩] false) .ret)))) .skip))))))))))))))))))) (.seq (.reg [⟨(some 162), (.mv (.t 9)), none, []⟩, ⟨(some 163), (.bld [(.int .i64 0), (.int .i64 0), (.int .i64 0), (.int .i64 0), (.int .u64 0)] [⟨0, ⟨1, (.c (.int .i64 14))⟩⟩, ⟨1, ⟨1, (.t 162)⟩⟩]), none, []⟩, ⟨(some 164), (.bldS 5 52 (.agg [(.int .i64 0), (.int .i64 0), (.int .i64 0), (.int .i64 0), (.int .u64 0)]) 1 [⟨0, (.t 163)⟩]), none, []⟩, ⟨(some 8), (.asg (.t 164) (some ⟨5, 52⟩)), none, []⟩] false) .ret))))))
theorem dc62_c : (Try.f62.body.bind (cCode Try.prog Try.f62.ntmps)) = some dc62 := by kernel_rfl
theorem dc62_r : Try.f62.results.toList.mapM (cRes Try.prog) = some [(.t 8)] := by kernel_rfl
def draw_Codes_body_enc (a : Tdraw_Codes × TFunc × Int × (List Int)) : List D := [edraw_Codes a.1, eFunc a.2.1, .int .i64 a.2.2.1, .sl (a.2.2.2.map eI64)]
def draw_Codes_body_dec (ds : List D) : Tdraw_Codes × TFunc × Int × (List Int) := (udraw_Codes (ds.getD 0 .top), uFunc (ds.getD 1 .top), uI (ds.getD 2 .top), (uL uI) (ds.getD 3 .top))
theorem draw_Codes_body_de (a : Tdraw_Codes × TFunc × Int × (List Int)) : draw_Codes_body_dec (draw_Codes_body_enc a) = a := by simp [draw_Codes_body_dec, draw_Codes_body_enc, uI, uBo, uS, uL_e (u := uI) (en := eI64) (fun _ => rfl)]
def draw_Codes_body_R (b : (List TInstr) × Tdraw_Codes) : D := .sl (b.1.map eInstr)
def draw_Codes_body_E (b : (List TInstr) × Tdraw_Codes) : List D := [edraw_Codes b.2]
noncomputable def draw_Codes_body_S : Dw.Spec := fSpec [(0, (2, 80))] (.row 5 52) draw_Codes_body_enc draw_Codes_body_dec (fun a => draw_Codes_body a.1 a.2.1 a.2.2.1 a.2.2.2) draw_Codes_body_R draw_Codes_body_E
set_option maxHeartbeats 4000000 in
theorem draw_Codes_body_ok : SpecOk Try.prog 62 draw_Codes_body_S := by
  refine fn_ok (specs_ok (l := [(39, draw_Codes_Next_S), (78, draw_Codes_like_S), (63, draw_Codes_Word_S)]) (by simp [draw_Codes_Next_ok, draw_Codes_like_ok, draw_Codes_Word_ok])) Try.func62 (by decide) dc62_c dc62_r (np := 4) (by decide) draw_Codes_body_de (fun _ => rfl) (fun _ => rfl) (by decide) ?_
  rintro ⟨c1, f2, i3, params4⟩
  show TrE (specs [(39, draw_Codes_Next_S), (78, draw_Codes_like_S), (63, draw_Codes_Word_S)]) dc62 (kRet [(0, (2, 80))] (.row 5 52) [(.t 8)] draw_Codes_body_R draw_Codes_body_E) ⟨[(0, .optr 8192 0 0 0), (1, .agg [.int .i64 f2.Params, .sl (f2.Slots.map eSlot), .sl (f2.Code.map eInstr)]), (2, .int .i64 i3), (3, .sl (params4.map eI64))], [(8192, some (0, ⟨false, true, 2, 80, [.agg [.sl (c1.list.map eU8), .int .i64 c1.at_]]⟩))], 262144⟩ (draw_Codes_body c1 f2 i3 params4)
  refine tr_ent ?_
  unfold dc62 draw_Codes_body
  refine tr_seq ?_
  refine tr_reg ?_
  refine trO_box rfl rfl rfl rfl rfl ?_
  refine trO_asg_nil (α := TInstr) rfl eInstr rfl ?_
  refine trO_nil ?_
  refine trX_seq ?_
  refine tr_seq ?_
  refine tr_reg ?_
  refine trO_mv rfl rfl ?_
  refine trO_bind fun r5 hr5 => ?_
  refine trO_call_val (c1, 4) rfl rfl rfl draw_Codes_Next_de rfl rfl (by simp) rfl hr5 ?_
  refine trO_asg rfl rfl ?_
  refine trO_nil ?_
  refine trX_seq ?_
  refine tr_seq ?_
  refine tr_reg ?_
  refine trO_fldA rfl rfl ?_
  refine trO_ld_obj (v := .sl (f2.Slots.map eSlot)) (z := .agg [.int .i64 f2.Params, .sl (f2.Slots.map eSlot), .sl (f2.Code.map eInstr)]) rfl rfl rfl rfl rfl rfl ?_
  refine trO_len_sl rfl rfl ?_
  refine trO_asg rfl rfl ?_
  refine trO_nil ?_
  refine trX_seq ?_
  refine tr_seq ?_
  refine tr_reg ?_
  refine trO_mv rfl rfl ?_
  refine trO_bind fun r6 hr6 => ?_
  refine trO_call_val (r5.2, 20) rfl rfl rfl draw_Codes_Next_de rfl rfl (by simp) rfl hr6 ?_
  refine trO_asg rfl rfl ?_
  refine trO_nil ?_
  refine trX_seq ?_
  refine tr_seq_blk_cut (E := fun (s : Unit) (g : Unit) => [(9, .int .i64 r5.1)]) (O := fun s g => [(8192, some (0, ⟨false, true, 2, 80, [.agg [.sl (r6.2.list.map eU8), .int .i64 r6.2.at_]]⟩))]) (j := fun s => draw_Codes_body_j1 r5 r6) ?_ ?_
  ·
    refine tr_seq_cut (E := fun (s : Bool) (g : Nat) => [(0, .optr 8192 0 0 0), (2, .int .i64 i3), (3, .sl (params4.map eI64)), (5, .optr 5 g 0 0), (9, .int .i64 r5.1), (10, .int .i64 (f2.Slots.length : Int)), (11, .int .i64 r6.1), (23, .bool s)]) (O := fun s g => [(5, some (g, ⟨false, true, 3, 27, [.agg [.int .i64 f2.Params, .sl (f2.Slots.map eSlot), .sl (f2.Code.map eInstr)]]⟩)), (8192, some (0, ⟨false, true, 2, 80, [.agg [.sl (r6.2.list.map eU8), .int .i64 r6.2.at_]]⟩))]) (j := fun s => draw_Codes_body_j2 r6 f2 r5 params4 i3 s) ?_ ?_
    ·
      refine tr_reg ?_
      refine trO_mv rfl rfl ?_
      refine trO_bin (v := .bool (decide (r6.1 < 3))) rfl rfl rfl rfl rfl ?_
      refine trO_mv rfl rfl ?_
      refine trO_split 26 (b := (decide (r6.1 < 3))) rfl ?_ ?_
      ·
        refine trO_mv rfl rfl ?_
        refine trO_bin (v := .bool (decide ((f2.Slots.length : Int) > 0))) rfl rfl rfl rfl rfl ?_
        refine trO_pick_true rfl rfl rfl rfl ?_
        refine trO_asg rfl rfl ?_
        refine trO_nil ?_
        exact trX_cut (s := (decide ((f2.Slots.length : Int) > 0))) _ ((has_exact ⟨rfl, rfl, rfl, rfl, rfl, rfl, rfl, rfl, trivial⟩ ⟨rfl, rfl, trivial⟩))
      ·
        refine trO_off rfl ?_
        refine trO_off rfl ?_
        refine trO_pick_false rfl rfl rfl rfl ?_
        refine trO_asg rfl rfl ?_
        refine trO_nil ?_
        exact trX_cut (s := false) _ ((has_exact ⟨rfl, rfl, rfl, rfl, rfl, rfl, rfl, rfl, trivial⟩ ⟨rfl, rfl, trivial⟩))
    ·
      rintro x7 v5 nn
      show Tr _ _ _ ⟨[(0, .optr 8192 0 0 0), (2, .int .i64 i3), (3, .sl (params4.map eI64)), (5, .optr 5 v5 0 0), (9, .int .i64 r5.1), (10, .int .i64 (f2.Slots.length : Int)), (11, .int .i64 r6.1), (23, .bool x7)], [(5, some (v5, ⟨false, true, 3, 27, [.agg [.int .i64 f2.Params, .sl (f2.Slots.map eSlot), .sl (f2.Code.map eInstr)]]⟩)), (8192, some (0, ⟨false, true, 2, 80, [.agg [.sl (r6.2.list.map eU8), .int .i64 r6.2.at_]]⟩))], _⟩ (draw_Codes_body_j2 r6 f2 r5 params4 i3 x7)
      unfold draw_Codes_body_j2
      refine tr_cond (c := x7) rfl ?_ ?_
      ·
        refine tr_seq ?_
        refine tr_reg ?_
        refine trO_mv rfl rfl ?_
        refine trO_mv rfl rfl ?_
        refine trO_bind fun r8 hr8 => ?_
        refine trO_call_val (r6.2, (f2.Slots.length : Int)) rfl rfl rfl draw_Codes_Next_de rfl rfl (by simp) rfl hr8 ?_
        refine trO_mv rfl rfl ?_
        refine trO_bld (cs := [.int .i64 16, .int .i64 r8.1, .int .i64 r5.1, .int .i64 0, .int .u64 0]) (ps := [(0, 1, .int .i64 16), (1, 1, .int .i64 r8.1), (2, 1, .int .i64 r5.1)]) rfl rfl rfl rfl ?_
        refine trO_bldS ([(TInstr.mk 16 r8.1 r5.1 0 0)] : List TInstr) eInstr rfl rfl rfl (by simp) rfl rfl rfl ?_
        refine trO_asg_own (l := ([(TInstr.mk 16 r8.1 r5.1 0 0)] : List TInstr)) (en := eInstr) rfl rfl rfl rfl ?_
        refine trO_nil ?_
        refine trX_seq ?_
        refine tr_ret ?_
        refine trX_bcut_ret ?_
        exact ret_row (b := (([(TInstr.mk 16 r8.1 r5.1 0 0)] : List TInstr), r8.2)) rfl (by first | (simp; done) | (simp; omega)) rfl rfl (by first | (simp; done) | (simp; omega)) rfl (by first | (simp; done) | (simp; omega)) (congrArg D.sl (take_len_map' _ _ rfl)) rfl
      ·
        refine tr_seq_cut (E := fun (s : Bool) (g : Nat) => [(0, .optr 8192 0 0 0), (2, .int .i64 i3), (3, .sl (params4.map eI64)), (5, .optr 5 g 0 0), (9, .int .i64 r5.1), (10, .int .i64 (f2.Slots.length : Int)), (11, .int .i64 r6.1), (36, .bool s)]) (O := fun s g => [(5, some (g, ⟨false, true, 3, 27, [.agg [.int .i64 f2.Params, .sl (f2.Slots.map eSlot), .sl (f2.Code.map eInstr)]]⟩)), (8192, some (0, ⟨false, true, 2, 80, [.agg [.sl (r6.2.list.map eU8), .int .i64 r6.2.at_]]⟩))]) (j := fun s => draw_Codes_body_j3 r6 f2 r5 params4 i3 s) ?_ ?_
        ·
          refine tr_reg ?_
          refine trO_mv rfl rfl ?_
          refine trO_bin (v := .bool (decide (r6.1 < 6))) rfl rfl rfl rfl rfl ?_
          refine trO_mv rfl rfl ?_
          refine trO_split 39 (b := (decide (r6.1 < 6))) rfl ?_ ?_
          ·
            refine trO_mv rfl rfl ?_
            refine trO_bin (v := .bool (decide ((f2.Slots.length : Int) > 0))) rfl rfl rfl rfl rfl ?_
            refine trO_pick_true rfl rfl rfl rfl ?_
            refine trO_asg rfl rfl ?_
            refine trO_nil ?_
            exact trX_cut (s := (decide ((f2.Slots.length : Int) > 0))) _ ((has_exact ⟨rfl, rfl, rfl, rfl, rfl, rfl, rfl, rfl, trivial⟩ ⟨rfl, rfl, trivial⟩))
          ·
            refine trO_off rfl ?_
            refine trO_off rfl ?_
            refine trO_pick_false rfl rfl rfl rfl ?_
            refine trO_asg rfl rfl ?_
            refine trO_nil ?_
            exact trX_cut (s := false) _ ((has_exact ⟨rfl, rfl, rfl, rfl, rfl, rfl, rfl, rfl, trivial⟩ ⟨rfl, rfl, trivial⟩))
        ·
          rintro x9 v5 nn
          show Tr _ _ _ ⟨[(0, .optr 8192 0 0 0), (2, .int .i64 i3), (3, .sl (params4.map eI64)), (5, .optr 5 v5 0 0), (9, .int .i64 r5.1), (10, .int .i64 (f2.Slots.length : Int)), (11, .int .i64 r6.1), (36, .bool x9)], [(5, some (v5, ⟨false, true, 3, 27, [.agg [.int .i64 f2.Params, .sl (f2.Slots.map eSlot), .sl (f2.Code.map eInstr)]]⟩)), (8192, some (0, ⟨false, true, 2, 80, [.agg [.sl (r6.2.list.map eU8), .int .i64 r6.2.at_]]⟩))], _⟩ (draw_Codes_body_j3 r6 f2 r5 params4 i3 x9)
          unfold draw_Codes_body_j3
          refine tr_cond (c := x9) rfl ?_ ?_
          ·
            refine tr_seq ?_
            refine tr_reg ?_
            refine trO_mv rfl rfl ?_
            refine trO_mv rfl rfl ?_
            refine trO_mv rfl rfl ?_
            refine trO_bind fun r10 hr10 => ?_
            refine trO_call_val (r6.2, (f2.Slots.length : Int)) rfl rfl rfl draw_Codes_Next_de rfl rfl (by simp) rfl hr10 ?_
            refine trO_bld (cs := [.int .i64 15, .int .i64 r5.1, .int .i64 r10.1, .int .i64 0, .int .u64 0]) (ps := [(0, 1, .int .i64 15), (1, 1, .int .i64 r5.1), (2, 1, .int .i64 r10.1)]) rfl rfl rfl rfl ?_
            refine trO_bldS ([(TInstr.mk 15 r5.1 r10.1 0 0)] : List TInstr) eInstr rfl rfl rfl (by simp) rfl rfl rfl ?_
            refine trO_asg_own (l := ([(TInstr.mk 15 r5.1 r10.1 0 0)] : List TInstr)) (en := eInstr) rfl rfl rfl rfl ?_
            refine trO_nil ?_
            refine trX_seq ?_
            refine tr_ret ?_
            refine trX_bcut_ret ?_
            exact ret_row (b := (([(TInstr.mk 15 r5.1 r10.1 0 0)] : List TInstr), r10.2)) rfl (by first | (simp; done) | (simp; omega)) rfl rfl (by first | (simp; done) | (simp; omega)) rfl (by first | (simp; done) | (simp; omega)) (congrArg D.sl (take_len_map' _ _ rfl)) rfl
          ·
            refine tr_seq_cut (E := fun (s : Bool) (g : Nat) => [(0, .optr 8192 0 0 0), (2, .int .i64 i3), (3, .sl (params4.map eI64)), (5, .optr 5 g 0 0), (9, .int .i64 r5.1), (10, .int .i64 (f2.Slots.length : Int)), (11, .int .i64 r6.1), (49, .bool s)]) (O := fun s g => [(5, some (g, ⟨false, true, 3, 27, [.agg [.int .i64 f2.Params, .sl (f2.Slots.map eSlot), .sl (f2.Code.map eInstr)]]⟩)), (8192, some (0, ⟨false, true, 2, 80, [.agg [.sl (r6.2.list.map eU8), .int .i64 r6.2.at_]]⟩))]) (j := fun s => draw_Codes_body_j4 r6 f2 r5 params4 i3 s) ?_ ?_
            ·
              refine tr_reg ?_
              refine trO_mv rfl rfl ?_
              refine trO_bin (v := .bool (decide (r6.1 < 9))) rfl rfl rfl rfl rfl ?_
              refine trO_mv rfl rfl ?_
              refine trO_split 52 (b := (decide (r6.1 < 9))) rfl ?_ ?_
              ·
                refine trO_mv rfl rfl ?_
                refine trO_bin (v := .bool (decide ((f2.Slots.length : Int) > 0))) rfl rfl rfl rfl rfl ?_
                refine trO_pick_true rfl rfl rfl rfl ?_
                refine trO_asg rfl rfl ?_
                refine trO_nil ?_
                exact trX_cut (s := (decide ((f2.Slots.length : Int) > 0))) _ ((has_exact ⟨rfl, rfl, rfl, rfl, rfl, rfl, rfl, rfl, trivial⟩ ⟨rfl, rfl, trivial⟩))
              ·
                refine trO_off rfl ?_
                refine trO_off rfl ?_
                refine trO_pick_false rfl rfl rfl rfl ?_
                refine trO_asg rfl rfl ?_
                refine trO_nil ?_
                exact trX_cut (s := false) _ ((has_exact ⟨rfl, rfl, rfl, rfl, rfl, rfl, rfl, rfl, trivial⟩ ⟨rfl, rfl, trivial⟩))
            ·
              rintro x11 v5 nn
              show Tr _ _ _ ⟨[(0, .optr 8192 0 0 0), (2, .int .i64 i3), (3, .sl (params4.map eI64)), (5, .optr 5 v5 0 0), (9, .int .i64 r5.1), (10, .int .i64 (f2.Slots.length : Int)), (11, .int .i64 r6.1), (49, .bool x11)], [(5, some (v5, ⟨false, true, 3, 27, [.agg [.int .i64 f2.Params, .sl (f2.Slots.map eSlot), .sl (f2.Code.map eInstr)]]⟩)), (8192, some (0, ⟨false, true, 2, 80, [.agg [.sl (r6.2.list.map eU8), .int .i64 r6.2.at_]]⟩))], _⟩ (draw_Codes_body_j4 r6 f2 r5 params4 i3 x11)
              unfold draw_Codes_body_j4
              refine tr_cond (c := x11) rfl ?_ ?_
              ·
                refine tr_seq ?_
                refine tr_reg ?_
                refine trO_mv rfl rfl ?_
                refine trO_mv rfl rfl ?_
                refine trO_bind fun r12 hr12 => ?_
                refine trO_call_val (r6.2, (f2.Slots.length : Int)) rfl rfl rfl draw_Codes_Next_de rfl rfl (by simp) rfl hr12 ?_
                refine trO_asg rfl rfl ?_
                refine trO_nil ?_
                refine trX_seq ?_
                refine tr_seq ?_
                refine tr_reg ?_
                refine trO_mv rfl rfl ?_
                refine trO_ld_obj (v := .agg [.int .i64 f2.Params, .sl (f2.Slots.map eSlot), .sl (f2.Code.map eInstr)]) (z := .agg [.int .i64 f2.Params, .sl (f2.Slots.map eSlot), .sl (f2.Code.map eInstr)]) rfl rfl rfl rfl rfl rfl ?_
                refine trO_mv rfl rfl ?_
                refine trO_bind fun r13 hr13 => ?_
                refine trO_call_val (r12.2, f2, r12.1) rfl rfl rfl draw_Codes_like_de rfl rfl (by simp) rfl hr13 ?_
                refine trO_mv rfl rfl ?_
                refine trO_bld (cs := [.int .i64 17, .int .i64 r13.1, .int .i64 r12.1, .int .i64 0, .int .u64 0]) (ps := [(0, 1, .int .i64 17), (1, 1, .int .i64 r13.1), (2, 1, .int .i64 r12.1)]) rfl rfl rfl rfl ?_
                refine trO_bldS ([(TInstr.mk 17 r13.1 r12.1 0 0)] : List TInstr) eInstr rfl rfl rfl (by simp) rfl rfl rfl ?_
                refine trO_asg_own (l := ([(TInstr.mk 17 r13.1 r12.1 0 0)] : List TInstr)) (en := eInstr) rfl rfl rfl rfl ?_
                refine trO_nil ?_
                refine trX_seq ?_
                refine tr_ret ?_
                refine trX_bcut_ret ?_
                exact ret_row (b := (([(TInstr.mk 17 r13.1 r12.1 0 0)] : List TInstr), r13.2)) rfl (by first | (simp; done) | (simp; omega)) rfl rfl (by first | (simp; done) | (simp; omega)) rfl (by first | (simp; done) | (simp; omega)) (congrArg D.sl (take_len_map' _ _ rfl)) rfl
              ·
                refine tr_seq ?_
                refine tr_reg ?_
                refine trO_mv rfl rfl ?_
                refine trO_bin (v := .bool (decide (r6.1 < 11))) rfl rfl rfl rfl rfl ?_
                refine trO_asg rfl rfl ?_
                refine trO_nil ?_
                refine trX_seq ?_
                refine tr_cond (c := (decide (r6.1 < 11))) rfl ?_ ?_
                ·
                  refine tr_seq ?_
                  refine tr_reg ?_
                  refine trO_mv rfl rfl ?_
                  refine trO_mv rfl rfl ?_
                  refine trO_bind fun r14 hr14 => ?_
                  refine trO_call_val r6.2 rfl rfl rfl draw_Codes_Word_de rfl rfl (by simp) rfl hr14 ?_
                  refine trO_bld (cs := [.int .i64 0, .int .i64 r5.1, .int .i64 0, .int .i64 0, .int .u64 r14.1]) (ps := [(0, 1, .int .i64 0), (1, 1, .int .i64 r5.1), (4, 1, .int .u64 r14.1)]) rfl rfl rfl rfl ?_
                  refine trO_bldS ([(TInstr.mk 0 r5.1 0 0 r14.1)] : List TInstr) eInstr rfl rfl rfl (by simp) rfl rfl rfl ?_
                  refine trO_asg_own (l := ([(TInstr.mk 0 r5.1 0 0 r14.1)] : List TInstr)) (en := eInstr) rfl rfl rfl rfl ?_
                  refine trO_nil ?_
                  refine trX_seq ?_
                  refine tr_ret ?_
                  refine trX_bcut_ret ?_
                  exact ret_row (b := (([(TInstr.mk 0 r5.1 0 0 r14.1)] : List TInstr), r14.2)) rfl (by first | (simp; done) | (simp; omega)) rfl rfl (by first | (simp; done) | (simp; omega)) rfl (by first | (simp; done) | (simp; omega)) (congrArg D.sl (take_len_map' _ _ rfl)) rfl
                ·
                  refine tr_seq ?_
                  refine tr_reg ?_
                  refine trO_mv rfl rfl ?_
                  refine trO_bin (v := .bool (decide (r6.1 < 13))) rfl rfl rfl rfl rfl ?_
                  refine trO_asg rfl rfl ?_
                  refine trO_nil ?_
                  refine trX_seq ?_
                  refine tr_cond (c := (decide (r6.1 < 13))) rfl ?_ ?_
                  ·
                    refine tr_seq ?_
                    refine tr_reg ?_
                    refine trO_mv rfl rfl ?_
                    refine trO_bind fun r15 hr15 => ?_
                    refine trO_call_val (r6.2, 10) rfl rfl rfl draw_Codes_Next_de rfl rfl (by simp) rfl hr15 ?_
                    refine trO_bin (v := .int .i64 (IntKind.i64.wrap (2 + r15.1))) rfl rfl rfl rfl rfl ?_
                    refine trO_mv rfl rfl ?_
                    refine trO_mv rfl rfl ?_
                    refine trO_bind fun r16 hr16 => ?_
                    refine trO_call_val (r15.2, 4) rfl rfl rfl draw_Codes_Next_de rfl rfl (by simp) rfl hr16 ?_
                    refine trO_mv rfl rfl ?_
                    refine trO_bind fun r17 hr17 => ?_
                    refine trO_call_val (r16.2, 8) rfl rfl rfl draw_Codes_Next_de rfl rfl (by simp) rfl hr17 ?_
                    refine trO_bld (cs := [.int .i64 (IntKind.i64.wrap (2 + r15.1)), .int .i64 r5.1, .int .i64 r16.1, .int .i64 r17.1, .int .u64 0]) (ps := [(0, 1, .int .i64 (IntKind.i64.wrap (2 + r15.1))), (1, 1, .int .i64 r5.1), (2, 1, .int .i64 r16.1), (3, 1, .int .i64 r17.1)]) rfl rfl rfl rfl ?_
                    refine trO_bldS ([(TInstr.mk (IntKind.i64.wrap (2 + r15.1)) r5.1 r16.1 r17.1 0)] : List TInstr) eInstr rfl rfl rfl (by simp) rfl rfl rfl ?_
                    refine trO_asg_own (l := ([(TInstr.mk (IntKind.i64.wrap (2 + r15.1)) r5.1 r16.1 r17.1 0)] : List TInstr)) (en := eInstr) rfl rfl rfl rfl ?_
                    refine trO_nil ?_
                    refine trX_seq ?_
                    refine tr_ret ?_
                    refine trX_bcut_ret ?_
                    exact ret_row (b := (([(TInstr.mk (IntKind.i64.wrap (2 + r15.1)) r5.1 r16.1 r17.1 0)] : List TInstr), r17.2)) rfl (by first | (simp; done) | (simp; omega)) rfl rfl (by first | (simp; done) | (simp; omega)) rfl (by first | (simp; done) | (simp; omega)) (congrArg D.sl (take_len_map' _ _ rfl)) rfl
                  ·
                    refine tr_seq ?_
                    refine tr_reg ?_
                    refine trO_mv rfl rfl ?_
                    refine trO_bin (v := .bool (decide (r6.1 < 15))) rfl rfl rfl rfl rfl ?_
                    refine trO_asg rfl rfl ?_
                    refine trO_nil ?_
                    refine trX_seq ?_
                    refine tr_cond (c := (decide (r6.1 < 15))) rfl ?_ ?_
                    ·
                      refine tr_seq ?_
                      refine tr_reg ?_
                      refine trO_mv rfl rfl ?_
                      refine trO_bld (cs := [.int .i64 14, .int .i64 r5.1, .int .i64 0, .int .i64 0, .int .u64 0]) (ps := [(0, 1, .int .i64 14), (1, 1, .int .i64 r5.1)]) rfl rfl rfl rfl ?_
                      refine trO_bldS ([(TInstr.mk 14 r5.1 0 0 0)] : List TInstr) eInstr rfl rfl rfl (by simp) rfl rfl rfl ?_
                      refine trO_asg_own (l := ([(TInstr.mk 14 r5.1 0 0 0)] : List TInstr)) (en := eInstr) rfl rfl rfl rfl ?_
                      refine trO_nil ?_
                      refine trX_seq ?_
                      refine tr_ret ?_
                      refine trX_bcut_ret ?_
                      exact ret_row (b := (([(TInstr.mk 14 r5.1 0 0 0)] : List TInstr), r6.2)) rfl (by first | (simp; done) | (simp; omega)) rfl rfl (by first | (simp; done) | (simp; omega)) rfl (by first | (simp; done) | (simp; omega)) (congrArg D.sl (take_len_map' _ _ rfl)) rfl
                    ·
                      refine tr_seq ?_
                      refine tr_reg ?_
                      refine trO_mv rfl rfl ?_
                      refine trO_bin (v := .bool (r6.1 == 15)) rfl rfl rfl rfl rfl ?_
                      refine trO_asg rfl rfl ?_
                      refine trO_nil ?_
                      refine trX_seq ?_
                      refine tr_cond (c := (r6.1 == 15)) rfl ?_ ?_
                      ·
                        refine tr_seq ?_
                        refine tr_reg ?_
                        refine trO_bldS ([13, 12, 1] : List Int) eI64 rfl rfl rfl (by simp) rfl rfl rfl ?_
                        refine trO_mv rfl rfl ?_
                        refine trO_bind fun r18 hr18 => ?_
                        refine trO_call_val (r6.2, 3) rfl rfl rfl draw_Codes_Next_de rfl rfl (by simp) rfl hr18 ?_
                        refine trO_chk fun hq => ?_
                        refine trO_ixA_own (l := ([13, 12, 1] : List Int)) (en := eI64) rfl rfl rfl rfl rfl hq ?_
                        refine trO_bind fun x_e19 hx_e19 => ?_
                        refine trO_ld_obj (v := .int .i64 x_e19) (z := eI64 x_e19) rfl rfl rfl (map_get hx_e19) rfl rfl ?_
                        refine trO_mv rfl rfl ?_
                        refine trO_bld (cs := [.int .i64 x_e19, .int .i64 r5.1, .int .i64 0, .int .i64 0, .int .u64 0]) (ps := [(0, 1, .int .i64 x_e19), (1, 1, .int .i64 r5.1)]) rfl rfl rfl rfl ?_
                        refine trO_bldS ([(TInstr.mk x_e19 r5.1 0 0 0)] : List TInstr) eInstr rfl rfl rfl (by simp) rfl rfl rfl ?_
                        refine trO_asg_own (l := ([(TInstr.mk x_e19 r5.1 0 0 0)] : List TInstr)) (en := eInstr) rfl rfl rfl rfl ?_
                        refine trO_nil ?_
                        refine trX_seq ?_
                        refine tr_ret ?_
                        refine trX_bcut_ret ?_
                        exact ret_row (b := (([(TInstr.mk x_e19 r5.1 0 0 0)] : List TInstr), r18.2)) rfl (by first | (simp; done) | (simp; omega)) rfl rfl (by first | (simp; done) | (simp; omega)) rfl (by first | (simp; done) | (simp; omega)) (congrArg D.sl (take_len_map' _ _ rfl)) rfl
                      ·
                        refine tr_seq_cut (E := fun (s : Bool) (g : Nat) => [(0, .optr 8192 0 0 0), (2, .int .i64 i3), (3, .sl (params4.map eI64)), (5, .optr 5 g 0 0), (9, .int .i64 r5.1), (11, .int .i64 r6.1), (104, .bool s)]) (O := fun s g => [(5, some (g, ⟨false, true, 3, 27, [.agg [.int .i64 f2.Params, .sl (f2.Slots.map eSlot), .sl (f2.Code.map eInstr)]]⟩)), (8192, some (0, ⟨false, true, 2, 80, [.agg [.sl (r6.2.list.map eU8), .int .i64 r6.2.at_]]⟩))]) (j := fun s => draw_Codes_body_j5 r6 f2 r5 params4 i3 s) ?_ ?_
                        ·
                          refine tr_reg ?_
                          refine trO_mv rfl rfl ?_
                          refine trO_bin (v := .bool (r6.1 == 16)) rfl rfl rfl rfl rfl ?_
                          refine trO_mv rfl rfl ?_
                          refine trO_split 107 (b := (r6.1 == 16)) rfl ?_ ?_
                          ·
                            refine trO_fldA rfl rfl ?_
                            refine trO_ld_obj (v := .int .i64 f2.Params) (z := .agg [.int .i64 f2.Params, .sl (f2.Slots.map eSlot), .sl (f2.Code.map eInstr)]) rfl rfl rfl rfl rfl rfl ?_
                            refine trO_bin (v := .bool (decide (f2.Params > 0))) rfl rfl rfl rfl rfl ?_
                            refine trO_pick_true rfl rfl rfl rfl ?_
                            refine trO_asg rfl rfl ?_
                            refine trO_nil ?_
                            exact trX_cut (s := (decide (f2.Params > 0))) _ ((has_exact ⟨rfl, rfl, rfl, rfl, rfl, rfl, rfl, trivial⟩ ⟨rfl, rfl, trivial⟩))
                          ·
                            refine trO_off rfl ?_
                            refine trO_off rfl ?_
                            refine trO_off rfl ?_
                            refine trO_pick_false rfl rfl rfl rfl ?_
                            refine trO_asg rfl rfl ?_
                            refine trO_nil ?_
                            exact trX_cut (s := false) _ ((has_exact ⟨rfl, rfl, rfl, rfl, rfl, rfl, rfl, trivial⟩ ⟨rfl, rfl, trivial⟩))
                        ·
                          rintro x20 v5 nn
                          show Tr _ _ _ ⟨[(0, .optr 8192 0 0 0), (2, .int .i64 i3), (3, .sl (params4.map eI64)), (5, .optr 5 v5 0 0), (9, .int .i64 r5.1), (11, .int .i64 r6.1), (104, .bool x20)], [(5, some (v5, ⟨false, true, 3, 27, [.agg [.int .i64 f2.Params, .sl (f2.Slots.map eSlot), .sl (f2.Code.map eInstr)]]⟩)), (8192, some (0, ⟨false, true, 2, 80, [.agg [.sl (r6.2.list.map eU8), .int .i64 r6.2.at_]]⟩))], _⟩ (draw_Codes_body_j5 r6 f2 r5 params4 i3 x20)
                          unfold draw_Codes_body_j5
                          refine tr_cond (c := x20) rfl ?_ ?_
                          ·
                            refine tr_seq ?_
                            refine tr_reg ?_
                            refine trO_mv rfl rfl ?_
                            refine trO_mv rfl rfl ?_
                            refine trO_fldA rfl rfl ?_
                            refine trO_ld_obj (v := .int .i64 f2.Params) (z := .agg [.int .i64 f2.Params, .sl (f2.Slots.map eSlot), .sl (f2.Code.map eInstr)]) rfl rfl rfl rfl rfl rfl ?_
                            refine trO_bind fun r21 hr21 => ?_
                            refine trO_call_val (r6.2, f2.Params) rfl rfl rfl draw_Codes_Next_de rfl rfl (by simp) rfl hr21 ?_
                            refine trO_bld (cs := [.int .i64 19, .int .i64 r5.1, .int .i64 r21.1, .int .i64 0, .int .u64 0]) (ps := [(0, 1, .int .i64 19), (1, 1, .int .i64 r5.1), (2, 1, .int .i64 r21.1)]) rfl rfl rfl rfl ?_
                            refine trO_bldS ([(TInstr.mk 19 r5.1 r21.1 0 0)] : List TInstr) eInstr rfl rfl rfl (by simp) rfl rfl rfl ?_
                            refine trO_asg_own (l := ([(TInstr.mk 19 r5.1 r21.1 0 0)] : List TInstr)) (en := eInstr) rfl rfl rfl rfl ?_
                            refine trO_nil ?_
                            refine trX_seq ?_
                            refine tr_ret ?_
                            refine trX_bcut_ret ?_
                            exact ret_row (b := (([(TInstr.mk 19 r5.1 r21.1 0 0)] : List TInstr), r21.2)) rfl (by first | (simp; done) | (simp; omega)) rfl rfl (by first | (simp; done) | (simp; omega)) rfl (by first | (simp; done) | (simp; omega)) (congrArg D.sl (take_len_map' _ _ rfl)) rfl
                          ·
                            refine tr_seq_cut (E := fun (s : Bool) (g : Unit) => [(0, .optr 8192 0 0 0), (2, .int .i64 i3), (3, .sl (params4.map eI64)), (9, .int .i64 r5.1), (119, .bool s)]) (O := fun s g => [(8192, some (0, ⟨false, true, 2, 80, [.agg [.sl (r6.2.list.map eU8), .int .i64 r6.2.at_]]⟩))]) (j := fun s => draw_Codes_body_j6 r6 params4 i3 r5 s) ?_ ?_
                            ·
                              refine tr_reg ?_
                              refine trO_mv rfl rfl ?_
                              refine trO_bin (v := .bool (decide (r6.1 ≥ 17))) rfl rfl rfl rfl rfl ?_
                              refine trO_mv rfl rfl ?_
                              refine trO_split 122 (b := (decide (r6.1 ≥ 17))) rfl ?_ ?_
                              ·
                                refine trO_mv rfl rfl ?_
                                refine trO_bin (v := .int .i64 (IntKind.i64.wrap (i3 + 1))) rfl rfl rfl rfl rfl ?_
                                refine trO_mv rfl rfl ?_
                                refine trO_len_sl rfl rfl ?_
                                refine trO_bin (v := .bool (decide ((IntKind.i64.wrap (i3 + 1)) < (params4.length : Int)))) rfl rfl rfl rfl rfl ?_
                                refine trO_pick_true rfl rfl rfl rfl ?_
                                refine trO_asg rfl rfl ?_
                                refine trO_nil ?_
                                exact trX_cut (s := (decide ((IntKind.i64.wrap (i3 + 1)) < (params4.length : Int)))) () ((has_exact ⟨rfl, rfl, rfl, rfl, rfl, trivial⟩ ⟨rfl, trivial⟩))
                              ·
                                refine trO_off rfl ?_
                                refine trO_off rfl ?_
                                refine trO_off rfl ?_
                                refine trO_off rfl ?_
                                refine trO_off rfl ?_
                                refine trO_pick_false rfl rfl rfl rfl ?_
                                refine trO_asg rfl rfl ?_
                                refine trO_nil ?_
                                exact trX_cut (s := false) () ((has_exact ⟨rfl, rfl, rfl, rfl, rfl, trivial⟩ ⟨rfl, trivial⟩))
                            ·
                              rintro x22 ⟨⟩ nn
                              show Tr _ _ _ ⟨[(0, .optr 8192 0 0 0), (2, .int .i64 i3), (3, .sl (params4.map eI64)), (9, .int .i64 r5.1), (119, .bool x22)], [(8192, some (0, ⟨false, true, 2, 80, [.agg [.sl (r6.2.list.map eU8), .int .i64 r6.2.at_]]⟩))], _⟩ (draw_Codes_body_j6 r6 params4 i3 r5 x22)
                              unfold draw_Codes_body_j6
                              refine tr_cond (c := x22) rfl ?_ ?_
                              ·
                                refine tr_seq ?_
                                refine tr_reg ?_
                                refine trO_mv rfl rfl ?_
                                refine trO_bin (v := .int .i64 (IntKind.i64.wrap (i3 + 1))) rfl rfl rfl rfl rfl ?_
                                refine trO_mv rfl rfl ?_
                                refine trO_mv rfl rfl ?_
                                refine trO_len_sl rfl rfl ?_
                                refine trO_mv rfl rfl ?_
                                refine trO_bin (v := .int .i64 (IntKind.i64.wrap ((params4.length : Int) - i3))) rfl rfl rfl rfl rfl ?_
                                refine trO_bin (v := .int .i64 (IntKind.i64.wrap ((IntKind.i64.wrap ((params4.length : Int) - i3)) - 1))) rfl rfl rfl rfl rfl ?_
                                refine trO_bind fun r23 hr23 => ?_
                                refine trO_call_val (r6.2, IntKind.i64.wrap ((IntKind.i64.wrap ((params4.length : Int) - i3)) - 1)) rfl rfl rfl draw_Codes_Next_de rfl rfl (by simp) rfl hr23 ?_
                                refine trO_bin (v := .int .i64 (IntKind.i64.wrap ((IntKind.i64.wrap (i3 + 1)) + r23.1))) rfl rfl rfl rfl rfl ?_
                                refine trO_asg rfl rfl ?_
                                refine trO_nil ?_
                                refine trX_seq ?_
                                refine tr_seq ?_
                                refine tr_reg ?_
                                refine trO_asg_nil (α := TInstr) rfl eInstr rfl ?_
                                refine trO_nil ?_
                                refine trX_seq ?_
                                refine tr_seq ?_
                                refine tr_seq ?_
                                refine tr_reg ?_
                                refine trO_asg rfl rfl ?_
                                refine trO_nil ?_
                                refine trX_seq ?_
                                refine tr_block ?_
                                refine tr_loop (E := fun (s : (List Int) × Int × (List TInstr) × Int) (g : Nat) => [(0, .optr 8192 0 0 0), (3, .sl (params4.map eI64)), (13, .int .i64 (IntKind.i64.wrap ((IntKind.i64.wrap (i3 + 1)) + r23.1))), (14, .osl 14 g 0 s.2.2.1.length), (15, .int .i64 s.2.2.2)]) (O := fun s g => [(14, some (g, ⟨false, false, 5, 52, s.2.2.1.map eInstr⟩)), (8192, some (0, ⟨false, true, 2, 80, [.agg [.sl (s.1.map eU8), .int .i64 s.2.1]]⟩))]) (body := fun s => draw_Codes_body_b7 params4 i3 r23 s.1 s.2.1 s.2.2.1 s.2.2.2) (s := (r23.2.list, r23.2.at_, ([] : List TInstr), 0)) _ ((has_exact ⟨rfl, rfl, rfl, rfl, rfl, trivial⟩ ⟨rfl, rfl, trivial⟩)) ?_
                                rintro ⟨c24, c25, out26, a27⟩ v14 nn
                                show Tr _ _ _ ⟨[(0, .optr 8192 0 0 0), (3, .sl (params4.map eI64)), (13, .int .i64 (IntKind.i64.wrap ((IntKind.i64.wrap (i3 + 1)) + r23.1))), (14, .osl 14 v14 0 out26.length), (15, .int .i64 a27)], [(14, some (v14, ⟨false, false, 5, 52, out26.map eInstr⟩)), (8192, some (0, ⟨false, true, 2, 80, [.agg [.sl (c24.map eU8), .int .i64 c25]]⟩))], _⟩ (draw_Codes_body_b7 params4 i3 r23 c24 c25 out26 a27)
                                unfold draw_Codes_body_b7
                                refine tr_seq ?_
                                refine tr_seq ?_
                                refine tr_reg ?_
                                refine trO_mv rfl rfl ?_
                                refine trO_mv rfl rfl ?_
                                refine trO_mv rfl rfl ?_
                                refine trO_bind fun x_x28 hx_x28 => ?_
                                refine trO_ixA_sl (en := eI64) rfl rfl rfl hx_x28 rfl ?_
                                refine trO_ld_f (v := .int .i64 x_x28) rfl rfl rfl rfl ?_
                                refine trO_bin (v := .bool (decide (a27 < x_x28))) rfl rfl rfl rfl rfl ?_
                                refine trO_nil ?_
                                refine trX_seq ?_
                                refine tr_cond (c := (decide (a27 < x_x28))) rfl ?_ ?_
                                ·
                                  refine tr_skip ?_
                                  refine trX_seq ?_
                                  refine tr_seq ?_
                                  refine tr_block ?_
                                  refine tr_seq ?_
                                  refine tr_reg ?_
                                  refine trO_mv rfl rfl ?_
                                  refine trO_bind fun r29 hr29 => ?_
                                  refine trO_call_val ((Tdraw_Codes.mk c24 c25), 8) rfl rfl rfl draw_Codes_Next_de rfl rfl (by simp) rfl hr29 ?_
                                  refine trO_bin (v := .bool (decide (r29.1 < 7))) rfl rfl rfl rfl rfl ?_
                                  refine trO_nil ?_
                                  refine trX_seq ?_
                                  refine tr_cond (c := (decide (r29.1 < 7))) rfl ?_ ?_
                                  ·
                                    refine tr_reg ?_
                                    refine trO_mv rfl rfl ?_
                                    refine trO_mv rfl rfl ?_
                                    refine trO_mv rfl rfl ?_
                                    refine trO_bind fun r30 hr30 => ?_
                                    refine trO_call_val (r29.2, 4) rfl rfl rfl draw_Codes_Next_de rfl rfl (by simp) rfl hr30 ?_
                                    refine trO_bld (cs := [.int .i64 18, .int .i64 a27, .int .i64 r30.1, .int .i64 0, .int .u64 0]) (ps := [(0, 1, .int .i64 18), (1, 1, .int .i64 a27), (2, 1, .int .i64 r30.1)]) rfl rfl rfl rfl ?_
                                    refine trO_bldS ([(TInstr.mk 18 a27 r30.1 0 0)] : List TInstr) eInstr rfl rfl rfl (by simp) rfl rfl rfl ?_
                                    refine trO_chk fun hq => ?_
                                    refine trO_app (out26) (([(TInstr.mk 18 a27 r30.1 0 0)] : List TInstr)) eInstr rfl rfl rfl rfl rfl rfl rfl (by simp) (take_drop0_map' _ _ rfl) rfl rfl (by simp) (take_len_map' _ _ rfl) (fun _ => rfl) rfl hq ?_
                                    refine trO_asg_own (l := out26 ++ ([(TInstr.mk 18 a27 r30.1 0 0)] : List TInstr)) (en := eInstr) rfl rfl rfl rfl ?_
                                    refine trO_nil ?_
                                    refine trX_blk_normal ?_
                                    refine trX_seq ?_
                                    refine tr_reg ?_
                                    refine trO_mv rfl rfl ?_
                                    refine trO_bin (v := .int .i64 (IntKind.i64.wrap (a27 + 1))) rfl rfl rfl rfl rfl ?_
                                    refine trO_asg rfl rfl ?_
                                    refine trO_nil ?_
                                    exact trX_loop (s := (r30.2.list, r30.2.at_, out26 ++ ([(TInstr.mk 18 a27 r30.1 0 0)] : List TInstr), IntKind.i64.wrap (a27 + 1))) _ ((has_exact ⟨rfl, rfl, rfl, rfl, rfl, trivial⟩ ⟨rfl, rfl, trivial⟩))
                                  ·
                                    refine tr_skip ?_
                                    refine trX_blk_normal ?_
                                    refine trX_seq ?_
                                    refine tr_reg ?_
                                    refine trO_mv rfl rfl ?_
                                    refine trO_bin (v := .int .i64 (IntKind.i64.wrap (a27 + 1))) rfl rfl rfl rfl rfl ?_
                                    refine trO_asg rfl rfl ?_
                                    refine trO_nil ?_
                                    exact trX_loop (s := (r29.2.list, r29.2.at_, out26, IntKind.i64.wrap (a27 + 1))) _ ((has_exact ⟨rfl, rfl, rfl, rfl, rfl, trivial⟩ ⟨rfl, rfl, trivial⟩))
                                ·
                                  refine tr_exit ?_
                                  refine trX_seq_exit ?_
                                  refine trX_loop_exit ?_
                                  refine trX_blk_here ?_
                                  refine trX_seq ?_
                                  refine tr_seq ?_
                                  refine tr_reg ?_
                                  refine trO_mv rfl rfl ?_
                                  refine trO_mv rfl rfl ?_
                                  refine trO_bld (cs := [.int .i64 22, .int .i64 (IntKind.i64.wrap ((IntKind.i64.wrap (i3 + 1)) + r23.1)), .int .i64 0, .int .i64 0, .int .u64 0]) (ps := [(0, 1, .int .i64 22), (1, 1, .int .i64 (IntKind.i64.wrap ((IntKind.i64.wrap (i3 + 1)) + r23.1)))]) rfl rfl rfl rfl ?_
                                  refine trO_bldS ([(TInstr.mk 22 (IntKind.i64.wrap ((IntKind.i64.wrap (i3 + 1)) + r23.1)) 0 0 0)] : List TInstr) eInstr rfl rfl rfl (by simp) rfl rfl rfl ?_
                                  refine trO_chk fun hq => ?_
                                  refine trO_app (out26) (([(TInstr.mk 22 (IntKind.i64.wrap ((IntKind.i64.wrap (i3 + 1)) + r23.1)) 0 0 0)] : List TInstr)) eInstr rfl rfl rfl rfl rfl rfl rfl (by simp) (take_drop0_map' _ _ rfl) rfl rfl (by simp) (take_len_map' _ _ rfl) (fun _ => rfl) rfl hq ?_
                                  refine trO_asg_own (l := out26 ++ ([(TInstr.mk 22 (IntKind.i64.wrap ((IntKind.i64.wrap (i3 + 1)) + r23.1)) 0 0 0)] : List TInstr)) (en := eInstr) rfl rfl rfl rfl ?_
                                  refine trO_nil ?_
                                  refine trX_seq ?_
                                  refine tr_ret ?_
                                  refine trX_bcut_ret ?_
                                  exact ret_row (b := (out26 ++ ([(TInstr.mk 22 (IntKind.i64.wrap ((IntKind.i64.wrap (i3 + 1)) + r23.1)) 0 0 0)] : List TInstr), (Tdraw_Codes.mk c24 c25))) rfl (by first | (simp; done) | (simp; omega)) rfl rfl (by first | (simp; done) | (simp; omega)) rfl (by first | (simp; done) | (simp; omega)) (congrArg D.sl (take_len_map' _ _ rfl)) rfl
                              ·
                                refine tr_skip ?_
                                exact trX_bcut_normal (s := ()) () ((has_exact ⟨rfl, trivial⟩ ⟨rfl, trivial⟩))
  ·
    rintro ⟨⟩ ⟨⟩ nn
    show Tr _ _ _ ⟨[(9, .int .i64 r5.1)], [(8192, some (0, ⟨false, true, 2, 80, [.agg [.sl (r6.2.list.map eU8), .int .i64 r6.2.at_]]⟩))], _⟩ (draw_Codes_body_j1 r5 r6)
    unfold draw_Codes_body_j1
    refine tr_seq ?_
    refine tr_reg ?_
    refine trO_mv rfl rfl ?_
    refine trO_bld (cs := [.int .i64 14, .int .i64 r5.1, .int .i64 0, .int .i64 0, .int .u64 0]) (ps := [(0, 1, .int .i64 14), (1, 1, .int .i64 r5.1)]) rfl rfl rfl rfl ?_
    refine trO_bldS ([(TInstr.mk 14 r5.1 0 0 0)] : List TInstr) eInstr rfl rfl rfl (by simp) rfl rfl rfl ?_
    refine trO_asg_own (l := ([(TInstr.mk 14 r5.1 0 0 0)] : List TInstr)) (en := eInstr) rfl rfl rfl rfl ?_
    refine trO_nil ?_
    refine trX_seq ?_
    refine tr_ret ?_
    exact ret_row (b := (([(TInstr.mk 14 r5.1 0 0 0)] : List TInstr), r6.2)) rfl (by first | (simp; done) | (simp; omega)) rfl rfl (by first | (simp; done) | (simp; omega)) rfl (by first | (simp; done) | (simp; omega)) (congrArg D.sl (take_len_map' _ _ rfl)) rfl

def dc55 : DCode := (.seq (.reg [⟨(some 8), (.new (.agg [(.int .i64 0), .nils, .nils]) 3 27), none, []⟩] false) (.seq (.reg [⟨(some 16), (.mv (.t 2)), none, []⟩, ⟨(some 17), (.mv (.t 1)), none, []⟩, ⟨(some 18), (.ixA 1 (.t 16) (.t 17)), none, [0, 1]⟩, ⟨(some 19), (.ld 1 false (.t 18)), none, [2]⟩, ⟨(some 20), (.mv (.t 0)), none, []⟩, ⟨(some 21), (.call (.c (.clo 61 [])) [(.t 20), (.c (.int .i64 6))]), none, [4]⟩, ⟨(some 22), (.bld [(.int .i64 0), .nils, .nils] [⟨0, ⟨1, (.t 19)⟩⟩, ⟨1, ⟨1, (.t 21)⟩⟩]), none, [3, 5]⟩, ⟨(some 9), (.new (.agg [(.int .i64 0), .nils, .nils]) 3 27), none, []⟩, ⟨none, (.st 3 (.t 9) (.t 22)), none, [7, 6, 5, 0, 1, 2, 3, 4, 5, 6, 7]⟩] true) (.seq (.reg [⟨(some 10), (.asg (.c .nils) (some ⟨5, 52⟩)), none, []⟩] false) (.seq (.seq (.reg [⟨(some 11), (.asg (.c (.int .i64 0)) none), none, []⟩] false) (.block 0 (.loop (.seq (.seq (.reg [⟨(some 23), (.mv (.t 11)), none, []⟩, ⟨(some 24), (.fldA 1 (.t 9)), none, []⟩, ⟨(some 25), (.ld 1 false (.t 24)), none, []⟩, ⟨(some 26), (.len false (.t 25)), none, []⟩, ⟨(some 27), (.bin .lss (.t 23) (.t 26)), none, []⟩] false) (.cond (.t 27) .skip (.exit 0))) (.seq (.block 1 (.seq (.reg [⟨(some 30), (.mv (.t 0)), none, []⟩, ⟨(some 31), (.call (.c (.clo 39 [])) [(.t 30), (.c (.int .i64 4))]), none, []⟩, ⟨(some 32), (.bin .lss (.t 31) (.c (.int .i64 3))), none, []⟩] false) (.cond (.t 32) (.reg [⟨(some 33), (.mv (.t 10)), none, []⟩, ⟨(some 34), (.mv (.t 11)), none, []⟩, ⟨(some 35), (.mv (.t 0)), none, []⟩, ⟨(some 36), (.call (.c (.clo 39 [])) [(.t 35), (.c (.int .i64 4))]), none, []⟩, ⟨(some 37), (.bld [(.int .i64 0), (.int .i64 0), (.int .i64 0), (.int .i64 0), (.int .u64 0)] [⟨0, ⟨1, (.c (.int .i64 16))⟩⟩, ⟨1, ⟨1, (.t 34)⟩⟩, ⟨2, ⟨1, (.t 36)⟩⟩]), none, []⟩, ⟨(some 38), (.bldS 5 52 (.agg [(.int .i64 0), (.int .i64 0), (.int .i64 0), (.int .i64 0), (.int .u64 0)]) 1 [⟨0, (.t 37)⟩]), none, []⟩, ⟨(some 39), (.app 5 52 40 (.t 33) (.t 38)), none, []⟩, ⟨(some 10), (.asg (.t 39) (some ⟨5, 52⟩)), none, []⟩] false) .skip))) (.reg [⟨(some 28), (.mv (.t 11)), none, []⟩, ⟨(some 29), (.bin .add (.t 28) (.c (.int .i64 1))), none, []⟩, ⟨(some 11), (.asg (.t 29) none), none, []⟩] false)))))) (.seq (.seq (.reg [⟨(some 40), (.mv (.t 0)), none, []⟩, ⟨(some 41), (.mv (.t 3)), none, []⟩, ⟨(some 42), (.bin .add (.t 41) (.c (.int .i64 1))), none, []⟩, ⟨(some 43), (.call (.c (.clo 39 [])) [(.t 40), (.t 42)]), none, []⟩, ⟨(some 12), (.asg (.t 43) none), none, []⟩] false) (.block 2 (.loop (.seq (.seq (.reg [⟨(some 44), (.mv (.t 12)), none, []⟩, ⟨(some 45), (.bin .gtr (.t 44) (.c (.int .i64 0))), none, []⟩] false) (.cond (.t 45) .skip (.exit 2))) (.seq (.block 3 (.seq (.reg [⟨(some 48), (.mv (.t 10)), none, []⟩, ⟨(some 49), (.mv (.t 0)), none, []⟩, ⟨(some 50), (.ld 3 true (.t 9)), none, []⟩, ⟨(some 51), (.mv (.t 1)), none, []⟩, ⟨(some 52), (.mv (.t 2)), none, []⟩, ⟨(some 53), (.call (.c (.clo 62 [])) [(.t 49), (.t 50), (.t 51), (.t 52)]), none, []⟩, ⟨(some 54), (.app 5 52 40 (.t 48) (.t 53)), none, []⟩, ⟨(some 10), (.asg (.t 54) (some ⟨5, 52⟩)), none, []⟩] false) (.seq (.reg [⟨(some 55), (.mv (.t 0)), none, []⟩, ⟨(some 56), (.call (.c (.clo 39 [])) [(.t 55), (.c (.int .i64 9))]), none, []⟩] false) (.block 4 (.seq (.reg [⟨(some 58), (.bin .eql (.t 56) (.c (.int .i64 7))), none, []⟩, ⟨(some 57), (.asg (.t 58) none), none, []⟩] false) (.cond (.t 57) (.reg [⟨(some 59), (.mv (.t 10)), none, []⟩, ⟨(some 60), (.mv (.t 0)), none, []⟩, ⟨(some 61), (.call (.c (.clo 39 [])) [(.t 60), (.c (.int .i64 4))]), none, []⟩, ⟨(some 62), (.bld [(.int .i64 0), (.int .i64 0), (.int .i64 0), (.int .i64 0), (.int .u64 0)] [⟨0, ⟨1, (.c (.int .i64 21))⟩⟩, ⟨1, ⟨1, (.t 61)⟩⟩, ⟨2, ⟨1, (.c (.int .i64 (-1)))⟩⟩]), none, []⟩, ⟨(some 63), (.bldS 5 52 (.agg [(.int .i64 0), (.int .i64 0), (.int .i64 0), (.int .i64 0), (.int .u64 0)]) 1 [⟨0, (.t 62)⟩]), none, []⟩, ⟨(some 64), (.app 5 52 40 (.t 59) (.t 63)), none, []⟩, ⟨(some 10), (.asg (.t 64) (some ⟨5, 52⟩)), none, []⟩] false) (.seq (.reg [⟨(some 66), (.bin .eql (.t 56) (.c (.int .i64 8))), none, []⟩, ⟨(some 65), (.asg (.t 66) none), none, []⟩] false) (.cond (.t 65) (.seq (.reg [⟨(some 67), (.mv (.t 0)), none, []⟩, ⟨(some 68), (.call (.c (.clo 39 [])) [(.t 67), (.c (.int .i64 3))]), none, []⟩, ⟨(some 69), (.bin .eql (.t 68) (.c (.int .i64 2))), none, []⟩] false) (.cond (.t 69) (.reg [⟨(some 70), (.mv (.t 10)), none, []⟩, ⟨(some 71), (.bld [(.int .i64 0), (.int .i64 0), (.int .i64 0), (.int .i64 0), (.int .u64 0)] [⟨0, ⟨1, (.c (.int .i64 20))⟩⟩, ⟨1, ⟨1, (.c (.int .i64 (-1)))⟩⟩]), none, []⟩, ⟨(some 72), (.bldS 5 52 (.agg [(.int .i64 0), (.int .i64 0), (.int .i64 0), (.int .i64 0), (.int .u64 0)]) 1 [⟨0, (.t 71)⟩]), none, []⟩, ⟨(some 73), (.app 5 52 40 (.t 70) (.t 72)), none, []⟩, ⟨(some 10), (.asg (.t 73) (some ⟨5, 52⟩)), none, []⟩] false) .skip)) .skip)))))))) (.reg [⟨(some 46), (.mv (.t 12)), none, []⟩, ⟨(some 47), (.bin .sub (.t 46) (.c (.int .i64 1))), none, []⟩, ⟨(some 12), (.asg (.t 47) none), none, []⟩] false)))))) (.seq (.reg [⟨(some 74), (.bld [(.int .i64 0), (.int .i64 0), (.int .i64 0), (.int .i64 0), (.int .u64 0)] [⟨0, ⟨1, (.c (.int .i64 23))⟩⟩]), none, []⟩, ⟨(some 13), (.new (.agg [(.int .i64 0), (.int .i64 0), (.int .i64 0), (.int .i64 0), (.int .u64 0)]) 5 52), none, []⟩, ⟨none, (.st 5 (.t 13) (.t 74)), none, []⟩] false) (.seq (.seq (.reg [⟨(some 75), (.mv (.t 0)), none, []⟩, ⟨(some 76), (.call (.c (.clo 39 [])) [(.t 75), (.c (.int .i64 12))]), none, []⟩, ⟨(some 77), (.bin .eql (.t 76) (.c (.int .i64 11))), none, []⟩] false) (.cond (.t 77) (.reg [⟨(some 78), (.mv (.t 0)), none, []⟩, ⟨(some 79), (.call (.c (.clo 63 [])) [(.t 78)]), none, []⟩, ⟨(some 80), (.bld [(.int .i64 0), (.int .i64 0), (.int .i64 0), (.int .i64 0), (.int .u64 0)] [⟨0, ⟨1, (.c (.int .i64 24))⟩⟩, ⟨4, ⟨1, (.t 79)⟩⟩]), none, []⟩, ⟨none, (.st 5 (.t 13) (.t 80)), none, []⟩] false) .skip)) (.seq (.reg [⟨(some 81), (.mv (.t 10)), none, []⟩, ⟨(some 82), (.ld 5 true (.t 13)), none, []⟩, ⟨(some 83), (.bldS 5 52 (.agg [(.int .i64 0), (.int .i64 0), (.int .i64 0), (.int .i64 0), (.int .u64 0)]) 1 [⟨0, (.t 82)⟩]), none, []⟩, ⟨(some 84), (.app 5 52 40 (.t 81) (.t 83)), none, []⟩, ⟨(some 10), (.asg (.t 84) (some ⟨5, 52⟩)), none, []⟩] false) (.seq (.seq (.reg [⟨(some 14), (.asg (.c (.int .i64 0)) none), none, []⟩] false) (.block 5 (.loop (.seq (.seq (.reg [⟨(some 85), (.mv (.t 14)), none, []⟩, ⟨(some 86), (.mv (.t 10)), none, []⟩, ⟨(some 87), (.len false (.t 86)), none, []⟩, ⟨(some 88), (.bin .lss (.t 85) (.t 87)), none, []⟩] false) (.cond (.t 88) .skip (.exit 5))) (.seq (.block 6 (.seq (.reg [⟨(some 91), (.mv (.t 14)), none, []⟩, ⟨(some 92), (.mv (.t 0)), none, []⟩, ⟨(some 93), (.call (.c (.clo 39 [])) [(.t 92), (.c (.int .i64 8))]), none, []⟩, ⟨(some 94), (.bin .add (.t 91) (.t 93)), none, []⟩, ⟨(some 95), (.bin .sub (.t 94) (.c (.int .i64 2))), none, []⟩, ⟨(some 15), (.asg (.t 95) none), none, []⟩] false) (.seq (.seq (.reg [⟨(some 96), (.mv (.t 15)), none, []⟩, ⟨(some 97), (.bin .lss (.t 96) (.c (.int .i64 0))), none, []⟩, ⟨(some 98), (.mv (.t 97)), none, []⟩, ⟨(some 99), (.mv (.t 15)), (some ⟨98, false⟩), []⟩, ⟨(some 100), (.mv (.t 10)), (some ⟨98, false⟩), []⟩, ⟨(some 101), (.len false (.t 100)), (some ⟨98, false⟩), []⟩, ⟨(some 102), (.bin .geq (.t 99) (.t 101)), (some ⟨98, false⟩), []⟩, ⟨(some 103), (.pick (.t 98) (.c (.bool true)) (.t 102)), none, []⟩] false) (.cond (.t 103) (.reg [⟨(some 104), (.mv (.t 10)), none, []⟩, ⟨(some 105), (.len false (.t 104)), none, []⟩, ⟨(some 106), (.bin .sub (.t 105) (.c (.int .i64 1))), none, []⟩, ⟨(some 15), (.asg (.t 106) none), none, []⟩] false) .skip)) (.block 7 (.seq (.reg [⟨(some 108), (.mv (.t 10)), none, []⟩, ⟨(some 109), (.mv (.t 14)), none, []⟩, ⟨(some 110), (.ixA 5 (.t 108) (.t 109)), none, []⟩, ⟨(some 111), (.fldA 0 (.t 110)), none, []⟩, ⟨(some 112), (.ld 1 false (.t 111)), none, []⟩, ⟨(some 113), (.bin .eql (.t 112) (.c (.int .i64 20))), none, []⟩, ⟨(some 114), (.mv (.t 113)), none, []⟩, ⟨(some 115), (.mv (.t 10)), (some ⟨114, true⟩), []⟩, ⟨(some 116), (.mv (.t 14)), (some ⟨114, true⟩), []⟩, ⟨(some 117), (.ixA 5 (.t 115) (.t 116)), (some ⟨114, true⟩), []⟩, ⟨(some 118), (.fldA 1 (.t 117)), (some ⟨114, true⟩), []⟩, ⟨(some 119), (.ld 1 false (.t 118)), (some ⟨114, true⟩), []⟩, ⟨(some 120), (.bin .lss (.t 119) (.c (.int .i64 0))), (some ⟨114, true⟩), []⟩, ⟨(some 121), (.pick (.t 114) (.t 120) (.c (.bool false))), none, []⟩, ⟨(some 107), (.asg (.t 121) none), none, []⟩] false) (.cond (.t 107) (.reg [⟨(some 122), (.mv (.t 10)), none, []⟩, ⟨(some 123), (.mv (.t 14)), none, []⟩, ⟨(some 124), (.mv (.t 15)), none, []⟩, ⟨(some 125), (.ixA 5 (.t 122) (.t 123)), none, []⟩, ⟨(some 126), (.fldA 1 (.t 125)), none, []⟩, ⟨none, (.st 1 (.t 126) (.t 124)), none, []⟩] false) (.seq (.reg [⟨(some 128), (.mv (.t 10)), none, []⟩, ⟨(some 129), (.mv (.t 14)), none, []⟩, ⟨(some 130), (.ixA 5 (.t 128) (.t 129)), none, []⟩, ⟨(some 131), (.fldA 0 (.t 130)), none, []⟩, ⟨(some 132), (.ld 1 false (.t 131)), none, []⟩, ⟨(some 133), (.bin .eql (.t 132) (.c (.int .i64 21))), none, []⟩, ⟨(some 134), (.mv (.t 133)), none, []⟩, ⟨(some 135), (.mv (.t 10)), (some ⟨134, true⟩), []⟩, ⟨(some 136), (.mv (.t 14)), (some ⟨134, true⟩), []⟩, ⟨(some 137), (.ixA 5 (.t 135) (.t 136)), (some ⟨134, true⟩), []⟩, ⟨(some 138), (.fldA 2 (.t 137)), (some ⟨134, true⟩), []⟩, ⟨(some 139), (.ld 1 false (.t 138)), (some ⟨134, true⟩), []⟩, ⟨(some 140), (.bin .lss (.t 139) (.c (.int .i64 0))), (some ⟨134, true⟩), []⟩, ⟨(some 141), (.pick (.t 134) (.t 140) (.c (.bool false))), none, []⟩, ⟨(some 127), (.asg (.t 141) none), none, []⟩] false) (.cond (.t 127) (.reg [⟨(some 142), (.mv (.t 10)), none, []⟩, ⟨(some 143), (.mv (.t 14)), none, []⟩, ⟨(some 144), (.mv (.t 15)), none, []⟩, ⟨(some 145), (.ixA 5 (.t 142) (.t 143)), none, []⟩, ⟨(some 146), (.fldA 2 (.t 145)), none, []⟩, ⟨none, (.st 1 (.t 146) (.t 144)), none, []⟩] false) .skip)))))))) (.reg [⟨(some 89), (.mv (.t 14)), none, []⟩, ⟨(some 90), (.bin .add (.t 89) (.c (.int .i64 1))), none, []⟩, ⟨(some 14), (.asg (.t 90) none), none, []⟩] false)))))) (.seq (.reg [⟨(some 147), (.mv (.t 10)), none, []⟩, ⟨(some 148), (.fldA 2 (.t 9)), none, []⟩, ⟨none, (.st 1 (.t 148) (.t 147)), none, []⟩] false) (.seq (.reg [⟨(some 149), (.ld 3 true (.t 9)), none, []⟩, ⟨none, (.st 3 (.t 8) (.t 149)), none, []⟩] false) .ret)))))))))))
theorem dc55_c : (Try.f55.body.bind (cCode Try.prog Try.f55.ntmps)) = some dc55 := by kernel_rfl
theorem dc55_r : Try.f55.results.toList.mapM (cRes Try.prog) = some [(.c 8 3 true)] := by kernel_rfl
def draw_Codes_function_enc (a : Tdraw_Codes × Int × (List Int) × Int) : List D := [edraw_Codes a.1, .int .i64 a.2.1, .sl (a.2.2.1.map eI64), .int .i64 a.2.2.2]
def draw_Codes_function_dec (ds : List D) : Tdraw_Codes × Int × (List Int) × Int := (udraw_Codes (ds.getD 0 .top), uI (ds.getD 1 .top), (uL uI) (ds.getD 2 .top), uI (ds.getD 3 .top))
theorem draw_Codes_function_de (a : Tdraw_Codes × Int × (List Int) × Int) : draw_Codes_function_dec (draw_Codes_function_enc a) = a := by simp [draw_Codes_function_dec, draw_Codes_function_enc, uI, uBo, uS, uL_e (u := uI) (en := eI64) (fun _ => rfl)]
def draw_Codes_function_R (b : TFunc × Tdraw_Codes) : D := eFunc b.1
def draw_Codes_function_E (b : TFunc × Tdraw_Codes) : List D := [edraw_Codes b.2]
noncomputable def draw_Codes_function_S : Dw.Spec := fSpec [(0, (2, 80))] .val draw_Codes_function_enc draw_Codes_function_dec (fun a => draw_Codes_function a.1 a.2.1 a.2.2.1 a.2.2.2) draw_Codes_function_R draw_Codes_function_E
set_option maxHeartbeats 4000000 in
theorem draw_Codes_function_ok : SpecOk Try.prog 55 draw_Codes_function_S := by
  refine fn_ok (specs_ok (l := [(61, draw_Codes_Slots_S), (39, draw_Codes_Next_S), (62, draw_Codes_body_S), (63, draw_Codes_Word_S)]) (by simp [draw_Codes_Slots_ok, draw_Codes_Next_ok, draw_Codes_body_ok, draw_Codes_Word_ok])) Try.func55 (by decide) dc55_c dc55_r (np := 4) (by decide) draw_Codes_function_de (fun _ => rfl) (fun _ => rfl) (by decide) ?_
  rintro ⟨c1, i2, params3, most4⟩
  show TrE (specs [(61, draw_Codes_Slots_S), (39, draw_Codes_Next_S), (62, draw_Codes_body_S), (63, draw_Codes_Word_S)]) dc55 (kRet [(0, (2, 80))] .val [(.c 8 3 true)] draw_Codes_function_R draw_Codes_function_E) ⟨[(0, .optr 8192 0 0 0), (1, .int .i64 i2), (2, .sl (params3.map eI64)), (3, .int .i64 most4)], [(8192, some (0, ⟨false, true, 2, 80, [.agg [.sl (c1.list.map eU8), .int .i64 c1.at_]]⟩))], 262144⟩ (draw_Codes_function c1 i2 params3 most4)
  refine tr_ent ?_
  unfold dc55 draw_Codes_function
  refine tr_seq ?_
  refine tr_reg ?_
  refine trO_new rfl ?_
  refine trO_nil ?_
  refine trX_seq ?_
  refine tr_seq ?_
  refine tr_reg ?_
  refine trO_mv rfl rfl ?_
  refine trO_mv rfl rfl ?_
  refine trO_bind fun x_x5 hx_x5 => ?_
  refine trO_ixA_sl (en := eI64) rfl rfl rfl hx_x5 rfl ?_
  refine trO_ld_f (v := .int .i64 x_x5) rfl rfl rfl rfl ?_
  refine trO_mv rfl rfl ?_
  refine trO_bind fun r6 hr6 => ?_
  refine trO_call_row (l := r6.1) (en := eSlot) (c1, 6) rfl rfl rfl draw_Codes_Slots_de rfl rfl (by simp) rfl hr6 rfl ?_
  refine trO_bld (cs := [.int .i64 x_x5, .osl 21 _ 0 r6.1.length, .nils]) (ps := [(0, 1, .int .i64 x_x5), (1, 1, .osl 21 _ 0 r6.1.length)]) rfl rfl rfl rfl ?_
  refine trO_new rfl ?_
  refine trO_st_var (z' := .agg [.int .i64 x_x5, .osl 21 _ 0 r6.1.length, .nils]) rfl rfl rfl rfl rfl rfl rfl rfl rfl ?_
  refine trO_nil_draw (by kernel_rfl) ?_
  refine trX_seq ?_
  refine tr_seq ?_
  refine tr_reg ?_
  refine trO_asg_nil (α := TInstr) rfl eInstr rfl ?_
  refine trO_nil ?_
  refine trX_seq ?_
  refine tr_seq ?_
  refine tr_seq ?_
  refine tr_reg ?_
  refine trO_asg rfl rfl ?_
  refine trO_nil ?_
  refine trX_seq ?_
  refine tr_block ?_
  refine tr_loop (E := fun (s : (List Int) × Int × (List TInstr) × Int) (g : Nat × Nat × Nat × Nat) => [(0, .optr 8192 0 0 0), (1, .int .i64 i2), (2, .sl (params3.map eI64)), (3, .int .i64 most4), (8, .optr 8 g.1 0 0), (9, .optr 9 g.2.1 0 0), (10, .osl 10 g.2.2.1 0 s.2.2.1.length), (11, .int .i64 s.2.2.2)]) (O := fun s g => [(8, some (g.1, ⟨false, true, 3, 27, [.agg [.int .i64 0, .nils, .nils]]⟩)), (9, some (g.2.1, ⟨false, true, 3, 27, [.agg [.int .i64 x_x5, .osl 21 g.2.2.2 0 r6.1.length, .nils]]⟩)), (10, some (g.2.2.1, ⟨false, false, 5, 52, s.2.2.1.map eInstr⟩)), (21, some (g.2.2.2, ⟨false, false, 2, 109, r6.1.map eSlot⟩)), (8192, some (0, ⟨false, true, 2, 80, [.agg [.sl (s.1.map eU8), .int .i64 s.2.1]]⟩))]) (body := fun s => draw_Codes_function_b1 r6 most4 x_x5 i2 params3 s.1 s.2.1 s.2.2.1 s.2.2.2) (s := (r6.2.list, r6.2.at_, ([] : List TInstr), 0)) (_, _, _, _) ((has_exact ⟨rfl, rfl, rfl, rfl, rfl, rfl, rfl, rfl, trivial⟩ ⟨rfl, rfl, rfl, rfl, rfl, trivial⟩)) ?_
  rintro ⟨c7, c8, code9, s10⟩ ⟨v8, v9, v10, v21⟩ nn
  show Tr _ _ _ ⟨[(0, .optr 8192 0 0 0), (1, .int .i64 i2), (2, .sl (params3.map eI64)), (3, .int .i64 most4), (8, .optr 8 v8 0 0), (9, .optr 9 v9 0 0), (10, .osl 10 v10 0 code9.length), (11, .int .i64 s10)], [(8, some (v8, ⟨false, true, 3, 27, [.agg [.int .i64 0, .nils, .nils]]⟩)), (9, some (v9, ⟨false, true, 3, 27, [.agg [.int .i64 x_x5, .osl 21 v21 0 r6.1.length, .nils]]⟩)), (10, some (v10, ⟨false, false, 5, 52, code9.map eInstr⟩)), (21, some (v21, ⟨false, false, 2, 109, r6.1.map eSlot⟩)), (8192, some (0, ⟨false, true, 2, 80, [.agg [.sl (c7.map eU8), .int .i64 c8]]⟩))], _⟩ (draw_Codes_function_b1 r6 most4 x_x5 i2 params3 c7 c8 code9 s10)
  unfold draw_Codes_function_b1
  refine tr_seq ?_
  refine tr_seq ?_
  refine tr_reg ?_
  refine trO_mv rfl rfl ?_
  refine trO_fldA rfl rfl ?_
  refine trO_ld_obj (v := .osl 21 _ 0 r6.1.length) (z := .agg [.int .i64 x_x5, .osl 21 _ 0 r6.1.length, .nils]) rfl rfl rfl rfl rfl rfl ?_
  refine trO_len_own rfl rfl ?_
  refine trO_bin (v := .bool (decide (s10 < (r6.1.length : Int)))) rfl rfl rfl rfl rfl ?_
  refine trO_nil ?_
  refine trX_seq ?_
  refine tr_cond (c := (decide (s10 < (r6.1.length : Int)))) rfl ?_ ?_
  ·
    refine tr_skip ?_
    refine trX_seq ?_
    refine tr_seq ?_
    refine tr_block ?_
    refine tr_seq ?_
    refine tr_reg ?_
    refine trO_mv rfl rfl ?_
    refine trO_bind fun r11 hr11 => ?_
    refine trO_call_val ((Tdraw_Codes.mk c7 c8), 4) rfl rfl rfl draw_Codes_Next_de rfl rfl (by simp) rfl hr11 ?_
    refine trO_bin (v := .bool (decide (r11.1 < 3))) rfl rfl rfl rfl rfl ?_
    refine trO_nil ?_
    refine trX_seq ?_
    refine tr_cond (c := (decide (r11.1 < 3))) rfl ?_ ?_
    ·
      refine tr_reg ?_
      refine trO_mv rfl rfl ?_
      refine trO_mv rfl rfl ?_
      refine trO_mv rfl rfl ?_
      refine trO_bind fun r12 hr12 => ?_
      refine trO_call_val (r11.2, 4) rfl rfl rfl draw_Codes_Next_de rfl rfl (by simp) rfl hr12 ?_
      refine trO_bld (cs := [.int .i64 16, .int .i64 s10, .int .i64 r12.1, .int .i64 0, .int .u64 0]) (ps := [(0, 1, .int .i64 16), (1, 1, .int .i64 s10), (2, 1, .int .i64 r12.1)]) rfl rfl rfl rfl ?_
      refine trO_bldS ([(TInstr.mk 16 s10 r12.1 0 0)] : List TInstr) eInstr rfl rfl rfl (by simp) rfl rfl rfl ?_
      refine trO_chk fun hq => ?_
      refine trO_app (code9) (([(TInstr.mk 16 s10 r12.1 0 0)] : List TInstr)) eInstr rfl rfl rfl rfl rfl rfl rfl (by simp) (take_drop0_map' _ _ rfl) rfl rfl (by simp) (take_len_map' _ _ rfl) (fun _ => rfl) rfl hq ?_
      refine trO_asg_own (l := code9 ++ ([(TInstr.mk 16 s10 r12.1 0 0)] : List TInstr)) (en := eInstr) rfl rfl rfl rfl ?_
      refine trO_nil ?_
      refine trX_blk_normal ?_
      refine trX_seq ?_
      refine tr_reg ?_
      refine trO_mv rfl rfl ?_
      refine trO_bin (v := .int .i64 (IntKind.i64.wrap (s10 + 1))) rfl rfl rfl rfl rfl ?_
      refine trO_asg rfl rfl ?_
      refine trO_nil ?_
      exact trX_loop (s := (r12.2.list, r12.2.at_, code9 ++ ([(TInstr.mk 16 s10 r12.1 0 0)] : List TInstr), IntKind.i64.wrap (s10 + 1))) (_, _, _, _) ((has_exact ⟨rfl, rfl, rfl, rfl, rfl, rfl, rfl, rfl, trivial⟩ ⟨rfl, rfl, rfl, rfl, rfl, trivial⟩))
    ·
      refine tr_skip ?_
      refine trX_blk_normal ?_
      refine trX_seq ?_
      refine tr_reg ?_
      refine trO_mv rfl rfl ?_
      refine trO_bin (v := .int .i64 (IntKind.i64.wrap (s10 + 1))) rfl rfl rfl rfl rfl ?_
      refine trO_asg rfl rfl ?_
      refine trO_nil ?_
      exact trX_loop (s := (r11.2.list, r11.2.at_, code9, IntKind.i64.wrap (s10 + 1))) (_, _, _, _) ((has_exact ⟨rfl, rfl, rfl, rfl, rfl, rfl, rfl, rfl, trivial⟩ ⟨rfl, rfl, rfl, rfl, rfl, trivial⟩))
  ·
    refine tr_exit ?_
    refine trX_seq_exit ?_
    refine trX_loop_exit ?_
    refine trX_blk_here ?_
    refine trX_seq ?_
    refine tr_seq ?_
    refine tr_seq ?_
    refine tr_reg ?_
    refine trO_mv rfl rfl ?_
    refine trO_mv rfl rfl ?_
    refine trO_bin (v := .int .i64 (IntKind.i64.wrap (most4 + 1))) rfl rfl rfl rfl rfl ?_
    refine trO_bind fun r13 hr13 => ?_
    refine trO_call_val ((Tdraw_Codes.mk c7 c8), IntKind.i64.wrap (most4 + 1)) rfl rfl rfl draw_Codes_Next_de rfl rfl (by simp) rfl hr13 ?_
    refine trO_asg rfl rfl ?_
    refine trO_nil ?_
    refine trX_seq ?_
    refine tr_block ?_
    refine tr_loop (E := fun (s : (List Int) × Int × (List TInstr) × (List TSlot) × Int) (g : Nat × Nat × Nat) => [(0, .optr 8192 0 0 0), (1, .int .i64 i2), (2, .sl (params3.map eI64)), (8, .optr 8 g.1 0 0), (9, .optr 9 g.2.1 0 0), (10, .osl 10 g.2.2 0 s.2.2.1.length), (12, .int .i64 s.2.2.2.2)]) (O := fun s g => [(8, some (g.1, ⟨false, true, 3, 27, [.agg [.int .i64 0, .nils, .nils]]⟩)), (9, some (g.2.1, ⟨false, true, 3, 27, [.agg [.int .i64 x_x5, .sl (s.2.2.2.1.map eSlot), .nils]]⟩)), (10, some (g.2.2, ⟨false, false, 5, 52, s.2.2.1.map eInstr⟩)), (8192, some (0, ⟨false, true, 2, 80, [.agg [.sl (s.1.map eU8), .int .i64 s.2.1]]⟩))]) (body := fun s => draw_Codes_function_b2 x_x5 i2 params3 s.1 s.2.1 s.2.2.1 s.2.2.2.1 s.2.2.2.2) (s := (r13.2.list, r13.2.at_, code9, r6.1, r13.1)) (_, _, _) ((has_conv [(21, some (_, ⟨true, false, 2, 109, r6.1.map eSlot⟩))] ⟨⟨_, _, rfl, rfl, rfl⟩, trivial⟩ ⟨(conv_same rfl), (conv_same rfl), (conv_same rfl), (conv_same rfl), (conv_same rfl), (conv_same rfl), (conv_same rfl), trivial⟩ ⟨(.inl rfl), (.inr ⟨_, _, _, _, rfl, rfl, rfl, rfl, conv_agg rfl ⟨(convC_same rfl), (convC_own (l := r6.1) (en := eSlot) rfl rfl rfl (by simp)), (convC_same rfl), trivial⟩⟩), (.inl rfl), (.inl rfl), trivial⟩)) ?_
    rintro ⟨c14, c15, code16, f17, n18⟩ ⟨v8, v9, v10⟩ nn
    show Tr _ _ _ ⟨[(0, .optr 8192 0 0 0), (1, .int .i64 i2), (2, .sl (params3.map eI64)), (8, .optr 8 v8 0 0), (9, .optr 9 v9 0 0), (10, .osl 10 v10 0 code16.length), (12, .int .i64 n18)], [(8, some (v8, ⟨false, true, 3, 27, [.agg [.int .i64 0, .nils, .nils]]⟩)), (9, some (v9, ⟨false, true, 3, 27, [.agg [.int .i64 x_x5, .sl (f17.map eSlot), .nils]]⟩)), (10, some (v10, ⟨false, false, 5, 52, code16.map eInstr⟩)), (8192, some (0, ⟨false, true, 2, 80, [.agg [.sl (c14.map eU8), .int .i64 c15]]⟩))], _⟩ (draw_Codes_function_b2 x_x5 i2 params3 c14 c15 code16 f17 n18)
    unfold draw_Codes_function_b2
    refine tr_seq ?_
    refine tr_seq ?_
    refine tr_reg ?_
    refine trO_mv rfl rfl ?_
    refine trO_bin (v := .bool (decide (n18 > 0))) rfl rfl rfl rfl rfl ?_
    refine trO_nil ?_
    refine trX_seq ?_
    refine tr_cond (c := (decide (n18 > 0))) rfl ?_ ?_
    ·
      refine tr_skip ?_
      refine trX_seq ?_
      refine tr_seq ?_
      refine tr_block ?_
      refine tr_seq ?_
      refine tr_reg ?_
      refine trO_mv rfl rfl ?_
      refine trO_mv rfl rfl ?_
      refine trO_ld_obj (v := .agg [.int .i64 x_x5, .sl (f17.map eSlot), .nils]) (z := .agg [.int .i64 x_x5, .sl (f17.map eSlot), .nils]) rfl rfl rfl rfl rfl rfl ?_
      refine trO_mv rfl rfl ?_
      refine trO_mv rfl rfl ?_
      refine trO_bind fun r19 hr19 => ?_
      refine trO_call_row (l := r19.1) (en := eInstr) ((Tdraw_Codes.mk c14 c15), (TFunc.mk x_x5 f17 ([])), i2, params3) rfl rfl rfl draw_Codes_body_de rfl rfl (by simp) (by first | rfl | (simp only [take_drop0_map, take_sub_map]; rfl) | simp [draw_Codes_body_enc, edraw_Codes, eFunc]) hr19 rfl ?_
      refine trO_chk fun hq => ?_
      refine trO_app (code16) (r19.1) eInstr rfl rfl rfl rfl rfl rfl rfl (by simp) (take_drop0_map' _ _ rfl) rfl rfl (by simp) (take_len_map' _ _ rfl) (fun _ => rfl) rfl hq ?_
      refine trO_asg_own (l := code16 ++ r19.1) (en := eInstr) rfl rfl rfl rfl ?_
      refine trO_nil ?_
      refine trX_seq ?_
      refine tr_seq ?_
      refine tr_reg ?_
      refine trO_mv rfl rfl ?_
      refine trO_bind fun r20 hr20 => ?_
      refine trO_call_val (r19.2, 9) rfl rfl rfl draw_Codes_Next_de rfl rfl (by simp) rfl hr20 ?_
      refine trO_nil ?_
      refine trX_seq ?_
      refine tr_block ?_
      refine tr_seq ?_
      refine tr_reg ?_
      refine trO_bin (v := .bool (r20.1 == 7)) rfl rfl rfl rfl rfl ?_
      refine trO_asg rfl rfl ?_
      refine trO_nil ?_
      refine trX_seq ?_
      refine tr_cond (c := (r20.1 == 7)) rfl ?_ ?_
      ·
        refine tr_reg ?_
        refine trO_mv rfl rfl ?_
        refine trO_mv rfl rfl ?_
        refine trO_bind fun r21 hr21 => ?_
        refine trO_call_val (r20.2, 4) rfl rfl rfl draw_Codes_Next_de rfl rfl (by simp) rfl hr21 ?_
        refine trO_bld (cs := [.int .i64 21, .int .i64 r21.1, .int .i64 (-1), .int .i64 0, .int .u64 0]) (ps := [(0, 1, .int .i64 21), (1, 1, .int .i64 r21.1), (2, 1, .int .i64 (-1))]) rfl rfl rfl rfl ?_
        refine trO_bldS ([(TInstr.mk 21 r21.1 (-1) 0 0)] : List TInstr) eInstr rfl rfl rfl (by simp) rfl rfl rfl ?_
        refine trO_chk fun hq => ?_
        refine trO_app (code16 ++ r19.1) (([(TInstr.mk 21 r21.1 (-1) 0 0)] : List TInstr)) eInstr rfl rfl rfl rfl rfl rfl rfl (by simp) (take_drop0_map' _ _ rfl) rfl rfl (by simp) (take_len_map' _ _ rfl) (fun _ => rfl) rfl hq ?_
        refine trO_asg_own (l := (code16 ++ r19.1) ++ ([(TInstr.mk 21 r21.1 (-1) 0 0)] : List TInstr)) (en := eInstr) rfl rfl rfl rfl ?_
        refine trO_nil ?_
        refine trX_blk_normal ?_
        refine trX_blk_normal ?_
        refine trX_seq ?_
        refine tr_reg ?_
        refine trO_mv rfl rfl ?_
        refine trO_bin (v := .int .i64 (IntKind.i64.wrap (n18 - 1))) rfl rfl rfl rfl rfl ?_
        refine trO_asg rfl rfl ?_
        refine trO_nil ?_
        exact trX_loop (s := (r21.2.list, r21.2.at_, (code16 ++ r19.1) ++ ([(TInstr.mk 21 r21.1 (-1) 0 0)] : List TInstr), f17, IntKind.i64.wrap (n18 - 1))) (_, _, _) ((has_exact ⟨rfl, rfl, rfl, rfl, rfl, rfl, rfl, trivial⟩ ⟨rfl, rfl, rfl, rfl, trivial⟩))
      ·
        refine tr_seq ?_
        refine tr_reg ?_
        refine trO_bin (v := .bool (r20.1 == 8)) rfl rfl rfl rfl rfl ?_
        refine trO_asg rfl rfl ?_
        refine trO_nil ?_
        refine trX_seq ?_
        refine tr_cond (c := (r20.1 == 8)) rfl ?_ ?_
        ·
          refine tr_seq ?_
          refine tr_reg ?_
          refine trO_mv rfl rfl ?_
          refine trO_bind fun r22 hr22 => ?_
          refine trO_call_val (r20.2, 3) rfl rfl rfl draw_Codes_Next_de rfl rfl (by simp) rfl hr22 ?_
          refine trO_bin (v := .bool (r22.1 == 2)) rfl rfl rfl rfl rfl ?_
          refine trO_nil ?_
          refine trX_seq ?_
          refine tr_cond (c := (r22.1 == 2)) rfl ?_ ?_
          ·
            refine tr_reg ?_
            refine trO_mv rfl rfl ?_
            refine trO_bld (cs := [.int .i64 20, .int .i64 (-1), .int .i64 0, .int .i64 0, .int .u64 0]) (ps := [(0, 1, .int .i64 20), (1, 1, .int .i64 (-1))]) rfl rfl rfl rfl ?_
            refine trO_bldS ([(TInstr.mk 20 (-1) 0 0 0)] : List TInstr) eInstr rfl rfl rfl (by simp) rfl rfl rfl ?_
            refine trO_chk fun hq => ?_
            refine trO_app (code16 ++ r19.1) (([(TInstr.mk 20 (-1) 0 0 0)] : List TInstr)) eInstr rfl rfl rfl rfl rfl rfl rfl (by simp) (take_drop0_map' _ _ rfl) rfl rfl (by simp) (take_len_map' _ _ rfl) (fun _ => rfl) rfl hq ?_
            refine trO_asg_own (l := (code16 ++ r19.1) ++ ([(TInstr.mk 20 (-1) 0 0 0)] : List TInstr)) (en := eInstr) rfl rfl rfl rfl ?_
            refine trO_nil ?_
            refine trX_blk_normal ?_
            refine trX_blk_normal ?_
            refine trX_seq ?_
            refine tr_reg ?_
            refine trO_mv rfl rfl ?_
            refine trO_bin (v := .int .i64 (IntKind.i64.wrap (n18 - 1))) rfl rfl rfl rfl rfl ?_
            refine trO_asg rfl rfl ?_
            refine trO_nil ?_
            exact trX_loop (s := (r22.2.list, r22.2.at_, (code16 ++ r19.1) ++ ([(TInstr.mk 20 (-1) 0 0 0)] : List TInstr), f17, IntKind.i64.wrap (n18 - 1))) (_, _, _) ((has_exact ⟨rfl, rfl, rfl, rfl, rfl, rfl, rfl, trivial⟩ ⟨rfl, rfl, rfl, rfl, trivial⟩))
          ·
            refine tr_skip ?_
            refine trX_blk_normal ?_
            refine trX_blk_normal ?_
            refine trX_seq ?_
            refine tr_reg ?_
            refine trO_mv rfl rfl ?_
            refine trO_bin (v := .int .i64 (IntKind.i64.wrap (n18 - 1))) rfl rfl rfl rfl rfl ?_
            refine trO_asg rfl rfl ?_
            refine trO_nil ?_
            exact trX_loop (s := (r22.2.list, r22.2.at_, code16 ++ r19.1, f17, IntKind.i64.wrap (n18 - 1))) (_, _, _) ((has_exact ⟨rfl, rfl, rfl, rfl, rfl, rfl, rfl, trivial⟩ ⟨rfl, rfl, rfl, rfl, trivial⟩))
        ·
          refine tr_skip ?_
          refine trX_blk_normal ?_
          refine trX_blk_normal ?_
          refine trX_seq ?_
          refine tr_reg ?_
          refine trO_mv rfl rfl ?_
          refine trO_bin (v := .int .i64 (IntKind.i64.wrap (n18 - 1))) rfl rfl rfl rfl rfl ?_
          refine trO_asg rfl rfl ?_
          refine trO_nil ?_
          exact trX_loop (s := (r20.2.list, r20.2.at_, code16 ++ r19.1, f17, IntKind.i64.wrap (n18 - 1))) (_, _, _) ((has_exact ⟨rfl, rfl, rfl, rfl, rfl, rfl, rfl, trivial⟩ ⟨rfl, rfl, rfl, rfl, trivial⟩))
    ·
      refine tr_exit ?_
      refine trX_seq_exit ?_
      refine trX_loop_exit ?_
      refine trX_blk_here ?_
      refine trX_seq ?_
      refine tr_seq ?_
      refine tr_reg ?_
      refine trO_bld (cs := [.int .i64 23, .int .i64 0, .int .i64 0, .int .i64 0, .int .u64 0]) (ps := [(0, 1, .int .i64 23)]) rfl rfl rfl rfl ?_
      refine trO_new rfl ?_
      refine trO_st_var (z' := .agg [.int .i64 23, .int .i64 0, .int .i64 0, .int .i64 0, .int .u64 0]) rfl rfl rfl rfl rfl rfl rfl rfl rfl ?_
      refine trO_nil ?_
      refine trX_seq ?_
      refine tr_seq_cut (E := fun (s : (List Int) × Int × Int × Int) (g : Nat × Nat × Nat × Nat) => [(0, .optr 8192 0 0 0), (8, .optr 8 g.1 0 0), (9, .optr 9 g.2.1 0 0), (10, .osl 10 g.2.2.1 0 code16.length), (13, .optr 13 g.2.2.2 0 0)]) (O := fun s g => [(8, some (g.1, ⟨false, true, 3, 27, [.agg [.int .i64 0, .nils, .nils]]⟩)), (9, some (g.2.1, ⟨false, true, 3, 27, [.agg [.int .i64 x_x5, .sl (f17.map eSlot), .nils]]⟩)), (10, some (g.2.2.1, ⟨false, false, 5, 52, code16.map eInstr⟩)), (13, some (g.2.2.2, ⟨false, true, 5, 52, [.agg [.int .i64 s.2.2.1, .int .i64 0, .int .i64 0, .int .i64 0, .int .u64 s.2.2.2]]⟩)), (8192, some (0, ⟨false, true, 2, 80, [.agg [.sl (s.1.map eU8), .int .i64 s.2.1]]⟩))]) (j := fun s => draw_Codes_function_j3 code16 x_x5 f17 s.1 s.2.1 s.2.2.1 s.2.2.2) ?_ ?_
      ·
        refine tr_seq ?_
        refine tr_reg ?_
        refine trO_mv rfl rfl ?_
        refine trO_bind fun r27 hr27 => ?_
        refine trO_call_val ((Tdraw_Codes.mk c14 c15), 12) rfl rfl rfl draw_Codes_Next_de rfl rfl (by simp) rfl hr27 ?_
        refine trO_bin (v := .bool (r27.1 == 11)) rfl rfl rfl rfl rfl ?_
        refine trO_nil ?_
        refine trX_seq ?_
        refine tr_cond (c := (r27.1 == 11)) rfl ?_ ?_
        ·
          refine tr_reg ?_
          refine trO_mv rfl rfl ?_
          refine trO_bind fun r28 hr28 => ?_
          refine trO_call_val r27.2 rfl rfl rfl draw_Codes_Word_de rfl rfl (by simp) rfl hr28 ?_
          refine trO_bld (cs := [.int .i64 24, .int .i64 0, .int .i64 0, .int .i64 0, .int .u64 r28.1]) (ps := [(0, 1, .int .i64 24), (4, 1, .int .u64 r28.1)]) rfl rfl rfl rfl ?_
          refine trO_st_var (z' := .agg [.int .i64 24, .int .i64 0, .int .i64 0, .int .i64 0, .int .u64 r28.1]) rfl rfl rfl rfl rfl rfl rfl rfl rfl ?_
          refine trO_nil ?_
          exact trX_cut (s := (r28.2.list, r28.2.at_, 24, r28.1)) (_, _, _, _) ((has_exact ⟨rfl, rfl, rfl, rfl, rfl, trivial⟩ ⟨rfl, rfl, rfl, rfl, rfl, trivial⟩))
        ·
          refine tr_skip ?_
          exact trX_cut (s := (r27.2.list, r27.2.at_, 23, 0)) (_, _, _, _) ((has_exact ⟨rfl, rfl, rfl, rfl, rfl, trivial⟩ ⟨rfl, rfl, rfl, rfl, rfl, trivial⟩))
      ·
        rintro ⟨c23, c24, end25, end26⟩ ⟨v8, v9, v10, v13⟩ nn
        show Tr _ _ _ ⟨[(0, .optr 8192 0 0 0), (8, .optr 8 v8 0 0), (9, .optr 9 v9 0 0), (10, .osl 10 v10 0 code16.length), (13, .optr 13 v13 0 0)], [(8, some (v8, ⟨false, true, 3, 27, [.agg [.int .i64 0, .nils, .nils]]⟩)), (9, some (v9, ⟨false, true, 3, 27, [.agg [.int .i64 x_x5, .sl (f17.map eSlot), .nils]]⟩)), (10, some (v10, ⟨false, false, 5, 52, code16.map eInstr⟩)), (13, some (v13, ⟨false, true, 5, 52, [.agg [.int .i64 end25, .int .i64 0, .int .i64 0, .int .i64 0, .int .u64 end26]]⟩)), (8192, some (0, ⟨false, true, 2, 80, [.agg [.sl (c23.map eU8), .int .i64 c24]]⟩))], _⟩ (draw_Codes_function_j3 code16 x_x5 f17 c23 c24 end25 end26)
        unfold draw_Codes_function_j3
        refine tr_seq ?_
        refine tr_reg ?_
        refine trO_mv rfl rfl ?_
        refine trO_ld_obj (v := .agg [.int .i64 end25, .int .i64 0, .int .i64 0, .int .i64 0, .int .u64 end26]) (z := .agg [.int .i64 end25, .int .i64 0, .int .i64 0, .int .i64 0, .int .u64 end26]) rfl rfl rfl rfl rfl rfl ?_
        refine trO_bldS ([(TInstr.mk end25 0 0 0 end26)] : List TInstr) eInstr rfl rfl rfl (by simp) rfl rfl rfl ?_
        refine trO_chk fun hq => ?_
        refine trO_app (code16) (([(TInstr.mk end25 0 0 0 end26)] : List TInstr)) eInstr rfl rfl rfl rfl rfl rfl rfl (by simp) (take_drop0_map' _ _ rfl) rfl rfl (by simp) (take_len_map' _ _ rfl) (fun _ => rfl) rfl hq ?_
        refine trO_asg_own (l := code16 ++ ([(TInstr.mk end25 0 0 0 end26)] : List TInstr)) (en := eInstr) rfl rfl rfl rfl ?_
        refine trO_nil ?_
        refine trX_seq ?_
        refine tr_seq ?_
        refine tr_seq ?_
        refine tr_reg ?_
        refine trO_asg rfl rfl ?_
        refine trO_nil ?_
        refine trX_seq ?_
        refine tr_block ?_
        refine tr_loop (E := fun (s : (List Int) × Int × (List TInstr) × Int) (g : Nat × Nat × Nat) => [(0, .optr 8192 0 0 0), (8, .optr 8 g.1 0 0), (9, .optr 9 g.2.1 0 0), (10, .osl 10 g.2.2 0 s.2.2.1.length), (14, .int .i64 s.2.2.2)]) (O := fun s g => [(8, some (g.1, ⟨false, true, 3, 27, [.agg [.int .i64 0, .nils, .nils]]⟩)), (9, some (g.2.1, ⟨false, true, 3, 27, [.agg [.int .i64 x_x5, .sl (f17.map eSlot), .nils]]⟩)), (10, some (g.2.2, ⟨false, false, 5, 52, s.2.2.1.map eInstr⟩)), (8192, some (0, ⟨false, true, 2, 80, [.agg [.sl (s.1.map eU8), .int .i64 s.2.1]]⟩))]) (body := fun s => draw_Codes_function_b4 x_x5 f17 s.1 s.2.1 s.2.2.1 s.2.2.2) (s := (c23, c24, code16 ++ ([(TInstr.mk end25 0 0 0 end26)] : List TInstr), 0)) (_, _, _) ((has_exact ⟨rfl, rfl, rfl, rfl, rfl, trivial⟩ ⟨rfl, rfl, rfl, rfl, trivial⟩)) ?_
        rintro ⟨c29, c30, code31, k32⟩ ⟨v8, v9, v10⟩ nn
        show Tr _ _ _ ⟨[(0, .optr 8192 0 0 0), (8, .optr 8 v8 0 0), (9, .optr 9 v9 0 0), (10, .osl 10 v10 0 code31.length), (14, .int .i64 k32)], [(8, some (v8, ⟨false, true, 3, 27, [.agg [.int .i64 0, .nils, .nils]]⟩)), (9, some (v9, ⟨false, true, 3, 27, [.agg [.int .i64 x_x5, .sl (f17.map eSlot), .nils]]⟩)), (10, some (v10, ⟨false, false, 5, 52, code31.map eInstr⟩)), (8192, some (0, ⟨false, true, 2, 80, [.agg [.sl (c29.map eU8), .int .i64 c30]]⟩))], _⟩ (draw_Codes_function_b4 x_x5 f17 c29 c30 code31 k32)
        unfold draw_Codes_function_b4
        refine tr_seq ?_
        refine tr_seq ?_
        refine tr_reg ?_
        refine trO_mv rfl rfl ?_
        refine trO_mv rfl rfl ?_
        refine trO_len_own rfl rfl ?_
        refine trO_bin (v := .bool (decide (k32 < (code31.length : Int)))) rfl rfl rfl rfl rfl ?_
        refine trO_nil ?_
        refine trX_seq ?_
        refine tr_cond (c := (decide (k32 < (code31.length : Int)))) rfl ?_ ?_
        ·
          refine tr_skip ?_
          refine trX_seq ?_
          refine tr_seq ?_
          refine tr_block ?_
          refine tr_seq ?_
          refine tr_reg ?_
          refine trO_mv rfl rfl ?_
          refine trO_mv rfl rfl ?_
          refine trO_bind fun r33 hr33 => ?_
          refine trO_call_val ((Tdraw_Codes.mk c29 c30), 8) rfl rfl rfl draw_Codes_Next_de rfl rfl (by simp) rfl hr33 ?_
          refine trO_bin (v := .int .i64 (IntKind.i64.wrap (k32 + r33.1))) rfl rfl rfl rfl rfl ?_
          refine trO_bin (v := .int .i64 (IntKind.i64.wrap ((IntKind.i64.wrap (k32 + r33.1)) - 2))) rfl rfl rfl rfl rfl ?_
          refine trO_asg rfl rfl ?_
          refine trO_nil ?_
          refine trX_seq ?_
          refine tr_seq_cut (E := fun (s : Int) (g : Nat × Nat × Nat) => [(0, .optr 8192 0 0 0), (8, .optr 8 g.1 0 0), (9, .optr 9 g.2.1 0 0), (10, .osl 10 g.2.2 0 code31.length), (14, .int .i64 k32), (15, .int .i64 s)]) (O := fun s g => [(8, some (g.1, ⟨false, true, 3, 27, [.agg [.int .i64 0, .nils, .nils]]⟩)), (9, some (g.2.1, ⟨false, true, 3, 27, [.agg [.int .i64 x_x5, .sl (f17.map eSlot), .nils]]⟩)), (10, some (g.2.2, ⟨false, false, 5, 52, code31.map eInstr⟩)), (8192, some (0, ⟨false, true, 2, 80, [.agg [.sl (r33.2.list.map eU8), .int .i64 r33.2.at_]]⟩))]) (j := fun s => draw_Codes_function_j5 k32 code31 r33 s) ?_ ?_
          ·
            refine tr_seq ?_
            refine tr_reg ?_
            refine trO_mv rfl rfl ?_
            refine trO_bin (v := .bool (decide ((IntKind.i64.wrap ((IntKind.i64.wrap (k32 + r33.1)) - 2)) < 0))) rfl rfl rfl rfl rfl ?_
            refine trO_mv rfl rfl ?_
            refine trO_split 98 (b := (decide ((IntKind.i64.wrap ((IntKind.i64.wrap (k32 + r33.1)) - 2)) < 0))) rfl ?_ ?_
            ·
              refine trO_off rfl ?_
              refine trO_off rfl ?_
              refine trO_off rfl ?_
              refine trO_off rfl ?_
              refine trO_pick_true rfl rfl rfl rfl ?_
              refine trO_nil ?_
              refine trX_seq ?_
              refine tr_cond_true rfl ?_
              refine tr_reg ?_
              refine trO_mv rfl rfl ?_
              refine trO_len_own rfl rfl ?_
              refine trO_bin (v := .int .i64 (IntKind.i64.wrap ((code31.length : Int) - 1))) rfl rfl rfl rfl rfl ?_
              refine trO_asg rfl rfl ?_
              refine trO_nil ?_
              exact trX_cut (s := IntKind.i64.wrap ((code31.length : Int) - 1)) (_, _, _) ((has_exact ⟨rfl, rfl, rfl, rfl, rfl, rfl, trivial⟩ ⟨rfl, rfl, rfl, rfl, trivial⟩))
            ·
              refine trO_mv rfl rfl ?_
              refine trO_mv rfl rfl ?_
              refine trO_len_own rfl rfl ?_
              refine trO_bin (v := .bool (decide ((IntKind.i64.wrap ((IntKind.i64.wrap (k32 + r33.1)) - 2)) ≥ (code31.length : Int)))) rfl rfl rfl rfl rfl ?_
              refine trO_pick_false rfl rfl rfl rfl ?_
              refine trO_nil ?_
              refine trX_seq ?_
              refine tr_cond (c := (decide ((IntKind.i64.wrap ((IntKind.i64.wrap (k32 + r33.1)) - 2)) ≥ (code31.length : Int)))) rfl ?_ ?_
              ·
                refine tr_reg ?_
                refine trO_mv rfl rfl ?_
                refine trO_len_own rfl rfl ?_
                refine trO_bin (v := .int .i64 (IntKind.i64.wrap ((code31.length : Int) - 1))) rfl rfl rfl rfl rfl ?_
                refine trO_asg rfl rfl ?_
                refine trO_nil ?_
                exact trX_cut (s := IntKind.i64.wrap ((code31.length : Int) - 1)) (_, _, _) ((has_exact ⟨rfl, rfl, rfl, rfl, rfl, rfl, trivial⟩ ⟨rfl, rfl, rfl, rfl, trivial⟩))
              ·
                refine tr_skip ?_
                exact trX_cut (s := IntKind.i64.wrap ((IntKind.i64.wrap (k32 + r33.1)) - 2)) (_, _, _) ((has_exact ⟨rfl, rfl, rfl, rfl, rfl, rfl, trivial⟩ ⟨rfl, rfl, rfl, rfl, trivial⟩))
          ·
            rintro to34 ⟨v8, v9, v10⟩ nn
            show Tr _ _ _ ⟨[(0, .optr 8192 0 0 0), (8, .optr 8 v8 0 0), (9, .optr 9 v9 0 0), (10, .osl 10 v10 0 code31.length), (14, .int .i64 k32), (15, .int .i64 to34)], [(8, some (v8, ⟨false, true, 3, 27, [.agg [.int .i64 0, .nils, .nils]]⟩)), (9, some (v9, ⟨false, true, 3, 27, [.agg [.int .i64 x_x5, .sl (f17.map eSlot), .nils]]⟩)), (10, some (v10, ⟨false, false, 5, 52, code31.map eInstr⟩)), (8192, some (0, ⟨false, true, 2, 80, [.agg [.sl (r33.2.list.map eU8), .int .i64 r33.2.at_]]⟩))], _⟩ (draw_Codes_function_j5 k32 code31 r33 to34)
            unfold draw_Codes_function_j5
            refine tr_block ?_
            refine tr_seq_cut (E := fun (s : Bool) (g : Nat × Nat × Nat) => [(0, .optr 8192 0 0 0), (8, .optr 8 g.1 0 0), (9, .optr 9 g.2.1 0 0), (10, .osl 10 g.2.2 0 code31.length), (14, .int .i64 k32), (15, .int .i64 to34), (107, .bool s)]) (O := fun s g => [(8, some (g.1, ⟨false, true, 3, 27, [.agg [.int .i64 0, .nils, .nils]]⟩)), (9, some (g.2.1, ⟨false, true, 3, 27, [.agg [.int .i64 x_x5, .sl (f17.map eSlot), .nils]]⟩)), (10, some (g.2.2, ⟨false, false, 5, 52, code31.map eInstr⟩)), (8192, some (0, ⟨false, true, 2, 80, [.agg [.sl (r33.2.list.map eU8), .int .i64 r33.2.at_]]⟩))]) (j := fun s => draw_Codes_function_j6 k32 code31 r33 to34 s) ?_ ?_
            ·
              refine tr_reg ?_
              refine trO_mv rfl rfl ?_
              refine trO_mv rfl rfl ?_
              refine trO_chk fun hq => ?_
              refine trO_ixA_own (l := code31) (en := eInstr) rfl rfl rfl rfl rfl hq ?_
              refine trO_fldA rfl rfl ?_
              refine trO_bind fun code_e36 hcode_e36 => ?_
              refine trO_ld_obj (v := .int .i64 code_e36.Op) (z := eInstr code_e36) rfl rfl rfl (map_get hcode_e36) rfl rfl ?_
              refine trO_bin (v := .bool (code_e36.Op == 20)) rfl rfl rfl rfl rfl ?_
              refine trO_mv rfl rfl ?_
              refine trO_split 114 (b := (code_e36.Op == 20)) rfl ?_ ?_
              ·
                refine trO_mv rfl rfl ?_
                refine trO_mv rfl rfl ?_
                refine trO_chk fun hq => ?_
                refine trO_ixA_own (l := code31) (en := eInstr) rfl rfl rfl rfl rfl hq ?_
                refine trO_fldA rfl rfl ?_
                refine trO_bind fun code_e37 hcode_e37 => ?_
                refine trO_ld_obj (v := .int .i64 code_e37.A) (z := eInstr code_e37) rfl rfl rfl (map_get hcode_e37) rfl rfl ?_
                refine trO_bin (v := .bool (decide (code_e37.A < 0))) rfl rfl rfl rfl rfl ?_
                refine trO_pick_true rfl rfl rfl rfl ?_
                refine trO_asg rfl rfl ?_
                refine trO_nil ?_
                exact trX_cut (s := (decide (code_e37.A < 0))) (_, _, _) ((has_exact ⟨rfl, rfl, rfl, rfl, rfl, rfl, rfl, trivial⟩ ⟨rfl, rfl, rfl, rfl, trivial⟩))
              ·
                refine trO_off rfl ?_
                refine trO_off rfl ?_
                refine trO_off rfl ?_
                refine trO_off rfl ?_
                refine trO_off rfl ?_
                refine trO_off rfl ?_
                refine trO_pick_false rfl rfl rfl rfl ?_
                refine trO_asg rfl rfl ?_
                refine trO_nil ?_
                exact trX_cut (s := false) (_, _, _) ((has_exact ⟨rfl, rfl, rfl, rfl, rfl, rfl, rfl, trivial⟩ ⟨rfl, rfl, rfl, rfl, trivial⟩))
            ·
              rintro x35 ⟨v8, v9, v10⟩ nn
              show Tr _ _ _ ⟨[(0, .optr 8192 0 0 0), (8, .optr 8 v8 0 0), (9, .optr 9 v9 0 0), (10, .osl 10 v10 0 code31.length), (14, .int .i64 k32), (15, .int .i64 to34), (107, .bool x35)], [(8, some (v8, ⟨false, true, 3, 27, [.agg [.int .i64 0, .nils, .nils]]⟩)), (9, some (v9, ⟨false, true, 3, 27, [.agg [.int .i64 x_x5, .sl (f17.map eSlot), .nils]]⟩)), (10, some (v10, ⟨false, false, 5, 52, code31.map eInstr⟩)), (8192, some (0, ⟨false, true, 2, 80, [.agg [.sl (r33.2.list.map eU8), .int .i64 r33.2.at_]]⟩))], _⟩ (draw_Codes_function_j6 k32 code31 r33 to34 x35)
              unfold draw_Codes_function_j6
              refine tr_cond (c := x35) rfl ?_ ?_
              ·
                refine tr_reg ?_
                refine trO_mv rfl rfl ?_
                refine trO_mv rfl rfl ?_
                refine trO_mv rfl rfl ?_
                refine trO_chk fun hq => ?_
                refine trO_ixA_own (l := code31) (en := eInstr) rfl rfl rfl rfl rfl hq ?_
                refine trO_fldA rfl rfl ?_
                refine trO_bind fun code_o38 hcode_o38 => ?_
                refine trO_st_elem (l := code31) (en := eInstr) (q' := (TInstr.mk code_o38.Op to34 code_o38.B code_o38.C code_o38.Imm)) rfl rfl rfl rfl rfl rfl rfl (by simp) hcode_o38 rfl rfl rfl rfl rfl ?_
                refine trO_nil ?_
                refine trX_blk_normal ?_
                refine trX_blk_normal ?_
                refine trX_seq ?_
                refine tr_reg ?_
                refine trO_mv rfl rfl ?_
                refine trO_bin (v := .int .i64 (IntKind.i64.wrap (k32 + 1))) rfl rfl rfl rfl rfl ?_
                refine trO_asg rfl rfl ?_
                refine trO_nil ?_
                exact trX_loop (s := (r33.2.list, r33.2.at_, code31.set k32.toNat (TInstr.mk code_o38.Op to34 code_o38.B code_o38.C code_o38.Imm), IntKind.i64.wrap (k32 + 1))) (_, _, _) ((has_exact ⟨rfl, rfl, rfl, (osl_len (q := code31.length) rfl (by simp)), rfl, trivial⟩ ⟨rfl, rfl, rfl, rfl, trivial⟩))
              ·
                refine tr_seq ?_
                refine tr_reg ?_
                refine trO_mv rfl rfl ?_
                refine trO_mv rfl rfl ?_
                refine trO_chk fun hq => ?_
                refine trO_ixA_own (l := code31) (en := eInstr) rfl rfl rfl rfl rfl hq ?_
                refine trO_fldA rfl rfl ?_
                refine trO_bind fun code_e39 hcode_e39 => ?_
                refine trO_ld_obj (v := .int .i64 code_e39.Op) (z := eInstr code_e39) rfl rfl rfl (map_get hcode_e39) rfl rfl ?_
                refine trO_bin (v := .bool (code_e39.Op == 21)) rfl rfl rfl rfl rfl ?_
                refine trO_mv rfl rfl ?_
                refine trO_split 134 (b := (code_e39.Op == 21)) rfl ?_ ?_
                ·
                  refine trO_mv rfl rfl ?_
                  refine trO_mv rfl rfl ?_
                  refine trO_chk fun hq => ?_
                  refine trO_ixA_own (l := code31) (en := eInstr) rfl rfl rfl rfl rfl hq ?_
                  refine trO_fldA rfl rfl ?_
                  refine trO_bind fun code_e40 hcode_e40 => ?_
                  refine trO_ld_obj (v := .int .i64 code_e40.B) (z := eInstr code_e40) rfl rfl rfl (map_get hcode_e40) rfl rfl ?_
                  refine trO_bin (v := .bool (decide (code_e40.B < 0))) rfl rfl rfl rfl rfl ?_
                  refine trO_pick_true rfl rfl rfl rfl ?_
                  refine trO_asg rfl rfl ?_
                  refine trO_nil ?_
                  refine trX_seq ?_
                  refine tr_cond (c := (decide (code_e40.B < 0))) rfl ?_ ?_
                  ·
                    refine tr_reg ?_
                    refine trO_mv rfl rfl ?_
                    refine trO_mv rfl rfl ?_
                    refine trO_mv rfl rfl ?_
                    refine trO_chk fun hq => ?_
                    refine trO_ixA_own (l := code31) (en := eInstr) rfl rfl rfl rfl rfl hq ?_
                    refine trO_fldA rfl rfl ?_
                    refine trO_bind fun code_o41 hcode_o41 => ?_
                    refine trO_st_elem (l := code31) (en := eInstr) (q' := (TInstr.mk code_o41.Op code_o41.A to34 code_o41.C code_o41.Imm)) rfl rfl rfl rfl rfl rfl rfl (by simp) hcode_o41 rfl rfl rfl rfl rfl ?_
                    refine trO_nil ?_
                    refine trX_blk_normal ?_
                    refine trX_blk_normal ?_
                    refine trX_seq ?_
                    refine tr_reg ?_
                    refine trO_mv rfl rfl ?_
                    refine trO_bin (v := .int .i64 (IntKind.i64.wrap (k32 + 1))) rfl rfl rfl rfl rfl ?_
                    refine trO_asg rfl rfl ?_
                    refine trO_nil ?_
                    exact trX_loop (s := (r33.2.list, r33.2.at_, code31.set k32.toNat (TInstr.mk code_o41.Op code_o41.A to34 code_o41.C code_o41.Imm), IntKind.i64.wrap (k32 + 1))) (_, _, _) ((has_exact ⟨rfl, rfl, rfl, (osl_len (q := code31.length) rfl (by simp)), rfl, trivial⟩ ⟨rfl, rfl, rfl, rfl, trivial⟩))
                  ·
                    refine tr_skip ?_
                    refine trX_blk_normal ?_
                    refine trX_blk_normal ?_
                    refine trX_seq ?_
                    refine tr_reg ?_
                    refine trO_mv rfl rfl ?_
                    refine trO_bin (v := .int .i64 (IntKind.i64.wrap (k32 + 1))) rfl rfl rfl rfl rfl ?_
                    refine trO_asg rfl rfl ?_
                    refine trO_nil ?_
                    exact trX_loop (s := (r33.2.list, r33.2.at_, code31, IntKind.i64.wrap (k32 + 1))) (_, _, _) ((has_exact ⟨rfl, rfl, rfl, rfl, rfl, trivial⟩ ⟨rfl, rfl, rfl, rfl, trivial⟩))
                ·
                  refine trO_off rfl ?_
                  refine trO_off rfl ?_
                  refine trO_off rfl ?_
                  refine trO_off rfl ?_
                  refine trO_off rfl ?_
                  refine trO_off rfl ?_
                  refine trO_pick_false rfl rfl rfl rfl ?_
                  refine trO_asg rfl rfl ?_
                  refine trO_nil ?_
                  refine trX_seq ?_
                  refine tr_cond_false rfl ?_
                  refine tr_skip ?_
                  refine trX_blk_normal ?_
                  refine trX_blk_normal ?_
                  refine trX_seq ?_
                  refine tr_reg ?_
                  refine trO_mv rfl rfl ?_
                  refine trO_bin (v := .int .i64 (IntKind.i64.wrap (k32 + 1))) rfl rfl rfl rfl rfl ?_
                  refine trO_asg rfl rfl ?_
                  refine trO_nil ?_
                  exact trX_loop (s := (r33.2.list, r33.2.at_, code31, IntKind.i64.wrap (k32 + 1))) (_, _, _) ((has_exact ⟨rfl, rfl, rfl, rfl, rfl, trivial⟩ ⟨rfl, rfl, rfl, rfl, trivial⟩))
        ·
          refine tr_exit ?_
          refine trX_seq_exit ?_
          refine trX_loop_exit ?_
          refine trX_blk_here ?_
          refine trX_seq ?_
          refine tr_seq ?_
          refine tr_reg ?_
          refine trO_mv rfl rfl ?_
          refine trO_fldA rfl rfl ?_
          refine trO_st_var (z' := .agg [.int .i64 x_x5, .sl (f17.map eSlot), .osl 10 _ 0 code31.length]) rfl rfl rfl rfl rfl rfl rfl rfl rfl ?_
          refine trO_nil ?_
          refine trX_seq ?_
          refine tr_seq ?_
          refine tr_reg ?_
          refine trO_ld_obj (v := .agg [.int .i64 x_x5, .sl (f17.map eSlot), .osl 10 _ 0 code31.length]) (z := .agg [.int .i64 x_x5, .sl (f17.map eSlot), .osl 10 _ 0 code31.length]) rfl rfl rfl rfl rfl rfl ?_
          refine trO_st_var (z' := .agg [.int .i64 x_x5, .sl (f17.map eSlot), .osl 10 _ 0 code31.length]) rfl rfl rfl rfl rfl rfl rfl rfl rfl ?_
          refine trO_nil ?_
          refine trX_seq ?_
          refine tr_ret ?_
          exact ret_val (b := ((TFunc.mk x_x5 f17 code31), (Tdraw_Codes.mk c29 c30))) rfl (by first | (simp; done) | (simp; omega)) rfl rfl (by first | (simp; done) | (simp; omega)) (by first | rfl | (simp only [take_drop0_map, take_sub_map]; rfl) | simp [draw_Codes_function_R, eFunc])

def dc38 : DCode := (.seq (.reg [⟨(some 6), (.new (.agg [.nils]) 1 56), none, []⟩] false) (.seq (.reg [⟨(some 12), (.bldS 1 3 (.int .i64 0) 1 [⟨0, (.c (.int .i64 0))⟩]), none, []⟩, ⟨(some 7), (.asg (.t 12) (some ⟨1, 3⟩)), none, []⟩] false) (.seq (.seq (.reg [⟨(some 13), (.mv (.t 0)), none, []⟩, ⟨(some 14), (.mv (.t 1)), none, []⟩, ⟨(some 15), (.call (.c (.clo 39 [])) [(.t 13), (.t 14)]), none, []⟩, ⟨(some 8), (.asg (.t 15) none), none, []⟩] false) (.block 0 (.loop (.seq (.seq (.reg [⟨(some 16), (.mv (.t 8)), none, []⟩, ⟨(some 17), (.bin .gtr (.t 16) (.c (.int .i64 0))), none, []⟩] false) (.cond (.t 17) .skip (.exit 0))) (.seq (.block 1 (.reg [⟨(some 20), (.mv (.t 7)), none, []⟩, ⟨(some 21), (.mv (.t 0)), none, []⟩, ⟨(some 22), (.call (.c (.clo 39 [])) [(.t 21), (.c (.int .i64 4))]), none, []⟩, ⟨(some 23), (.bldS 1 3 (.int .i64 0) 1 [⟨0, (.t 22)⟩]), none, []⟩, ⟨(some 24), (.app 1 3 8 (.t 20) (.t 23)), none, []⟩, ⟨(some 7), (.asg (.t 24) (some ⟨1, 3⟩)), none, []⟩] false)) (.reg [⟨(some 18), (.mv (.t 8)), none, []⟩, ⟨(some 19), (.bin .sub (.t 18) (.c (.int .i64 1))), none, []⟩, ⟨(some 8), (.asg (.t 19) none), none, []⟩] false)))))) (.seq (.reg [⟨(some 9), (.new (.agg [.nils]) 1 56), none, []⟩] false) (.seq (.seq (.reg [⟨(some 10), (.asg (.c (.int .i64 0)) none), none, []⟩] false) (.block 2 (.loop (.seq (.seq (.reg [⟨(some 25), (.mv (.t 10)), none, []⟩, ⟨(some 26), (.mv (.t 7)), none, []⟩, ⟨(some 27), (.len false (.t 26)), none, []⟩, ⟨(some 28), (.bin .lss (.t 25) (.t 27)), none, []⟩] false) (.cond (.t 28) .skip (.exit 2))) (.seq (.block 3 (.seq (.reg [⟨(some 31), (.fldA 0 (.t 9)), none, []⟩, ⟨(some 32), (.ld 1 false (.t 31)), none, []⟩, ⟨(some 33), (.app 3 27 56 (.c .nils) (.t 32)), none, []⟩, ⟨(some 34), (.mv (.t 0)), none, []⟩, ⟨(some 35), (.mv (.t 10)), none, []⟩, ⟨(some 36), (.mv (.t 7)), none, []⟩, ⟨(some 37), (.mv (.t 2)), none, []⟩, ⟨(some 38), (.call (.c (.clo 55 [])) [(.t 34), (.t 35), (.t 36), (.t 37)]), none, []⟩, ⟨(some 39), (.bldS 3 27 (.agg [(.int .i64 0), (.sl []), (.sl [])]) 1 [⟨0, (.t 38)⟩]), none, []⟩, ⟨(some 40), (.app 3 27 56 (.t 33) (.t 39)), none, []⟩, ⟨(some 11), (.asg (.t 40) (some ⟨3, 27⟩)), none, []⟩] false) (.reg [⟨(some 41), (.mv (.t 11)), none, []⟩, ⟨(some 42), (.fldA 0 (.t 9)), none, []⟩, ⟨none, (.st 1 (.t 42) (.t 41)), none, []⟩] false))) (.reg [⟨(some 29), (.mv (.t 10)), none, []⟩, ⟨(some 30), (.bin .add (.t 29) (.c (.int .i64 1))), none, []⟩, ⟨(some 10), (.asg (.t 30) none), none, []⟩] false)))))) (.seq (.reg [⟨(some 43), (.ld 1 true (.t 9)), none, []⟩, ⟨none, (.st 1 (.t 6) (.t 43)), none, []⟩] false) .ret))))))
theorem dc38_c : (Try.f38.body.bind (cCode Try.prog Try.f38.ntmps)) = some dc38 := by kernel_rfl
theorem dc38_r : Try.f38.results.toList.mapM (cRes Try.prog) = some [(.c 6 1 true)] := by kernel_rfl
def draw_Codes_Program_enc (a : Tdraw_Codes × Int × Int) : List D := [edraw_Codes a.1, .int .i64 a.2.1, .int .i64 a.2.2]
def draw_Codes_Program_dec (ds : List D) : Tdraw_Codes × Int × Int := (udraw_Codes (ds.getD 0 .top), uI (ds.getD 1 .top), uI (ds.getD 2 .top))
theorem draw_Codes_Program_de (a : Tdraw_Codes × Int × Int) : draw_Codes_Program_dec (draw_Codes_Program_enc a) = a := by simp [draw_Codes_Program_dec, draw_Codes_Program_enc, uI, uBo, uS]
def draw_Codes_Program_R (b : TProgram × Tdraw_Codes) : D := eProgram b.1
def draw_Codes_Program_E (b : TProgram × Tdraw_Codes) : List D := [edraw_Codes b.2]
noncomputable def draw_Codes_Program_S : Dw.Spec := fSpec [(0, (2, 80))] .val draw_Codes_Program_enc draw_Codes_Program_dec (fun a => draw_Codes_Program a.1 a.2.1 a.2.2) draw_Codes_Program_R draw_Codes_Program_E
set_option maxHeartbeats 4000000 in
theorem draw_Codes_Program_ok : SpecOk Try.prog 38 draw_Codes_Program_S := by
  refine fn_ok (specs_ok (l := [(39, draw_Codes_Next_S), (55, draw_Codes_function_S)]) (by simp [draw_Codes_Next_ok, draw_Codes_function_ok])) Try.func38 (by decide) dc38_c dc38_r (np := 3) (by decide) draw_Codes_Program_de (fun _ => rfl) (fun _ => rfl) (by decide) ?_
  rintro ⟨c1, funcs2, most3⟩
  show TrE (specs [(39, draw_Codes_Next_S), (55, draw_Codes_function_S)]) dc38 (kRet [(0, (2, 80))] .val [(.c 6 1 true)] draw_Codes_Program_R draw_Codes_Program_E) ⟨[(0, .optr 8192 0 0 0), (1, .int .i64 funcs2), (2, .int .i64 most3)], [(8192, some (0, ⟨false, true, 2, 80, [.agg [.sl (c1.list.map eU8), .int .i64 c1.at_]]⟩))], 262144⟩ (draw_Codes_Program c1 funcs2 most3)
  refine tr_ent ?_
  unfold dc38 draw_Codes_Program
  refine tr_seq ?_
  refine tr_reg ?_
  refine trO_new rfl ?_
  refine trO_nil ?_
  refine trX_seq ?_
  refine tr_seq ?_
  refine tr_reg ?_
  refine trO_bldS ([0] : List Int) eI64 rfl rfl rfl (by simp) rfl rfl rfl ?_
  refine trO_asg_own (l := ([0] : List Int)) (en := eI64) rfl rfl rfl rfl ?_
  refine trO_nil ?_
  refine trX_seq ?_
  refine tr_seq ?_
  refine tr_seq ?_
  refine tr_reg ?_
  refine trO_mv rfl rfl ?_
  refine trO_mv rfl rfl ?_
  refine trO_bind fun r4 hr4 => ?_
  refine trO_call_val (c1, funcs2) rfl rfl rfl draw_Codes_Next_de rfl rfl (by simp) rfl hr4 ?_
  refine trO_asg rfl rfl ?_
  refine trO_nil ?_
  refine trX_seq ?_
  refine tr_block ?_
  refine tr_loop (E := fun (s : (List Int) × Int × (List Int) × Int) (g : Nat × Nat) => [(0, .optr 8192 0 0 0), (2, .int .i64 most3), (6, .optr 6 g.1 0 0), (7, .osl 7 g.2 0 s.2.2.1.length), (8, .int .i64 s.2.2.2)]) (O := fun s g => [(6, some (g.1, ⟨false, true, 1, 56, [.agg [.nils]]⟩)), (7, some (g.2, ⟨false, false, 1, 3, s.2.2.1.map eI64⟩)), (8192, some (0, ⟨false, true, 2, 80, [.agg [.sl (s.1.map eU8), .int .i64 s.2.1]]⟩))]) (body := fun s => draw_Codes_Program_b1 most3 s.1 s.2.1 s.2.2.1 s.2.2.2) (s := (r4.2.list, r4.2.at_, ([0] : List Int), r4.1)) (_, _) ((has_exact ⟨rfl, rfl, rfl, rfl, rfl, trivial⟩ ⟨rfl, rfl, rfl, trivial⟩)) ?_
  rintro ⟨c5, c6, params7, n8⟩ ⟨v6, v7⟩ nn
  show Tr _ _ _ ⟨[(0, .optr 8192 0 0 0), (2, .int .i64 most3), (6, .optr 6 v6 0 0), (7, .osl 7 v7 0 params7.length), (8, .int .i64 n8)], [(6, some (v6, ⟨false, true, 1, 56, [.agg [.nils]]⟩)), (7, some (v7, ⟨false, false, 1, 3, params7.map eI64⟩)), (8192, some (0, ⟨false, true, 2, 80, [.agg [.sl (c5.map eU8), .int .i64 c6]]⟩))], _⟩ (draw_Codes_Program_b1 most3 c5 c6 params7 n8)
  unfold draw_Codes_Program_b1
  refine tr_seq ?_
  refine tr_seq ?_
  refine tr_reg ?_
  refine trO_mv rfl rfl ?_
  refine trO_bin (v := .bool (decide (n8 > 0))) rfl rfl rfl rfl rfl ?_
  refine trO_nil ?_
  refine trX_seq ?_
  refine tr_cond (c := (decide (n8 > 0))) rfl ?_ ?_
  ·
    refine tr_skip ?_
    refine trX_seq ?_
    refine tr_seq ?_
    refine tr_block ?_
    refine tr_reg ?_
    refine trO_mv rfl rfl ?_
    refine trO_mv rfl rfl ?_
    refine trO_bind fun r9 hr9 => ?_
    refine trO_call_val ((Tdraw_Codes.mk c5 c6), 4) rfl rfl rfl draw_Codes_Next_de rfl rfl (by simp) rfl hr9 ?_
    refine trO_bldS ([r9.1] : List Int) eI64 rfl rfl rfl (by simp) rfl rfl rfl ?_
    refine trO_chk fun hq => ?_
    refine trO_app (params7) (([r9.1] : List Int)) eI64 rfl rfl rfl rfl rfl rfl rfl (by simp) (take_drop0_map' _ _ rfl) rfl rfl (by simp) (take_len_map' _ _ rfl) (fun _ => rfl) rfl hq ?_
    refine trO_asg_own (l := params7 ++ ([r9.1] : List Int)) (en := eI64) rfl rfl rfl rfl ?_
    refine trO_nil ?_
    refine trX_blk_normal ?_
    refine trX_seq ?_
    refine tr_reg ?_
    refine trO_mv rfl rfl ?_
    refine trO_bin (v := .int .i64 (IntKind.i64.wrap (n8 - 1))) rfl rfl rfl rfl rfl ?_
    refine trO_asg rfl rfl ?_
    refine trO_nil ?_
    exact trX_loop (s := (r9.2.list, r9.2.at_, params7 ++ ([r9.1] : List Int), IntKind.i64.wrap (n8 - 1))) (_, _) ((has_exact ⟨rfl, rfl, rfl, rfl, rfl, trivial⟩ ⟨rfl, rfl, rfl, trivial⟩))
  ·
    refine tr_exit ?_
    refine trX_seq_exit ?_
    refine trX_loop_exit ?_
    refine trX_blk_here ?_
    refine trX_seq ?_
    refine tr_seq ?_
    refine tr_reg ?_
    refine trO_new rfl ?_
    refine trO_nil ?_
    refine trX_seq ?_
    refine tr_seq ?_
    refine tr_seq ?_
    refine tr_reg ?_
    refine trO_asg rfl rfl ?_
    refine trO_nil ?_
    refine trX_seq ?_
    refine tr_block ?_
    refine tr_loop (E := fun (s : (List Int) × Int × (List TFunc) × Int × (List Int)) (g : Nat × Nat) => [(0, .optr 8192 0 0 0), (2, .int .i64 most3), (6, .optr 6 g.1 0 0), (7, .sl (s.2.2.2.2.map eI64)), (9, .optr 9 g.2 0 0), (10, .int .i64 s.2.2.2.1)]) (O := fun s g => [(6, some (g.1, ⟨false, true, 1, 56, [.agg [.nils]]⟩)), (9, some (g.2, ⟨false, true, 1, 56, [.agg [.sl (s.2.2.1.map eFunc)]]⟩)), (8192, some (0, ⟨false, true, 2, 80, [.agg [.sl (s.1.map eU8), .int .i64 s.2.1]]⟩))]) (body := fun s => draw_Codes_Program_b2 most3 s.1 s.2.1 s.2.2.1 s.2.2.2.1 s.2.2.2.2) (s := (c5, c6, [], 0, params7)) (_, _) ((has_conv [(7, some (_, ⟨true, false, 1, 3, params7.map eI64⟩))] ⟨⟨_, _, rfl, rfl, rfl⟩, trivial⟩ ⟨(conv_same rfl), (conv_same rfl), (conv_same rfl), (conv_cell (convC_own (l := params7) (en := eI64) rfl rfl rfl (by simp))), (conv_same rfl), (conv_same rfl), trivial⟩ ⟨(.inl rfl), (.inr ⟨_, _, _, _, rfl, rfl, rfl, rfl, conv_agg rfl ⟨(convC_nil eFunc rfl), trivial⟩⟩), (.inl rfl), trivial⟩)) ?_
    rintro ⟨c10, c11, p12, i13, params14⟩ ⟨v6, v9⟩ nn
    show Tr _ _ _ ⟨[(0, .optr 8192 0 0 0), (2, .int .i64 most3), (6, .optr 6 v6 0 0), (7, .sl (params14.map eI64)), (9, .optr 9 v9 0 0), (10, .int .i64 i13)], [(6, some (v6, ⟨false, true, 1, 56, [.agg [.nils]]⟩)), (9, some (v9, ⟨false, true, 1, 56, [.agg [.sl (p12.map eFunc)]]⟩)), (8192, some (0, ⟨false, true, 2, 80, [.agg [.sl (c10.map eU8), .int .i64 c11]]⟩))], _⟩ (draw_Codes_Program_b2 most3 c10 c11 p12 i13 params14)
    unfold draw_Codes_Program_b2
    refine tr_seq ?_
    refine tr_seq ?_
    refine tr_reg ?_
    refine trO_mv rfl rfl ?_
    refine trO_mv rfl rfl ?_
    refine trO_len_sl rfl rfl ?_
    refine trO_bin (v := .bool (decide (i13 < (params14.length : Int)))) rfl rfl rfl rfl rfl ?_
    refine trO_nil ?_
    refine trX_seq ?_
    refine tr_cond (c := (decide (i13 < (params14.length : Int)))) rfl ?_ ?_
    ·
      refine tr_skip ?_
      refine trX_seq ?_
      refine tr_seq ?_
      refine tr_block ?_
      refine tr_seq ?_
      refine tr_reg ?_
      refine trO_fldA rfl rfl ?_
      refine trO_ld_obj (v := .sl (p12.map eFunc)) (z := .agg [.sl (p12.map eFunc)]) rfl rfl rfl rfl rfl rfl ?_
      refine trO_chk fun hq => ?_
      refine trO_app (([] : List TFunc)) (p12) eFunc rfl rfl rfl rfl rfl rfl rfl (by simp) rfl rfl rfl (by simp) rfl (fun _ => rfl) rfl hq ?_
      refine trO_mv rfl rfl ?_
      refine trO_mv rfl rfl ?_
      refine trO_mv rfl rfl ?_
      refine trO_mv rfl rfl ?_
      refine trO_bind fun r15 hr15 => ?_
      refine trO_call_val ((Tdraw_Codes.mk c10 c11), i13, params14, most3) rfl rfl rfl draw_Codes_function_de rfl rfl (by simp) rfl hr15 ?_
      refine trO_bldS ([r15.1] : List TFunc) eFunc rfl rfl rfl (by simp) rfl rfl rfl ?_
      refine trO_chk fun hq => ?_
      refine trO_app (([] : List TFunc) ++ p12) (([r15.1] : List TFunc)) eFunc rfl rfl rfl rfl rfl rfl rfl (by simp) (take_drop0_map' _ _ rfl) rfl rfl (by simp) (take_len_map' _ _ rfl) (fun _ => rfl) rfl hq ?_
      refine trO_asg_own (l := (([] : List TFunc) ++ p12) ++ ([r15.1] : List TFunc)) (en := eFunc) rfl rfl rfl rfl ?_
      refine trO_nil ?_
      refine trX_seq ?_
      refine tr_reg ?_
      refine trO_mv rfl rfl ?_
      refine trO_fldA rfl rfl ?_
      refine trO_st_var (z' := .agg [.osl 11 _ 0 (((([] : List TFunc) ++ p12) ++ ([r15.1] : List TFunc)).length)]) rfl rfl rfl rfl rfl rfl rfl rfl rfl ?_
      refine trO_nil ?_
      refine trX_blk_normal ?_
      refine trX_seq ?_
      refine tr_reg ?_
      refine trO_mv rfl rfl ?_
      refine trO_bin (v := .int .i64 (IntKind.i64.wrap (i13 + 1))) rfl rfl rfl rfl rfl ?_
      refine trO_asg rfl rfl ?_
      refine trO_nil ?_
      exact trX_loop (s := (r15.2.list, r15.2.at_, (([] : List TFunc) ++ p12) ++ ([r15.1] : List TFunc), IntKind.i64.wrap (i13 + 1), params14)) (_, _) ((has_conv [(11, some (_, ⟨true, false, 3, 27, ((([] : List TFunc) ++ p12) ++ ([r15.1] : List TFunc)).map eFunc⟩))] ⟨⟨_, _, rfl, rfl, rfl⟩, trivial⟩ ⟨(conv_same rfl), (conv_same rfl), (conv_same rfl), (conv_same rfl), (conv_same rfl), (conv_same rfl), trivial⟩ ⟨(.inl rfl), (.inr ⟨_, _, _, _, rfl, rfl, rfl, rfl, conv_agg rfl ⟨(convC_own (l := (([] : List TFunc) ++ p12) ++ ([r15.1] : List TFunc)) (en := eFunc) rfl rfl rfl (by simp)), trivial⟩⟩), (.inl rfl), trivial⟩))
    ·
      refine tr_exit ?_
      refine trX_seq_exit ?_
      refine trX_loop_exit ?_
      refine trX_blk_here ?_
      refine trX_seq ?_
      refine tr_seq ?_
      refine tr_reg ?_
      refine trO_ld_obj (v := .agg [.sl (p12.map eFunc)]) (z := .agg [.sl (p12.map eFunc)]) rfl rfl rfl rfl rfl rfl ?_
      refine trO_st_var (z' := .agg [.sl (p12.map eFunc)]) rfl rfl rfl rfl rfl rfl rfl rfl rfl ?_
      refine trO_nil ?_
      refine trX_seq ?_
      refine tr_ret ?_
      exact ret_val (b := ((TProgram.mk p12), (Tdraw_Codes.mk c10 c11))) rfl (by first | (simp; done) | (simp; omega)) rfl rfl (by first | (simp; done) | (simp; omega)) rfl

end Go.Proofs.Ytlphpepmbcbmiaa
