/-
  Programs on typed data, and the proofs that the code does what they say; written by a program (dx.py).
-/
import Derived.Test.YtlphpepmbcbmiaaProg
import Derived.Test.YtlphpepmbcbmiaaDx6
import Derived.Test.YtlphpepmbcbmiaaDy1
import Derived.KernelRfl
import Derived.Test.YtlphpepmbcbmiaaDxP
import Derived.Test.YtlphpepmbcbmiaaDxF1
import Derived.Test.YtlphpepmbcbmiaaDxF2
namespace Go.Proofs.Ytlphpepmbcbmiaa
open Go Go.Dw Go.Proofs
set_option maxRecDepth 100000
def dc13 : DCode := (.seq (.reg [⟨(some 2), (.new (.agg [(.int .i64 0), .nils, .nils]) 3 27), none, []⟩, ⟨(some 3), (.asg (.c .top) none), none, []⟩] false) (.seq (.reg [⟨(some 6), (.mv (.t 0)), none, []⟩, ⟨(some 7), (.call (.c (.clo 37 [])) [(.t 6), (.c (.int .i64 250))]), none, []⟩, ⟨(some 4), (.asg (.t 7) none), none, []⟩] false) (.seq (.reg [⟨(some 8), (.mv (.t 4)), none, []⟩, ⟨(some 9), (.call (.c (.clo 38 [])) [(.t 8), (.c (.int .i64 3)), (.c (.int .i64 16))]), none, []⟩, ⟨(some 5), (.new (.agg [.nils]) 1 56), none, []⟩, ⟨none, (.st 1 (.t 5) (.t 9)), none, []⟩] false) (.seq (.reg [⟨(some 10), (.fldA 0 (.t 5)), none, []⟩, ⟨(some 11), (.ld 1 false (.t 10)), none, [0]⟩, ⟨(some 12), (.mv (.t 4)), none, []⟩, ⟨(some 13), (.fldA 0 (.t 5)), none, []⟩, ⟨(some 14), (.ld 1 false (.t 13)), none, [3]⟩, ⟨(some 15), (.len false (.t 14)), none, [4]⟩, ⟨(some 16), (.call (.c (.clo 39 [])) [(.t 12), (.t 15)]), none, [2, 5]⟩, ⟨(some 17), (.ixA 3 (.t 11) (.t 16)), none, [1, 6]⟩, ⟨(some 18), (.ld 3 true (.t 17)), none, [7]⟩, ⟨(some 19), (.mv (.t 4)), none, []⟩, ⟨none, (.st 3 (.t 2) (.t 18)), none, [8, 6, 0, 1, 2, 3, 4, 5, 6, 7, 8]⟩, ⟨(some 3), (.asg (.t 19) none), none, [9, 10, 0, 1, 2, 3, 4, 5, 6, 7, 8, 9, 10]⟩] true) .ret))))
theorem dc13_c : (Try.f13.body.bind (cCode Try.prog Try.f13.ntmps)) = some dc13 := by kernel_rfl
theorem dc13_r : Try.f13.results.toList.mapM (cRes Try.prog) = some [(.c 2 3 true), (.t 3)] := by kernel_rfl
def law13_function_enc (a : (List Int)) : List D := [.sl (a.map eU8)]
def law13_function_dec (ds : List D) : (List Int) := (uL uI) (ds.getD 0 .top)
theorem law13_function_de (a : (List Int)) : law13_function_dec (law13_function_enc a) = a := by simp [law13_function_dec, law13_function_enc, uI, uBo, uS, uL_e (u := uI) (en := eU8) (fun _ => rfl)]
def law13_function_R (b : TFunc × Tdraw_Codes) : D := .tup [eFunc b.1, edraw_Codes b.2]
def law13_function_E (_b : TFunc × Tdraw_Codes) : List D := []
noncomputable def law13_function_S : Dw.Spec := fSpec [] (.tupPtr 1 2 80) law13_function_enc law13_function_dec (fun a => law13_function a) law13_function_R law13_function_E
set_option maxHeartbeats 4000000 in
theorem law13_function_ok : SpecOk Try.prog 13 law13_function_S := by
  refine fn_ok (specs_ok (l := [(37, draw_New_S), (38, draw_Codes_Program_S), (39, draw_Codes_Next_S)]) (by simp [draw_New_ok, draw_Codes_Program_ok, draw_Codes_Next_ok])) Try.func13 (by decide) dc13_c dc13_r (np := 1) (by decide) law13_function_de (fun _ => rfl) (fun _ => rfl) (by decide) ?_
  intro codes1
  show TrE (specs [(37, draw_New_S), (38, draw_Codes_Program_S), (39, draw_Codes_Next_S)]) dc13 (kRet [] (.tupPtr 1 2 80) [(.c 2 3 true), (.t 3)] law13_function_R law13_function_E) ⟨[(0, .sl (codes1.map eU8))], [], 262144⟩ (law13_function codes1)
  refine tr_ent ?_
  unfold dc13 law13_function
  refine tr_seq ?_
  refine tr_reg ?_
  refine trO_new rfl ?_
  refine trO_asg rfl rfl ?_
  refine trO_nil ?_
  refine trX_seq ?_
  refine tr_seq ?_
  refine tr_reg ?_
  refine trO_mv rfl rfl ?_
  refine trO_bind fun r2 hr2 => ?_
  refine trO_call_ptr (codes1, 250) rfl rfl rfl draw_New_de rfl rfl (by simp) rfl hr2 ?_
  refine trO_asg rfl rfl ?_
  refine trO_nil ?_
  refine trX_seq ?_
  refine tr_seq ?_
  refine tr_reg ?_
  refine trO_mv rfl rfl ?_
  refine trO_bind fun r3 hr3 => ?_
  refine trO_call_val (r2, 3, 16) rfl rfl rfl draw_Codes_Program_de rfl rfl (by simp) rfl hr3 ?_
  refine trO_new rfl ?_
  refine trO_st_var (z' := .agg [.sl (r3.1.Funcs.map eFunc)]) rfl rfl rfl rfl rfl rfl rfl rfl rfl ?_
  refine trO_nil ?_
  refine trX_seq ?_
  refine tr_seq ?_
  refine tr_reg ?_
  refine trO_fldA rfl rfl ?_
  refine trO_ld_obj (v := .sl (r3.1.Funcs.map eFunc)) (z := .agg [.sl (r3.1.Funcs.map eFunc)]) rfl rfl rfl rfl rfl rfl ?_
  refine trO_mv rfl rfl ?_
  refine trO_fldA rfl rfl ?_
  refine trO_ld_obj (v := .sl (r3.1.Funcs.map eFunc)) (z := .agg [.sl (r3.1.Funcs.map eFunc)]) rfl rfl rfl rfl rfl rfl ?_
  refine trO_len_sl rfl rfl ?_
  refine trO_bind fun r4 hr4 => ?_
  refine trO_call_val (r3.2, (r3.1.Funcs.length : Int)) rfl rfl rfl draw_Codes_Next_de rfl rfl (by simp) rfl hr4 ?_
  refine trO_bind fun x_x5 hx_x5 => ?_
  refine trO_ixA_sl (en := eFunc) rfl rfl rfl hx_x5 rfl ?_
  refine trO_ld_f (v := .agg [.int .i64 x_x5.Params, .sl (x_x5.Slots.map eSlot), .sl (x_x5.Code.map eInstr)]) rfl rfl rfl rfl ?_
  refine trO_mv rfl rfl ?_
  refine trO_st_var (z' := .agg [.int .i64 x_x5.Params, .sl (x_x5.Slots.map eSlot), .sl (x_x5.Code.map eInstr)]) rfl rfl rfl rfl rfl rfl rfl rfl rfl ?_
  refine trO_asg rfl rfl ?_
  refine trO_nil_draw (by kernel_rfl) ?_
  refine trX_seq ?_
  refine tr_ret ?_
  exact ret_tupPtr (b := (x_x5, r4.2)) (by decide) (by decide) rfl (by first | (simp; done) | (simp; omega)) rfl (by first | (simp; done) | (simp; omega)) rfl (by first | (simp; done) | (simp; omega)) rfl (by first | (simp; done) | (simp; omega)) rfl rfl (by first | (simp; done) | (simp; omega)) rfl

def dc14 : DCode := (.seq (.reg [⟨(some 4), (.asg (.c (.bool false)) none), none, []⟩] false) (.seq (.seq (.reg [⟨(some 6), (.mv (.t 0)), none, []⟩, ⟨(some 7), (.len false (.t 6)), none, []⟩, ⟨(some 8), (.mv (.t 1)), none, []⟩, ⟨(some 9), (.len false (.t 8)), none, []⟩, ⟨(some 10), (.bin .neq (.t 7) (.t 9)), none, []⟩] false) (.cond (.t 10) (.seq (.reg [⟨(some 4), (.asg (.c (.bool false)) none), none, []⟩] false) .ret) .skip)) (.seq (.seq (.reg [⟨(some 5), (.asg (.c (.int .i64 0)) none), none, []⟩] false) (.block 0 (.loop (.seq (.seq (.reg [⟨(some 11), (.mv (.t 5)), none, []⟩, ⟨(some 12), (.mv (.t 0)), none, []⟩, ⟨(some 13), (.len false (.t 12)), none, []⟩, ⟨(some 14), (.bin .lss (.t 11) (.t 13)), none, []⟩] false) (.cond (.t 14) .skip (.exit 0))) (.seq (.block 1 (.seq (.reg [⟨(some 17), (.mv (.t 0)), none, []⟩, ⟨(some 18), (.mv (.t 5)), none, []⟩, ⟨(some 19), (.ixA 1 (.t 17) (.t 18)), none, [0, 1]⟩, ⟨(some 20), (.ld 1 false (.t 19)), none, [2]⟩, ⟨(some 21), (.mv (.t 1)), none, []⟩, ⟨(some 22), (.mv (.t 5)), none, []⟩, ⟨(some 23), (.ixA 1 (.t 21) (.t 22)), none, [4, 5]⟩, ⟨(some 24), (.ld 1 false (.t 23)), none, [6]⟩, ⟨(some 25), (.bin .neq (.t 20) (.t 24)), none, [3, 7]⟩] true) (.cond (.t 25) (.seq (.reg [⟨(some 4), (.asg (.c (.bool false)) none), none, []⟩] false) .ret) .skip))) (.reg [⟨(some 15), (.mv (.t 5)), none, []⟩, ⟨(some 16), (.bin .add (.t 15) (.c (.int .i64 1))), none, []⟩, ⟨(some 5), (.asg (.t 16) none), none, []⟩] false)))))) (.seq (.reg [⟨(some 4), (.asg (.c (.bool true)) none), none, []⟩] false) .ret))))
theorem dc14_c : (Try.f14.body.bind (cCode Try.prog Try.f14.ntmps)) = some dc14 := by kernel_rfl
theorem dc14_r : Try.f14.results.toList.mapM (cRes Try.prog) = some [(.t 4)] := by kernel_rfl
def ref04_Same_enc (a : (List Int) × (List Int)) : List D := [.sl (a.1.map eI64), .sl (a.2.map eI64)]
def ref04_Same_dec (ds : List D) : (List Int) × (List Int) := ((uL uI) (ds.getD 0 .top), (uL uI) (ds.getD 1 .top))
theorem ref04_Same_de (a : (List Int) × (List Int)) : ref04_Same_dec (ref04_Same_enc a) = a := by simp [ref04_Same_dec, ref04_Same_enc, uI, uBo, uS, uL_e (u := uI) (en := eI64) (fun _ => rfl)]
def ref04_Same_R (b : Bool) : D := .bool b
def ref04_Same_E (_b : Bool) : List D := []
noncomputable def ref04_Same_S : Dw.Spec := fSpec [] .ground ref04_Same_enc ref04_Same_dec (fun a => ref04_Same a.1 a.2) ref04_Same_R ref04_Same_E
set_option maxHeartbeats 4000000 in
theorem ref04_Same_ok : SpecOk Try.prog 14 ref04_Same_S := by
  refine fn_ok (specs_nil) Try.func14 (by decide) dc14_c dc14_r (np := 2) (by decide) ref04_Same_de (fun _ => rfl) (fun _ => rfl) (by decide) ?_
  rintro ⟨a1, b2⟩
  show TrE (specs []) dc14 (kRet [] .ground [(.t 4)] ref04_Same_R ref04_Same_E) ⟨[(0, .sl (a1.map eI64)), (1, .sl (b2.map eI64))], [], 262144⟩ (ref04_Same a1 b2)
  refine tr_ent ?_
  unfold dc14 ref04_Same
  refine tr_seq ?_
  refine tr_reg ?_
  refine trO_asg rfl rfl ?_
  refine trO_nil ?_
  refine trX_seq ?_
  refine tr_seq ?_
  refine tr_seq ?_
  refine tr_reg ?_
  refine trO_mv rfl rfl ?_
  refine trO_len_sl rfl rfl ?_
  refine trO_mv rfl rfl ?_
  refine trO_len_sl rfl rfl ?_
  refine trO_bin (v := .bool ((a1.length : Int) != (b2.length : Int))) rfl rfl rfl rfl rfl ?_
  refine trO_nil ?_
  refine trX_seq ?_
  refine tr_cond (c := ((a1.length : Int) != (b2.length : Int))) rfl ?_ ?_
  ·
    refine tr_seq ?_
    refine tr_reg ?_
    refine trO_asg rfl rfl ?_
    refine trO_nil ?_
    refine trX_seq ?_
    refine tr_ret ?_
    refine trX_seq_ret ?_
    exact ret_ground (b := false) rfl (by first | (simp; done) | (simp; omega)) rfl rfl (by first | (simp; done) | (simp; omega)) rfl
  ·
    refine tr_skip ?_
    refine trX_seq ?_
    refine tr_seq ?_
    refine tr_seq ?_
    refine tr_reg ?_
    refine trO_asg rfl rfl ?_
    refine trO_nil ?_
    refine trX_seq ?_
    refine tr_block ?_
    refine tr_loop (E := fun (s : Int) (g : Unit) => [(0, .sl (a1.map eI64)), (1, .sl (b2.map eI64)), (5, .int .i64 s)]) (O := fun s g => []) (body := fun s => ref04_Same_b1 a1 b2 s) (s := 0) () ((has_exact ⟨rfl, rfl, rfl, trivial⟩ trivial)) ?_
    rintro i3 ⟨⟩ nn
    show Tr _ _ _ ⟨[(0, .sl (a1.map eI64)), (1, .sl (b2.map eI64)), (5, .int .i64 i3)], [], _⟩ (ref04_Same_b1 a1 b2 i3)
    unfold ref04_Same_b1
    refine tr_seq ?_
    refine tr_seq ?_
    refine tr_reg ?_
    refine trO_mv rfl rfl ?_
    refine trO_mv rfl rfl ?_
    refine trO_len_sl rfl rfl ?_
    refine trO_bin (v := .bool (decide (i3 < (a1.length : Int)))) rfl rfl rfl rfl rfl ?_
    refine trO_nil ?_
    refine trX_seq ?_
    refine tr_cond (c := (decide (i3 < (a1.length : Int)))) rfl ?_ ?_
    ·
      refine tr_skip ?_
      refine trX_seq ?_
      refine tr_seq ?_
      refine tr_block ?_
      refine tr_seq ?_
      refine tr_reg ?_
      refine trO_mv rfl rfl ?_
      refine trO_mv rfl rfl ?_
      refine trO_bind fun x_x4 hx_x4 => ?_
      refine trO_ixA_sl (en := eI64) rfl rfl rfl hx_x4 rfl ?_
      refine trO_ld_f (v := .int .i64 x_x4) rfl rfl rfl rfl ?_
      refine trO_mv rfl rfl ?_
      refine trO_mv rfl rfl ?_
      refine trO_bind fun x_x5 hx_x5 => ?_
      refine trO_ixA_sl (en := eI64) rfl rfl rfl hx_x5 rfl ?_
      refine trO_ld_f (v := .int .i64 x_x5) rfl rfl rfl rfl ?_
      refine trO_bin (v := .bool (x_x4 != x_x5)) rfl rfl rfl rfl rfl ?_
      refine trO_nil_draw (by kernel_rfl) ?_
      refine trX_seq ?_
      refine tr_cond (c := (x_x4 != x_x5)) rfl ?_ ?_
      ·
        refine tr_seq ?_
        refine tr_reg ?_
        refine trO_asg rfl rfl ?_
        refine trO_nil ?_
        refine trX_seq ?_
        refine tr_ret ?_
        refine trX_blk_ret ?_
        refine trX_seq_ret ?_
        refine trX_loop_ret ?_
        refine trX_blk_ret ?_
        refine trX_seq_ret ?_
        exact ret_ground (b := false) rfl (by first | (simp; done) | (simp; omega)) rfl rfl (by first | (simp; done) | (simp; omega)) rfl
      ·
        refine tr_skip ?_
        refine trX_blk_normal ?_
        refine trX_seq ?_
        refine tr_reg ?_
        refine trO_mv rfl rfl ?_
        refine trO_bin (v := .int .i64 (IntKind.i64.wrap (i3 + 1))) rfl rfl rfl rfl rfl ?_
        refine trO_asg rfl rfl ?_
        refine trO_nil ?_
        exact trX_loop (s := IntKind.i64.wrap (i3 + 1)) () ((has_exact ⟨rfl, rfl, rfl, trivial⟩ trivial))
    ·
      refine tr_exit ?_
      refine trX_seq_exit ?_
      refine trX_loop_exit ?_
      refine trX_blk_here ?_
      refine trX_seq ?_
      refine tr_seq ?_
      refine tr_reg ?_
      refine trO_asg rfl rfl ?_
      refine trO_nil ?_
      refine trX_seq ?_
      refine tr_ret ?_
      exact ret_ground (b := true) rfl (by first | (simp; done) | (simp; omega)) rfl rfl (by first | (simp; done) | (simp; omega)) rfl

def dc16 : DCode := (.seq (.reg [⟨(some 2), (.box (.t 0) 3 27), none, []⟩, ⟨(some 4), (.asg (.c .nils) (some ⟨1, 3⟩)), none, []⟩] false) (.seq (.seq (.reg [⟨(some 6), (.mv (.t 1)), none, []⟩, ⟨(some 7), (.bin .lss (.t 6) (.c (.int .i64 0))), none, []⟩, ⟨(some 8), (.mv (.t 7)), none, []⟩, ⟨(some 9), (.mv (.t 1)), (some ⟨8, false⟩), []⟩, ⟨(some 10), (.fldA 2 (.t 2)), (some ⟨8, false⟩), []⟩, ⟨(some 11), (.ld 1 false (.t 10)), (some ⟨8, false⟩), []⟩, ⟨(some 12), (.len false (.t 11)), (some ⟨8, false⟩), []⟩, ⟨(some 13), (.bin .geq (.t 9) (.t 12)), (some ⟨8, false⟩), []⟩, ⟨(some 14), (.pick (.t 8) (.c (.bool true)) (.t 13)), none, []⟩] false) (.cond (.t 14) (.seq (.reg [⟨(some 4), (.asg (.c .nils) (some ⟨1, 3⟩)), none, []⟩] false) .ret) .skip)) (.seq (.reg [⟨(some 15), (.fldA 2 (.t 2)), none, []⟩, ⟨(some 16), (.ld 1 false (.t 15)), none, []⟩, ⟨(some 17), (.mv (.t 1)), none, []⟩, ⟨(some 18), (.ixA 5 (.t 16) (.t 17)), none, []⟩, ⟨(some 19), (.ld 5 true (.t 18)), none, []⟩, ⟨(some 5), (.new (.agg [(.int .i64 0), (.int .i64 0), (.int .i64 0), (.int .i64 0), (.int .u64 0)]) 5 52), none, []⟩, ⟨none, (.st 5 (.t 5) (.t 19)), none, []⟩] false) (.seq (.seq (.reg [⟨(some 20), (.fldA 0 (.t 5)), none, []⟩, ⟨(some 21), (.ld 1 false (.t 20)), none, []⟩] false) (.block 0 (.seq (.reg [⟨(some 23), (.bin .eql (.t 21) (.c (.int .i64 20))), none, []⟩, ⟨(some 22), (.asg (.t 23) none), none, []⟩] false) (.cond (.t 22) (.seq (.reg [⟨(some 24), (.fldA 1 (.t 5)), none, []⟩, ⟨(some 25), (.ld 1 false (.t 24)), none, []⟩, ⟨(some 26), (.bldS 1 3 (.int .i64 0) 1 [⟨0, (.t 25)⟩]), none, []⟩, ⟨(some 4), (.asg (.t 26) (some ⟨1, 3⟩)), none, []⟩] false) .ret) (.seq (.seq (.reg [⟨(some 28), (.bin .eql (.t 21) (.c (.int .i64 23))), none, []⟩, ⟨(some 27), (.asg (.t 28) none), none, []⟩] false) (.cond (.t 27) .skip (.reg [⟨(some 29), (.bin .eql (.t 21) (.c (.int .i64 24))), none, []⟩, ⟨(some 27), (.asg (.t 29) none), none, []⟩] false))) (.cond (.t 27) (.seq (.reg [⟨(some 4), (.asg (.c .nils) (some ⟨1, 3⟩)), none, []⟩] false) .ret) (.seq (.reg [⟨(some 31), (.bin .eql (.t 21) (.c (.int .i64 21))), none, []⟩, ⟨(some 30), (.asg (.t 31) none), none, []⟩] false) (.cond (.t 30) (.block 1 (.seq (.reg [⟨(some 33), (.fldA 2 (.t 5)), none, []⟩, ⟨(some 34), (.ld 1 false (.t 33)), none, []⟩, ⟨(some 35), (.mv (.t 1)), none, []⟩, ⟨(some 36), (.bin .add (.t 35) (.c (.int .i64 1))), none, []⟩, ⟨(some 37), (.bin .lss (.t 34) (.t 36)), none, []⟩, ⟨(some 32), (.asg (.t 37) none), none, []⟩] false) (.cond (.t 32) (.seq (.reg [⟨(some 38), (.fldA 2 (.t 5)), none, []⟩, ⟨(some 39), (.ld 1 false (.t 38)), none, []⟩, ⟨(some 40), (.mv (.t 1)), none, []⟩, ⟨(some 41), (.bin .add (.t 40) (.c (.int .i64 1))), none, []⟩, ⟨(some 42), (.bldS 1 3 (.int .i64 0) 2 [⟨0, (.t 39)⟩, ⟨1, (.t 41)⟩]), none, []⟩, ⟨(some 4), (.asg (.t 42) (some ⟨1, 3⟩)), none, []⟩] false) .ret) (.seq (.reg [⟨(some 44), (.fldA 2 (.t 5)), none, []⟩, ⟨(some 45), (.ld 1 false (.t 44)), none, []⟩, ⟨(some 46), (.mv (.t 1)), none, []⟩, ⟨(some 47), (.bin .add (.t 46) (.c (.int .i64 1))), none, []⟩, ⟨(some 48), (.bin .gtr (.t 45) (.t 47)), none, []⟩, ⟨(some 43), (.asg (.t 48) none), none, []⟩] false) (.cond (.t 43) (.seq (.reg [⟨(some 49), (.mv (.t 1)), none, []⟩, ⟨(some 50), (.bin .add (.t 49) (.c (.int .i64 1))), none, []⟩, ⟨(some 51), (.fldA 2 (.t 5)), none, []⟩, ⟨(some 52), (.ld 1 false (.t 51)), none, []⟩, ⟨(some 53), (.bldS 1 3 (.int .i64 0) 2 [⟨0, (.t 50)⟩, ⟨1, (.t 52)⟩]), none, []⟩, ⟨(some 4), (.asg (.t 53) (some ⟨1, 3⟩)), none, []⟩] false) .ret) .skip))))) .skip)))))))) (.seq (.reg [⟨(some 54), (.mv (.t 1)), none, []⟩, ⟨(some 55), (.bin .add (.t 54) (.c (.int .i64 1))), none, []⟩, ⟨(some 56), (.bldS 1 3 (.int .i64 0) 1 [⟨0, (.t 55)⟩]), none, []⟩, ⟨(some 4), (.asg (.t 56) (some ⟨1, 3⟩)), none, []⟩] false) .ret)))))
theorem dc16_c : (Try.f16.body.bind (cCode Try.prog Try.f16.ntmps)) = some dc16 := by kernel_rfl
theorem dc16_r : Try.f16.results.toList.mapM (cRes Try.prog) = some [(.t 4)] := by kernel_rfl
def ref13_Next_enc (a : TFunc × Int) : List D := [eFunc a.1, .int .i64 a.2]
def ref13_Next_dec (ds : List D) : TFunc × Int := (uFunc (ds.getD 0 .top), uI (ds.getD 1 .top))
theorem ref13_Next_de (a : TFunc × Int) : ref13_Next_dec (ref13_Next_enc a) = a := by simp [ref13_Next_dec, ref13_Next_enc, uI, uBo, uS]
def ref13_Next_R (b : (List Int)) : D := .sl (b.map eI64)
def ref13_Next_E (_b : (List Int)) : List D := []
noncomputable def ref13_Next_S : Dw.Spec := fSpec [] (.row 1 3) ref13_Next_enc ref13_Next_dec (fun a => ref13_Next a.1 a.2) ref13_Next_R ref13_Next_E
set_option maxHeartbeats 4000000 in
theorem ref13_Next_ok : SpecOk Try.prog 16 ref13_Next_S := by
  refine fn_ok (specs_nil) Try.func16 (by decide) dc16_c dc16_r (np := 2) (by decide) ref13_Next_de (fun _ => rfl) (fun _ => rfl) (by decide) ?_
  rintro ⟨f1, k2⟩
  show TrE (specs []) dc16 (kRet [] (.row 1 3) [(.t 4)] ref13_Next_R ref13_Next_E) ⟨[(0, .agg [.int .i64 f1.Params, .sl (f1.Slots.map eSlot), .sl (f1.Code.map eInstr)]), (1, .int .i64 k2)], [], 262144⟩ (ref13_Next f1 k2)
  refine tr_ent ?_
  unfold dc16 ref13_Next
  refine tr_seq ?_
  refine tr_reg ?_
  refine trO_box rfl rfl rfl rfl rfl ?_
  refine trO_asg_nil (α := Int) rfl eI64 rfl ?_
  refine trO_nil ?_
  refine trX_seq ?_
  refine tr_seq_cut (E := fun (s : Unit) (g : Nat) => [(1, .int .i64 k2), (2, .optr 2 g 0 0)]) (O := fun s g => [(2, some (g, ⟨false, true, 3, 27, [.agg [.int .i64 f1.Params, .sl (f1.Slots.map eSlot), .sl (f1.Code.map eInstr)]]⟩))]) (j := fun s => ref13_Next_j1 f1 k2) ?_ ?_
  ·
    refine tr_seq ?_
    refine tr_reg ?_
    refine trO_mv rfl rfl ?_
    refine trO_bin (v := .bool (decide (k2 < 0))) rfl rfl rfl rfl rfl ?_
    refine trO_mv rfl rfl ?_
    refine trO_split 8 (b := (decide (k2 < 0))) rfl ?_ ?_
    ·
      refine trO_off rfl ?_
      refine trO_off rfl ?_
      refine trO_off rfl ?_
      refine trO_off rfl ?_
      refine trO_off rfl ?_
      refine trO_pick_true rfl rfl rfl rfl ?_
      refine trO_nil ?_
      refine trX_seq ?_
      refine tr_cond_true rfl ?_
      refine tr_seq ?_
      refine tr_reg ?_
      refine trO_asg_nil (α := Int) rfl eI64 rfl ?_
      refine trO_nil ?_
      refine trX_seq ?_
      refine tr_ret ?_
      refine trX_cut_ret ?_
      exact ret_row (b := ([] : List Int)) rfl (by first | (simp; done) | (simp; omega)) rfl rfl (by first | (simp; done) | (simp; omega)) rfl (by first | (simp; done) | (simp; omega)) (congrArg D.sl (take_len_map' _ _ rfl)) rfl
    ·
      refine trO_mv rfl rfl ?_
      refine trO_fldA rfl rfl ?_
      refine trO_ld_obj (v := .sl (f1.Code.map eInstr)) (z := .agg [.int .i64 f1.Params, .sl (f1.Slots.map eSlot), .sl (f1.Code.map eInstr)]) rfl rfl rfl rfl rfl rfl ?_
      refine trO_len_sl rfl rfl ?_
      refine trO_bin (v := .bool (decide (k2 ≥ (f1.Code.length : Int)))) rfl rfl rfl rfl rfl ?_
      refine trO_pick_false rfl rfl rfl rfl ?_
      refine trO_nil ?_
      refine trX_seq ?_
      refine tr_cond (c := (decide (k2 ≥ (f1.Code.length : Int)))) rfl ?_ ?_
      ·
        refine tr_seq ?_
        refine tr_reg ?_
        refine trO_asg_nil (α := Int) rfl eI64 rfl ?_
        refine trO_nil ?_
        refine trX_seq ?_
        refine tr_ret ?_
        refine trX_cut_ret ?_
        exact ret_row (b := ([] : List Int)) rfl (by first | (simp; done) | (simp; omega)) rfl rfl (by first | (simp; done) | (simp; omega)) rfl (by first | (simp; done) | (simp; omega)) (congrArg D.sl (take_len_map' _ _ rfl)) rfl
      ·
        refine tr_skip ?_
        exact trX_cut (s := ()) _ ((has_exact ⟨rfl, rfl, trivial⟩ ⟨rfl, trivial⟩))
  ·
    rintro ⟨⟩ v2 nn
    show Tr _ _ _ ⟨[(1, .int .i64 k2), (2, .optr 2 v2 0 0)], [(2, some (v2, ⟨false, true, 3, 27, [.agg [.int .i64 f1.Params, .sl (f1.Slots.map eSlot), .sl (f1.Code.map eInstr)]]⟩))], _⟩ (ref13_Next_j1 f1 k2)
    unfold ref13_Next_j1
    refine tr_seq ?_
    refine tr_reg ?_
    refine trO_fldA rfl rfl ?_
    refine trO_ld_obj (v := .sl (f1.Code.map eInstr)) (z := .agg [.int .i64 f1.Params, .sl (f1.Slots.map eSlot), .sl (f1.Code.map eInstr)]) rfl rfl rfl rfl rfl rfl ?_
    refine trO_mv rfl rfl ?_
    refine trO_bind fun x_x3 hx_x3 => ?_
    refine trO_ixA_sl (en := eInstr) rfl rfl rfl hx_x3 rfl ?_
    refine trO_ld_f (v := .agg [.int .i64 x_x3.Op, .int .i64 x_x3.A, .int .i64 x_x3.B, .int .i64 x_x3.C, .int .u64 x_x3.Imm]) rfl rfl rfl rfl ?_
    refine trO_new rfl ?_
    refine trO_st_var (z' := .agg [.int .i64 x_x3.Op, .int .i64 x_x3.A, .int .i64 x_x3.B, .int .i64 x_x3.C, .int .u64 x_x3.Imm]) rfl rfl rfl rfl rfl rfl rfl rfl rfl ?_
    refine trO_nil ?_
    refine trX_seq ?_
    refine tr_seq ?_
    refine tr_seq ?_
    refine tr_reg ?_
    refine trO_fldA rfl rfl ?_
    refine trO_ld_obj (v := .int .i64 x_x3.Op) (z := .agg [.int .i64 x_x3.Op, .int .i64 x_x3.A, .int .i64 x_x3.B, .int .i64 x_x3.C, .int .u64 x_x3.Imm]) rfl rfl rfl rfl rfl rfl ?_
    refine trO_nil ?_
    refine trX_seq ?_
    refine tr_block ?_
    refine tr_seq ?_
    refine tr_reg ?_
    refine trO_bin (v := .bool (x_x3.Op == 20)) rfl rfl rfl rfl rfl ?_
    refine trO_asg rfl rfl ?_
    refine trO_nil ?_
    refine trX_seq ?_
    refine tr_cond (c := (x_x3.Op == 20)) rfl ?_ ?_
    ·
      refine tr_seq ?_
      refine tr_reg ?_
      refine trO_fldA rfl rfl ?_
      refine trO_ld_obj (v := .int .i64 x_x3.A) (z := .agg [.int .i64 x_x3.Op, .int .i64 x_x3.A, .int .i64 x_x3.B, .int .i64 x_x3.C, .int .u64 x_x3.Imm]) rfl rfl rfl rfl rfl rfl ?_
      refine trO_bldS ([x_x3.A] : List Int) eI64 rfl rfl rfl (by simp) rfl rfl rfl ?_
      refine trO_asg_own (l := ([x_x3.A] : List Int)) (en := eI64) rfl rfl rfl rfl ?_
      refine trO_nil ?_
      refine trX_seq ?_
      refine tr_ret ?_
      refine trX_blk_ret ?_
      refine trX_seq_ret ?_
      exact ret_row (b := ([x_x3.A] : List Int)) rfl (by first | (simp; done) | (simp; omega)) rfl rfl (by first | (simp; done) | (simp; omega)) rfl (by first | (simp; done) | (simp; omega)) (congrArg D.sl (take_len_map' _ _ rfl)) rfl
    ·
      refine tr_seq_cut (E := fun (s : Bool) (g : Nat) => [(1, .int .i64 k2), (5, .optr 5 g 0 0), (21, .int .i64 x_x3.Op), (27, .bool s)]) (O := fun s g => [(5, some (g, ⟨false, true, 5, 52, [.agg [.int .i64 x_x3.Op, .int .i64 x_x3.A, .int .i64 x_x3.B, .int .i64 x_x3.C, .int .u64 x_x3.Imm]]⟩))]) (j := fun s => ref13_Next_j2 x_x3 k2 s) ?_ ?_
      ·
        refine tr_seq ?_
        refine tr_reg ?_
        refine trO_bin (v := .bool (x_x3.Op == 23)) rfl rfl rfl rfl rfl ?_
        refine trO_asg rfl rfl ?_
        refine trO_nil ?_
        refine trX_seq ?_
        refine tr_cond (c := (x_x3.Op == 23)) rfl ?_ ?_
        ·
          refine tr_skip ?_
          exact trX_cut (s := (x_x3.Op == 23)) _ ((has_exact ⟨rfl, rfl, rfl, rfl, trivial⟩ ⟨rfl, trivial⟩))
        ·
          refine tr_reg ?_
          refine trO_bin (v := .bool (x_x3.Op == 24)) rfl rfl rfl rfl rfl ?_
          refine trO_asg rfl rfl ?_
          refine trO_nil ?_
          exact trX_cut (s := (x_x3.Op == 24)) _ ((has_exact ⟨rfl, rfl, rfl, rfl, trivial⟩ ⟨rfl, trivial⟩))
      ·
        rintro x4 v5 nn
        show Tr _ _ _ ⟨[(1, .int .i64 k2), (5, .optr 5 v5 0 0), (21, .int .i64 x_x3.Op), (27, .bool x4)], [(5, some (v5, ⟨false, true, 5, 52, [.agg [.int .i64 x_x3.Op, .int .i64 x_x3.A, .int .i64 x_x3.B, .int .i64 x_x3.C, .int .u64 x_x3.Imm]]⟩))], _⟩ (ref13_Next_j2 x_x3 k2 x4)
        unfold ref13_Next_j2
        refine tr_cond (c := x4) rfl ?_ ?_
        ·
          refine tr_seq ?_
          refine tr_reg ?_
          refine trO_asg_nil (α := Int) rfl eI64 rfl ?_
          refine trO_nil ?_
          refine trX_seq ?_
          refine tr_ret ?_
          refine trX_blk_ret ?_
          refine trX_seq_ret ?_
          exact ret_row (b := ([] : List Int)) rfl (by first | (simp; done) | (simp; omega)) rfl rfl (by first | (simp; done) | (simp; omega)) rfl (by first | (simp; done) | (simp; omega)) (congrArg D.sl (take_len_map' _ _ rfl)) rfl
        ·
          refine tr_seq ?_
          refine tr_reg ?_
          refine trO_bin (v := .bool (x_x3.Op == 21)) rfl rfl rfl rfl rfl ?_
          refine trO_asg rfl rfl ?_
          refine trO_nil ?_
          refine trX_seq ?_
          refine tr_cond (c := (x_x3.Op == 21)) rfl ?_ ?_
          ·
            refine tr_block ?_
            refine tr_seq ?_
            refine tr_reg ?_
            refine trO_fldA rfl rfl ?_
            refine trO_ld_obj (v := .int .i64 x_x3.B) (z := .agg [.int .i64 x_x3.Op, .int .i64 x_x3.A, .int .i64 x_x3.B, .int .i64 x_x3.C, .int .u64 x_x3.Imm]) rfl rfl rfl rfl rfl rfl ?_
            refine trO_mv rfl rfl ?_
            refine trO_bin (v := .int .i64 (IntKind.i64.wrap (k2 + 1))) rfl rfl rfl rfl rfl ?_
            refine trO_bin (v := .bool (decide (x_x3.B < (IntKind.i64.wrap (k2 + 1))))) rfl rfl rfl rfl rfl ?_
            refine trO_asg rfl rfl ?_
            refine trO_nil ?_
            refine trX_seq ?_
            refine tr_cond (c := (decide (x_x3.B < (IntKind.i64.wrap (k2 + 1))))) rfl ?_ ?_
            ·
              refine tr_seq ?_
              refine tr_reg ?_
              refine trO_fldA rfl rfl ?_
              refine trO_ld_obj (v := .int .i64 x_x3.B) (z := .agg [.int .i64 x_x3.Op, .int .i64 x_x3.A, .int .i64 x_x3.B, .int .i64 x_x3.C, .int .u64 x_x3.Imm]) rfl rfl rfl rfl rfl rfl ?_
              refine trO_mv rfl rfl ?_
              refine trO_bin (v := .int .i64 (IntKind.i64.wrap (k2 + 1))) rfl rfl rfl rfl rfl ?_
              refine trO_bldS ([x_x3.B, IntKind.i64.wrap (k2 + 1)] : List Int) eI64 rfl rfl rfl (by simp) rfl rfl rfl ?_
              refine trO_asg_own (l := ([x_x3.B, IntKind.i64.wrap (k2 + 1)] : List Int)) (en := eI64) rfl rfl rfl rfl ?_
              refine trO_nil ?_
              refine trX_seq ?_
              refine tr_ret ?_
              refine trX_blk_ret ?_
              refine trX_blk_ret ?_
              refine trX_seq_ret ?_
              exact ret_row (b := ([x_x3.B, IntKind.i64.wrap (k2 + 1)] : List Int)) rfl (by first | (simp; done) | (simp; omega)) rfl rfl (by first | (simp; done) | (simp; omega)) rfl (by first | (simp; done) | (simp; omega)) (congrArg D.sl (take_len_map' _ _ rfl)) rfl
            ·
              refine tr_seq ?_
              refine tr_reg ?_
              refine trO_fldA rfl rfl ?_
              refine trO_ld_obj (v := .int .i64 x_x3.B) (z := .agg [.int .i64 x_x3.Op, .int .i64 x_x3.A, .int .i64 x_x3.B, .int .i64 x_x3.C, .int .u64 x_x3.Imm]) rfl rfl rfl rfl rfl rfl ?_
              refine trO_mv rfl rfl ?_
              refine trO_bin (v := .int .i64 (IntKind.i64.wrap (k2 + 1))) rfl rfl rfl rfl rfl ?_
              refine trO_bin (v := .bool (decide (x_x3.B > (IntKind.i64.wrap (k2 + 1))))) rfl rfl rfl rfl rfl ?_
              refine trO_asg rfl rfl ?_
              refine trO_nil ?_
              refine trX_seq ?_
              refine tr_cond (c := (decide (x_x3.B > (IntKind.i64.wrap (k2 + 1))))) rfl ?_ ?_
              ·
                refine tr_seq ?_
                refine tr_reg ?_
                refine trO_mv rfl rfl ?_
                refine trO_bin (v := .int .i64 (IntKind.i64.wrap (k2 + 1))) rfl rfl rfl rfl rfl ?_
                refine trO_fldA rfl rfl ?_
                refine trO_ld_obj (v := .int .i64 x_x3.B) (z := .agg [.int .i64 x_x3.Op, .int .i64 x_x3.A, .int .i64 x_x3.B, .int .i64 x_x3.C, .int .u64 x_x3.Imm]) rfl rfl rfl rfl rfl rfl ?_
                refine trO_bldS ([IntKind.i64.wrap (k2 + 1), x_x3.B] : List Int) eI64 rfl rfl rfl (by simp) rfl rfl rfl ?_
                refine trO_asg_own (l := ([IntKind.i64.wrap (k2 + 1), x_x3.B] : List Int)) (en := eI64) rfl rfl rfl rfl ?_
                refine trO_nil ?_
                refine trX_seq ?_
                refine tr_ret ?_
                refine trX_blk_ret ?_
                refine trX_blk_ret ?_
                refine trX_seq_ret ?_
                exact ret_row (b := ([IntKind.i64.wrap (k2 + 1), x_x3.B] : List Int)) rfl (by first | (simp; done) | (simp; omega)) rfl rfl (by first | (simp; done) | (simp; omega)) rfl (by first | (simp; done) | (simp; omega)) (congrArg D.sl (take_len_map' _ _ rfl)) rfl
              ·
                refine tr_skip ?_
                refine trX_blk_normal ?_
                refine trX_blk_normal ?_
                refine trX_seq ?_
                refine tr_seq ?_
                refine tr_reg ?_
                refine trO_mv rfl rfl ?_
                refine trO_bin (v := .int .i64 (IntKind.i64.wrap (k2 + 1))) rfl rfl rfl rfl rfl ?_
                refine trO_bldS ([IntKind.i64.wrap (k2 + 1)] : List Int) eI64 rfl rfl rfl (by simp) rfl rfl rfl ?_
                refine trO_asg_own (l := ([IntKind.i64.wrap (k2 + 1)] : List Int)) (en := eI64) rfl rfl rfl rfl ?_
                refine trO_nil ?_
                refine trX_seq ?_
                refine tr_ret ?_
                exact ret_row (b := ([IntKind.i64.wrap (k2 + 1)] : List Int)) rfl (by first | (simp; done) | (simp; omega)) rfl rfl (by first | (simp; done) | (simp; omega)) rfl (by first | (simp; done) | (simp; omega)) (congrArg D.sl (take_len_map' _ _ rfl)) rfl
          ·
            refine tr_skip ?_
            refine trX_blk_normal ?_
            refine trX_seq ?_
            refine tr_seq ?_
            refine tr_reg ?_
            refine trO_mv rfl rfl ?_
            refine trO_bin (v := .int .i64 (IntKind.i64.wrap (k2 + 1))) rfl rfl rfl rfl rfl ?_
            refine trO_bldS ([IntKind.i64.wrap (k2 + 1)] : List Int) eI64 rfl rfl rfl (by simp) rfl rfl rfl ?_
            refine trO_asg_own (l := ([IntKind.i64.wrap (k2 + 1)] : List Int)) (en := eI64) rfl rfl rfl rfl ?_
            refine trO_nil ?_
            refine trX_seq ?_
            refine tr_ret ?_
            exact ret_row (b := ([IntKind.i64.wrap (k2 + 1)] : List Int)) rfl (by first | (simp; done) | (simp; omega)) rfl rfl (by first | (simp; done) | (simp; omega)) rfl (by first | (simp; done) | (simp; omega)) (congrArg D.sl (take_len_map' _ _ rfl)) rfl

def dc17 : DCode := (.seq (.reg [⟨(some 4), (.asg (.c (.bool false)) none), none, []⟩] false) (.seq (.seq (.reg [⟨(some 6), (.mv (.t 0)), none, []⟩, ⟨(some 7), (.len false (.t 6)), none, []⟩, ⟨(some 8), (.mv (.t 1)), none, []⟩, ⟨(some 9), (.len false (.t 8)), none, []⟩, ⟨(some 10), (.bin .neq (.t 7) (.t 9)), none, []⟩] false) (.cond (.t 10) (.seq (.reg [⟨(some 4), (.asg (.c (.bool false)) none), none, []⟩] false) .ret) .skip)) (.seq (.seq (.reg [⟨(some 5), (.asg (.c (.int .i64 0)) none), none, []⟩] false) (.block 0 (.loop (.seq (.seq (.reg [⟨(some 11), (.mv (.t 5)), none, []⟩, ⟨(some 12), (.mv (.t 0)), none, []⟩, ⟨(some 13), (.len false (.t 12)), none, []⟩, ⟨(some 14), (.bin .lss (.t 11) (.t 13)), none, []⟩] false) (.cond (.t 14) .skip (.exit 0))) (.seq (.block 1 (.seq (.reg [⟨(some 17), (.mv (.t 0)), none, []⟩, ⟨(some 18), (.mv (.t 5)), none, []⟩, ⟨(some 19), (.ixA 1 (.t 17) (.t 18)), none, [0, 1]⟩, ⟨(some 20), (.ld 1 false (.t 19)), none, [2]⟩, ⟨(some 21), (.mv (.t 1)), none, []⟩, ⟨(some 22), (.mv (.t 5)), none, []⟩, ⟨(some 23), (.ixA 1 (.t 21) (.t 22)), none, [4, 5]⟩, ⟨(some 24), (.ld 1 false (.t 23)), none, [6]⟩, ⟨(some 25), (.call (.c (.clo 14 [])) [(.t 20), (.t 24)]), none, [3, 7]⟩, ⟨(some 26), (.un .not (.t 25)), none, [8]⟩] true) (.cond (.t 26) (.seq (.reg [⟨(some 4), (.asg (.c (.bool false)) none), none, []⟩] false) .ret) .skip))) (.reg [⟨(some 15), (.mv (.t 5)), none, []⟩, ⟨(some 16), (.bin .add (.t 15) (.c (.int .i64 1))), none, []⟩, ⟨(some 5), (.asg (.t 16) none), none, []⟩] false)))))) (.seq (.reg [⟨(some 4), (.asg (.c (.bool true)) none), none, []⟩] false) .ret))))
theorem dc17_c : (Try.f17.body.bind (cCode Try.prog Try.f17.ntmps)) = some dc17 := by kernel_rfl
theorem dc17_r : Try.f17.results.toList.mapM (cRes Try.prog) = some [(.t 4)] := by kernel_rfl
def ref04_SameAll_enc (a : (List (List Int)) × (List (List Int))) : List D := [.sl (a.1.map (eL eI64)), .sl (a.2.map (eL eI64))]
def ref04_SameAll_dec (ds : List D) : (List (List Int)) × (List (List Int)) := ((uL (uL uI)) (ds.getD 0 .top), (uL (uL uI)) (ds.getD 1 .top))
theorem ref04_SameAll_de (a : (List (List Int)) × (List (List Int))) : ref04_SameAll_dec (ref04_SameAll_enc a) = a := by simp [ref04_SameAll_dec, ref04_SameAll_enc, uI, uBo, uS, uL_e (u := (uL uI)) (en := (eL eI64)) (uL_e (u := uI) (en := eI64) (fun _ => rfl))]
def ref04_SameAll_R (b : Bool) : D := .bool b
def ref04_SameAll_E (_b : Bool) : List D := []
noncomputable def ref04_SameAll_S : Dw.Spec := fSpec [] .ground ref04_SameAll_enc ref04_SameAll_dec (fun a => ref04_SameAll a.1 a.2) ref04_SameAll_R ref04_SameAll_E
set_option maxHeartbeats 4000000 in
theorem ref04_SameAll_ok : SpecOk Try.prog 17 ref04_SameAll_S := by
  refine fn_ok (specs_ok (l := [(14, ref04_Same_S)]) (by simp [ref04_Same_ok])) Try.func17 (by decide) dc17_c dc17_r (np := 2) (by decide) ref04_SameAll_de (fun _ => rfl) (fun _ => rfl) (by decide) ?_
  rintro ⟨a1, b2⟩
  show TrE (specs [(14, ref04_Same_S)]) dc17 (kRet [] .ground [(.t 4)] ref04_SameAll_R ref04_SameAll_E) ⟨[(0, .sl (a1.map (eL eI64))), (1, .sl (b2.map (eL eI64)))], [], 262144⟩ (ref04_SameAll a1 b2)
  refine tr_ent ?_
  unfold dc17 ref04_SameAll
  refine tr_seq ?_
  refine tr_reg ?_
  refine trO_asg rfl rfl ?_
  refine trO_nil ?_
  refine trX_seq ?_
  refine tr_seq ?_
  refine tr_seq ?_
  refine tr_reg ?_
  refine trO_mv rfl rfl ?_
  refine trO_len_sl rfl rfl ?_
  refine trO_mv rfl rfl ?_
  refine trO_len_sl rfl rfl ?_
  refine trO_bin (v := .bool ((a1.length : Int) != (b2.length : Int))) rfl rfl rfl rfl rfl ?_
  refine trO_nil ?_
  refine trX_seq ?_
  refine tr_cond (c := ((a1.length : Int) != (b2.length : Int))) rfl ?_ ?_
  ·
    refine tr_seq ?_
    refine tr_reg ?_
    refine trO_asg rfl rfl ?_
    refine trO_nil ?_
    refine trX_seq ?_
    refine tr_ret ?_
    refine trX_seq_ret ?_
    exact ret_ground (b := false) rfl (by first | (simp; done) | (simp; omega)) rfl rfl (by first | (simp; done) | (simp; omega)) rfl
  ·
    refine tr_skip ?_
    refine trX_seq ?_
    refine tr_seq ?_
    refine tr_seq ?_
    refine tr_reg ?_
    refine trO_asg rfl rfl ?_
    refine trO_nil ?_
    refine trX_seq ?_
    refine tr_block ?_
    refine tr_loop (E := fun (s : Int) (g : Unit) => [(0, .sl (a1.map (eL eI64))), (1, .sl (b2.map (eL eI64))), (5, .int .i64 s)]) (O := fun s g => []) (body := fun s => ref04_SameAll_b1 a1 b2 s) (s := 0) () ((has_exact ⟨rfl, rfl, rfl, trivial⟩ trivial)) ?_
    rintro i3 ⟨⟩ nn
    show Tr _ _ _ ⟨[(0, .sl (a1.map (eL eI64))), (1, .sl (b2.map (eL eI64))), (5, .int .i64 i3)], [], _⟩ (ref04_SameAll_b1 a1 b2 i3)
    unfold ref04_SameAll_b1
    refine tr_seq ?_
    refine tr_seq ?_
    refine tr_reg ?_
    refine trO_mv rfl rfl ?_
    refine trO_mv rfl rfl ?_
    refine trO_len_sl rfl rfl ?_
    refine trO_bin (v := .bool (decide (i3 < (a1.length : Int)))) rfl rfl rfl rfl rfl ?_
    refine trO_nil ?_
    refine trX_seq ?_
    refine tr_cond (c := (decide (i3 < (a1.length : Int)))) rfl ?_ ?_
    ·
      refine tr_skip ?_
      refine trX_seq ?_
      refine tr_seq ?_
      refine tr_block ?_
      refine tr_seq ?_
      refine tr_reg ?_
      refine trO_mv rfl rfl ?_
      refine trO_mv rfl rfl ?_
      refine trO_bind fun x_x4 hx_x4 => ?_
      refine trO_ixA_sl (en := (eL eI64)) rfl rfl rfl hx_x4 rfl ?_
      refine trO_ld_f (v := .sl (x_x4.map eI64)) rfl rfl rfl rfl ?_
      refine trO_mv rfl rfl ?_
      refine trO_mv rfl rfl ?_
      refine trO_bind fun x_x5 hx_x5 => ?_
      refine trO_ixA_sl (en := (eL eI64)) rfl rfl rfl hx_x5 rfl ?_
      refine trO_ld_f (v := .sl (x_x5.map eI64)) rfl rfl rfl rfl ?_
      refine trO_bind fun r6 hr6 => ?_
      refine trO_call_ground (x_x4, x_x5) rfl rfl rfl ref04_Same_de rfl rfl (by simp) rfl hr6 rfl ?_
      refine trO_un (w := .bool (!r6)) rfl rfl rfl rfl trivial ?_
      refine trO_nil_draw (by kernel_rfl) ?_
      refine trX_seq ?_
      refine tr_cond (c := (!r6)) rfl ?_ ?_
      ·
        refine tr_seq ?_
        refine tr_reg ?_
        refine trO_asg rfl rfl ?_
        refine trO_nil ?_
        refine trX_seq ?_
        refine tr_ret ?_
        refine trX_blk_ret ?_
        refine trX_seq_ret ?_
        refine trX_loop_ret ?_
        refine trX_blk_ret ?_
        refine trX_seq_ret ?_
        exact ret_ground (b := false) rfl (by first | (simp; done) | (simp; omega)) rfl rfl (by first | (simp; done) | (simp; omega)) rfl
      ·
        refine tr_skip ?_
        refine trX_blk_normal ?_
        refine trX_seq ?_
        refine tr_reg ?_
        refine trO_mv rfl rfl ?_
        refine trO_bin (v := .int .i64 (IntKind.i64.wrap (i3 + 1))) rfl rfl rfl rfl rfl ?_
        refine trO_asg rfl rfl ?_
        refine trO_nil ?_
        exact trX_loop (s := IntKind.i64.wrap (i3 + 1)) () ((has_exact ⟨rfl, rfl, rfl, trivial⟩ trivial))
    ·
      refine tr_exit ?_
      refine trX_seq_exit ?_
      refine trX_loop_exit ?_
      refine trX_blk_here ?_
      refine trX_seq ?_
      refine tr_seq ?_
      refine tr_reg ?_
      refine trO_asg rfl rfl ?_
      refine trO_nil ?_
      refine trX_seq ?_
      refine tr_ret ?_
      exact ret_ground (b := true) rfl (by first | (simp; done) | (simp; omega)) rfl rfl (by first | (simp; done) | (simp; omega)) rfl

def dc18 : DCode := (.seq (.reg [⟨(some 1), (.box (.t 0) 3 27), none, []⟩, ⟨(some 2), (.asg (.c .nils) (some ⟨1, 32⟩)), none, []⟩] false) (.seq (.reg [⟨(some 7), (.fldA 2 (.t 1)), none, []⟩, ⟨(some 8), (.ld 1 false (.t 7)), none, []⟩, ⟨(some 9), (.len false (.t 8)), none, []⟩, ⟨(some 10), (.mkS 1 32 24 .nils (.t 9) (.t 9)), none, []⟩, ⟨(some 3), (.asg (.t 10) (some ⟨1, 32⟩)), none, []⟩] false) (.seq (.seq (.reg [⟨(some 11), (.fldA 2 (.t 1)), none, []⟩, ⟨(some 12), (.ld 1 false (.t 11)), none, []⟩, ⟨(some 13), (.len false (.t 12)), none, []⟩, ⟨(some 14), (.mv (.c (.int .i64 0))), none, []⟩] false) (.block 0 (.loop (.seq (.reg [⟨(some 15), (.bin .lss (.t 14) (.t 13)), none, []⟩] false) (.seq (.cond (.t 15) .skip (.exit 0)) (.seq (.block 1 (.seq (.reg [⟨(some 16), (.mv (.t 14)), none, []⟩, ⟨(some 4), (.asg (.t 16) none), none, []⟩] false) (.seq (.reg [⟨(some 17), (.ld 3 true (.t 1)), none, []⟩, ⟨(some 18), (.mv (.t 4)), none, []⟩, ⟨(some 19), (.call (.c (.clo 15 [])) [(.t 17), (.t 18)]), none, []⟩, ⟨(some 20), (.len false (.t 19)), none, []⟩, ⟨(some 21), (.mv (.c (.int .i64 0))), none, []⟩] false) (.block 2 (.loop (.seq (.reg [⟨(some 22), (.bin .lss (.t 21) (.t 20)), none, []⟩] false) (.seq (.cond (.t 22) .skip (.exit 2)) (.seq (.block 3 (.seq (.reg [⟨(some 23), (.ixA 1 (.t 19) (.t 21)), none, []⟩, ⟨(some 24), (.ld 1 false (.t 23)), none, []⟩, ⟨(some 6), (.asg (.t 24) none), none, []⟩] false) (.reg [⟨(some 25), (.mv (.t 3)), none, []⟩, ⟨(some 26), (.mv (.t 6)), none, []⟩, ⟨(some 27), (.mv (.t 3)), none, []⟩, ⟨(some 28), (.mv (.t 6)), none, []⟩, ⟨(some 29), (.ixA 1 (.t 27) (.t 28)), none, []⟩, ⟨(some 30), (.ld 1 false (.t 29)), none, []⟩, ⟨(some 31), (.mv (.t 4)), none, []⟩, ⟨(some 32), (.bldS 1 3 (.int .i64 0) 1 [⟨0, (.t 31)⟩]), none, []⟩, ⟨(some 33), (.app 1 3 8 (.t 30) (.t 32)), none, []⟩, ⟨(some 34), (.ixA 1 (.t 25) (.t 26)), none, []⟩, ⟨none, (.st 1 (.t 34) (.t 33)), none, []⟩] false))) (.reg [⟨(some 35), (.bin .add (.t 21) (.c (.int .i64 1))), none, []⟩, ⟨(some 21), (.mv (.t 35)), none, []⟩] false))))))))) (.reg [⟨(some 36), (.bin .add (.t 14) (.c (.int .i64 1))), none, []⟩, ⟨(some 14), (.mv (.t 36)), none, []⟩] false))))))) (.seq (.reg [⟨(some 37), (.mv (.t 3)), none, []⟩, ⟨(some 2), (.asg (.t 37) (some ⟨1, 32⟩)), none, []⟩] false) .ret))))
theorem dc18_c : (Try.f18.body.bind (cCode Try.prog Try.f18.ntmps)) = some dc18 := by kernel_rfl
theorem dc18_r : Try.f18.results.toList.mapM (cRes Try.prog) = some [(.t 2)] := by kernel_rfl
def flow_Before_enc (a : TFunc) : List D := [eFunc a]
def flow_Before_dec (ds : List D) : TFunc := uFunc (ds.getD 0 .top)
theorem flow_Before_de (a : TFunc) : flow_Before_dec (flow_Before_enc a) = a := by simp [flow_Before_dec, flow_Before_enc, uI, uBo, uS]
def flow_Before_R (b : (List (List Int))) : D := .sl (b.map (eL eI64))
def flow_Before_E (_b : (List (List Int))) : List D := []
noncomputable def flow_Before_S : Dw.Spec := fSpec [] .val flow_Before_enc flow_Before_dec (fun a => flow_Before a) flow_Before_R flow_Before_E
set_option maxHeartbeats 4000000 in
theorem flow_Before_ok : SpecOk Try.prog 18 flow_Before_S := by
  refine fn_ok (specs_ok (l := [(15, flow_Next_S)]) (by simp [flow_Next_ok])) Try.func18 (by decide) dc18_c dc18_r (np := 1) (by decide) flow_Before_de (fun _ => rfl) (fun _ => rfl) (by decide) ?_
  intro f1
  show TrE (specs [(15, flow_Next_S)]) dc18 (kRet [] .val [(.t 2)] flow_Before_R flow_Before_E) ⟨[(0, .agg [.int .i64 f1.Params, .sl (f1.Slots.map eSlot), .sl (f1.Code.map eInstr)])], [], 262144⟩ (flow_Before f1)
  refine tr_ent ?_
  unfold dc18 flow_Before
  refine tr_seq ?_
  refine tr_reg ?_
  refine trO_box rfl rfl rfl rfl rfl ?_
  refine trO_asg_nil (α := (List Int)) rfl (eL eI64) rfl ?_
  refine trO_nil ?_
  refine trX_seq ?_
  refine tr_seq ?_
  refine tr_reg ?_
  refine trO_fldA rfl rfl ?_
  refine trO_ld_obj (v := .sl (f1.Code.map eInstr)) (z := .agg [.int .i64 f1.Params, .sl (f1.Slots.map eSlot), .sl (f1.Code.map eInstr)]) rfl rfl rfl rfl rfl rfl ?_
  refine trO_len_sl rfl rfl ?_
  refine trO_chk fun hq => ?_
  refine trO_mkS_nil (α := Int) rfl rfl rfl hq rfl ?_
  refine trO_asg_own (l := List.replicate (f1.Code.length : Int).toNat ([] : (List Int))) (en := (fun _ => D.nils)) rfl rfl rfl rfl ?_
  refine trO_nil ?_
  refine trX_seq_has (E := [(1, .optr 1 _ 0 0), (3, .osl 4099 _ 0 ((List.replicate (f1.Code.length : Int).toNat ([] : (List Int))).length))]) (O := [(1, some (_, ⟨false, true, 3, 27, [.agg [.int .i64 f1.Params, .sl (f1.Slots.map eSlot), .sl (f1.Code.map eInstr)]]⟩)), (4099, some (_, ⟨false, false, 1, 32, (List.replicate (f1.Code.length : Int).toNat ([] : (List Int))).map (eR 1 3 eI64)⟩))]) ((has_enrich (g := 3) (g2 := 4099) rfl rfl rfl (enr_nils (l := List.replicate (f1.Code.length : Int).toNat ([] : (List Int))) (s' := 1) (ty' := 3) eI64 (by decide) (fun _ h => List.eq_of_mem_replicate h)) (has_exact ⟨rfl, rfl, trivial⟩ ⟨rfl, rfl, trivial⟩))) fun nn => ?_
  refine tr_seq ?_
  refine tr_seq ?_
  refine tr_reg ?_
  refine trO_fldA rfl rfl ?_
  refine trO_ld_obj (v := .sl (f1.Code.map eInstr)) (z := .agg [.int .i64 f1.Params, .sl (f1.Slots.map eSlot), .sl (f1.Code.map eInstr)]) rfl rfl rfl rfl rfl rfl ?_
  refine trO_len_sl rfl rfl ?_
  refine trO_mv rfl rfl ?_
  refine trO_nil ?_
  refine trX_seq ?_
  refine tr_block ?_
  refine tr_loop (E := fun (s : (List (List Int)) × Int) (g : Nat × Nat) => [(1, .optr 1 g.1 0 0), (3, .osl 4099 g.2 0 s.1.length), (13, .int .i64 (f1.Code.length : Int)), (14, .int .i64 s.2)]) (O := fun s g => [(1, some (g.1, ⟨false, true, 3, 27, [.agg [.int .i64 f1.Params, .sl (f1.Slots.map eSlot), .sl (f1.Code.map eInstr)]]⟩)), (4099, some (g.2, ⟨false, false, 1, 32, s.1.map (eR 1 3 eI64)⟩))]) (body := fun s => flow_Before_b1 f1 s.1 s.2) (s := (List.replicate (f1.Code.length : Int).toNat ([] : (List Int)), 0)) (_, _) ((has_exact ⟨rfl, rfl, rfl, rfl, trivial⟩ ⟨rfl, rfl, trivial⟩)) ?_
  rintro ⟨l2, x3⟩ ⟨v1, v4099⟩ nn
  show Tr _ _ _ ⟨[(1, .optr 1 v1 0 0), (3, .osl 4099 v4099 0 l2.length), (13, .int .i64 (f1.Code.length : Int)), (14, .int .i64 x3)], [(1, some (v1, ⟨false, true, 3, 27, [.agg [.int .i64 f1.Params, .sl (f1.Slots.map eSlot), .sl (f1.Code.map eInstr)]]⟩)), (4099, some (v4099, ⟨false, false, 1, 32, l2.map (eR 1 3 eI64)⟩))], _⟩ (flow_Before_b1 f1 l2 x3)
  unfold flow_Before_b1
  refine tr_seq ?_
  refine tr_reg ?_
  refine trO_bin (v := .bool (decide (x3 < (f1.Code.length : Int)))) rfl rfl rfl rfl rfl ?_
  refine trO_nil ?_
  refine trX_seq ?_
  refine tr_seq ?_
  refine tr_cond (c := (decide (x3 < (f1.Code.length : Int)))) rfl ?_ ?_
  ·
    refine tr_skip ?_
    refine trX_seq ?_
    refine tr_seq ?_
    refine tr_block ?_
    refine tr_seq ?_
    refine tr_reg ?_
    refine trO_mv rfl rfl ?_
    refine trO_asg rfl rfl ?_
    refine trO_nil ?_
    refine trX_seq ?_
    refine tr_seq ?_
    refine tr_reg ?_
    refine trO_ld_obj (v := .agg [.int .i64 f1.Params, .sl (f1.Slots.map eSlot), .sl (f1.Code.map eInstr)]) (z := .agg [.int .i64 f1.Params, .sl (f1.Slots.map eSlot), .sl (f1.Code.map eInstr)]) rfl rfl rfl rfl rfl rfl ?_
    refine trO_mv rfl rfl ?_
    refine trO_bind fun r4 hr4 => ?_
    refine trO_call_row (l := r4) (en := eI64) (f1, x3) rfl rfl rfl flow_Next_de rfl rfl (by simp) rfl hr4 rfl ?_
    refine trO_len_own rfl rfl ?_
    refine trO_mv rfl rfl ?_
    refine trO_nil ?_
    refine trX_seq ?_
    refine tr_block ?_
    refine tr_loop (E := fun (s : (List (List Int)) × Int) (g : Nat × Nat × Nat) => [(1, .optr 1 g.1 0 0), (3, .osl 4099 g.2.2 0 s.1.length), (4, .int .i64 x3), (13, .int .i64 (f1.Code.length : Int)), (14, .int .i64 x3), (19, .osl 19 g.2.1 0 r4.length), (20, .int .i64 (r4.length : Int)), (21, .int .i64 s.2)]) (O := fun s g => [(1, some (g.1, ⟨false, true, 3, 27, [.agg [.int .i64 f1.Params, .sl (f1.Slots.map eSlot), .sl (f1.Code.map eInstr)]]⟩)), (19, some (g.2.1, ⟨false, false, 1, 3, r4.map eI64⟩)), (4099, some (g.2.2, ⟨false, false, 1, 32, s.1.map (eR 1 3 eI64)⟩))]) (body := fun s => flow_Before_b2 r4 x3 s.1 s.2) (s := (l2, 0)) (_, _, _) ((has_exact ⟨rfl, rfl, rfl, rfl, rfl, rfl, rfl, rfl, trivial⟩ ⟨rfl, rfl, rfl, trivial⟩)) ?_
    rintro ⟨l5, x6⟩ ⟨v1, v19, v4099⟩ nn
    show Tr _ _ _ ⟨[(1, .optr 1 v1 0 0), (3, .osl 4099 v4099 0 l5.length), (4, .int .i64 x3), (13, .int .i64 (f1.Code.length : Int)), (14, .int .i64 x3), (19, .osl 19 v19 0 r4.length), (20, .int .i64 (r4.length : Int)), (21, .int .i64 x6)], [(1, some (v1, ⟨false, true, 3, 27, [.agg [.int .i64 f1.Params, .sl (f1.Slots.map eSlot), .sl (f1.Code.map eInstr)]]⟩)), (19, some (v19, ⟨false, false, 1, 3, r4.map eI64⟩)), (4099, some (v4099, ⟨false, false, 1, 32, l5.map (eR 1 3 eI64)⟩))], _⟩ (flow_Before_b2 r4 x3 l5 x6)
    unfold flow_Before_b2
    refine tr_seq ?_
    refine tr_reg ?_
    refine trO_bin (v := .bool (decide (x6 < (r4.length : Int)))) rfl rfl rfl rfl rfl ?_
    refine trO_nil ?_
    refine trX_seq ?_
    refine tr_seq ?_
    refine tr_cond (c := (decide (x6 < (r4.length : Int)))) rfl ?_ ?_
    ·
      refine tr_skip ?_
      refine trX_seq ?_
      refine tr_seq ?_
      refine tr_block ?_
      refine tr_seq ?_
      refine tr_reg ?_
      refine trO_chk fun hq => ?_
      refine trO_ixA_own (l := r4) (en := eI64) rfl rfl rfl rfl rfl hq ?_
      refine trO_bind fun x_e7 hx_e7 => ?_
      refine trO_ld_obj (v := .int .i64 x_e7) (z := eI64 x_e7) rfl rfl rfl (map_get hx_e7) rfl rfl ?_
      refine trO_asg rfl rfl ?_
      refine trO_nil ?_
      refine trX_seq ?_
      refine tr_reg ?_
      refine trO_mv rfl rfl ?_
      refine trO_mv rfl rfl ?_
      refine trO_mv rfl rfl ?_
      refine trO_mv rfl rfl ?_
      refine trO_chk fun hq => ?_
      refine trO_ixA_own (l := l5) (en := (eR 1 3 eI64)) rfl rfl rfl rfl rfl hq ?_
      refine trO_bind fun l_e8 hl_e8 => ?_
      refine trO_open1 (q := l_e8) eI64 rfl rfl rfl hl_e8 ?_
      refine trO_mv rfl rfl ?_
      refine trO_bldS ([x3] : List Int) eI64 rfl rfl rfl (by simp) rfl rfl rfl ?_
      refine trO_chk fun hq => ?_
      refine trO_app_r (l_e8) (([x3] : List Int)) eI64 rfl rfl rfl rfl rfl rfl rfl (by simp) (take_drop0_map' _ _ rfl) rfl rfl (by simp) (take_len_map' _ _ rfl) (fun _ => rfl) rfl hq (fun _ => rfl) ?_
      refine trO_chk fun hq => ?_
      refine trO_ixA_len (by simp) rfl rfl rfl rfl (by simpa using hq) ?_
      refine trO_st_row1 (l := l5) (q := l_e8) (q' := l_e8 ++ ([x3] : List Int)) eI64 rfl rfl rfl rfl (.inr ⟨_, _, rfl⟩) hl_e8 rfl rfl ⟨⟨rfl, rfl, by simp, plain_map fun _ => rfl⟩, trivial, rfl⟩ (congrArg (fun z => [D.row _ _ z]) (take_len_map' _ _ rfl)) rfl ?_
      refine trO_nil ?_
      refine trX_blk_normal ?_
      refine trX_seq ?_
      refine tr_reg ?_
      refine trO_bin (v := .int .i64 (IntKind.i64.wrap (x6 + 1))) rfl rfl rfl rfl rfl ?_
      refine trO_mv rfl rfl ?_
      refine trO_nil ?_
      exact trX_loop (s := (l5.set x_e7.toNat (l_e8 ++ ([x3] : List Int)), IntKind.i64.wrap (x6 + 1))) (_, _, _) ((has_exact ⟨rfl, (osl_len (q := l5.length) rfl (by simp)), rfl, rfl, rfl, rfl, rfl, rfl, trivial⟩ ⟨rfl, rfl, rfl, trivial⟩))
    ·
      refine tr_exit ?_
      refine trX_seq_exit ?_
      refine trX_loop_exit ?_
      refine trX_blk_here ?_
      refine trX_blk_normal ?_
      refine trX_seq ?_
      refine tr_reg ?_
      refine trO_bin (v := .int .i64 (IntKind.i64.wrap (x3 + 1))) rfl rfl rfl rfl rfl ?_
      refine trO_mv rfl rfl ?_
      refine trO_nil ?_
      exact trX_loop (s := (l5, IntKind.i64.wrap (x3 + 1))) (_, _) ((has_exact ⟨rfl, rfl, rfl, rfl, trivial⟩ ⟨rfl, rfl, trivial⟩))
  ·
    refine tr_exit ?_
    refine trX_seq_exit ?_
    refine trX_loop_exit ?_
    refine trX_blk_here ?_
    refine trX_seq_has (E := [(3, .osl 4099 _ 0 l2.length)]) (O := [(4099, some (_, ⟨false, false, 1, 32, l2.map (eL eI64)⟩))]) ((has_frows (g := 4099) rfl (frr_rows (l := l2) eI64 (fun _ => rfl)) (has_exact ⟨rfl, trivial⟩ ⟨rfl, trivial⟩))) fun nn => ?_
    refine tr_seq ?_
    refine tr_reg ?_
    refine trO_mv rfl rfl ?_
    refine trO_asg_own_r (l := l2) (en := (eL eI64)) rfl rfl rfl rfl (fun _ => rfl) ?_
    refine trO_nil ?_
    refine trX_seq ?_
    refine tr_ret ?_
    exact ret_val (b := l2) rfl (by first | (simp; done) | (simp; omega)) rfl rfl (by first | (simp; done) | (simp; omega)) (by first | rfl | (simp only [take_drop0_map, take_sub_map]; rfl) | simp [flow_Before_R])

def dc19 : DCode := (.seq (.reg [⟨(some 1), (.box (.t 0) 3 27), none, []⟩, ⟨(some 2), (.asg (.c .nils) (some ⟨1, 32⟩)), none, []⟩] false) (.seq (.reg [⟨(some 7), (.fldA 2 (.t 1)), none, []⟩, ⟨(some 8), (.ld 1 false (.t 7)), none, []⟩, ⟨(some 9), (.len false (.t 8)), none, []⟩, ⟨(some 10), (.mkS 1 32 24 .nils (.t 9) (.t 9)), none, []⟩, ⟨(some 3), (.asg (.t 10) (some ⟨1, 32⟩)), none, []⟩] false) (.seq (.seq (.reg [⟨(some 4), (.asg (.c (.int .i64 0)) none), none, []⟩] false) (.block 0 (.loop (.seq (.seq (.reg [⟨(some 11), (.mv (.t 4)), none, []⟩, ⟨(some 12), (.fldA 2 (.t 1)), none, []⟩, ⟨(some 13), (.ld 1 false (.t 12)), none, []⟩, ⟨(some 14), (.len false (.t 13)), none, []⟩, ⟨(some 15), (.bin .lss (.t 11) (.t 14)), none, []⟩] false) (.cond (.t 15) .skip (.exit 0))) (.seq (.block 1 (.seq (.reg [⟨(some 18), (.ld 3 true (.t 1)), none, []⟩, ⟨(some 19), (.mv (.t 4)), none, []⟩, ⟨(some 20), (.call (.c (.clo 16 [])) [(.t 18), (.t 19)]), none, []⟩, ⟨(some 5), (.asg (.t 20) (some ⟨1, 3⟩)), none, []⟩] false) (.seq (.reg [⟨(some 6), (.asg (.c (.int .i64 0)) none), none, []⟩] false) (.block 2 (.loop (.seq (.seq (.reg [⟨(some 21), (.mv (.t 6)), none, []⟩, ⟨(some 22), (.mv (.t 5)), none, []⟩, ⟨(some 23), (.len false (.t 22)), none, []⟩, ⟨(some 24), (.bin .lss (.t 21) (.t 23)), none, []⟩] false) (.cond (.t 24) .skip (.exit 2))) (.seq (.block 3 (.reg [⟨(some 27), (.mv (.t 3)), none, []⟩, ⟨(some 28), (.mv (.t 5)), none, []⟩, ⟨(some 29), (.mv (.t 6)), none, []⟩, ⟨(some 30), (.ixA 1 (.t 28) (.t 29)), none, [1, 2]⟩, ⟨(some 31), (.ld 1 false (.t 30)), none, [3]⟩, ⟨(some 32), (.mv (.t 3)), none, []⟩, ⟨(some 33), (.mv (.t 5)), none, []⟩, ⟨(some 34), (.mv (.t 6)), none, []⟩, ⟨(some 35), (.ixA 1 (.t 33) (.t 34)), none, [6, 7]⟩, ⟨(some 36), (.ld 1 false (.t 35)), none, [8]⟩, ⟨(some 37), (.ixA 1 (.t 32) (.t 36)), none, [5, 9]⟩, ⟨(some 38), (.ld 1 false (.t 37)), none, [10]⟩, ⟨(some 39), (.mv (.t 4)), none, []⟩, ⟨(some 40), (.bldS 1 3 (.int .i64 0) 1 [⟨0, (.t 39)⟩]), none, [12]⟩, ⟨(some 41), (.app 1 3 8 (.t 38) (.t 40)), none, [11, 13]⟩, ⟨(some 42), (.ixA 1 (.t 27) (.t 31)), none, [0, 4, 0, 1, 2, 3, 4, 5, 6, 7, 8, 9, 10, 11, 12, 13, 14]⟩, ⟨none, (.st 1 (.t 42) (.t 41)), none, [15, 14, 14, 0, 1, 2, 3, 4, 5, 6, 7, 8, 9, 10, 11, 12, 13, 14]⟩] true)) (.reg [⟨(some 25), (.mv (.t 6)), none, []⟩, ⟨(some 26), (.bin .add (.t 25) (.c (.int .i64 1))), none, []⟩, ⟨(some 6), (.asg (.t 26) none), none, []⟩] false)))))))) (.reg [⟨(some 16), (.mv (.t 4)), none, []⟩, ⟨(some 17), (.bin .add (.t 16) (.c (.int .i64 1))), none, []⟩, ⟨(some 4), (.asg (.t 17) none), none, []⟩] false)))))) (.seq (.reg [⟨(some 43), (.mv (.t 3)), none, []⟩, ⟨(some 2), (.asg (.t 43) (some ⟨1, 32⟩)), none, []⟩] false) .ret))))
theorem dc19_c : (Try.f19.body.bind (cCode Try.prog Try.f19.ntmps)) = some dc19 := by kernel_rfl
theorem dc19_r : Try.f19.results.toList.mapM (cRes Try.prog) = some [(.t 2)] := by kernel_rfl
def ref13_Before_enc (a : TFunc) : List D := [eFunc a]
def ref13_Before_dec (ds : List D) : TFunc := uFunc (ds.getD 0 .top)
theorem ref13_Before_de (a : TFunc) : ref13_Before_dec (ref13_Before_enc a) = a := by simp [ref13_Before_dec, ref13_Before_enc, uI, uBo, uS]
def ref13_Before_R (b : (List (List Int))) : D := .sl (b.map (eL eI64))
def ref13_Before_E (_b : (List (List Int))) : List D := []
noncomputable def ref13_Before_S : Dw.Spec := fSpec [] .val ref13_Before_enc ref13_Before_dec (fun a => ref13_Before a) ref13_Before_R ref13_Before_E
set_option maxHeartbeats 4000000 in
theorem ref13_Before_ok : SpecOk Try.prog 19 ref13_Before_S := by
  refine fn_ok (specs_ok (l := [(16, ref13_Next_S)]) (by simp [ref13_Next_ok])) Try.func19 (by decide) dc19_c dc19_r (np := 1) (by decide) ref13_Before_de (fun _ => rfl) (fun _ => rfl) (by decide) ?_
  intro f1
  show TrE (specs [(16, ref13_Next_S)]) dc19 (kRet [] .val [(.t 2)] ref13_Before_R ref13_Before_E) ⟨[(0, .agg [.int .i64 f1.Params, .sl (f1.Slots.map eSlot), .sl (f1.Code.map eInstr)])], [], 262144⟩ (ref13_Before f1)
  refine tr_ent ?_
  unfold dc19 ref13_Before
  refine tr_seq ?_
  refine tr_reg ?_
  refine trO_box rfl rfl rfl rfl rfl ?_
  refine trO_asg_nil (α := (List Int)) rfl (eL eI64) rfl ?_
  refine trO_nil ?_
  refine trX_seq ?_
  refine tr_seq ?_
  refine tr_reg ?_
  refine trO_fldA rfl rfl ?_
  refine trO_ld_obj (v := .sl (f1.Code.map eInstr)) (z := .agg [.int .i64 f1.Params, .sl (f1.Slots.map eSlot), .sl (f1.Code.map eInstr)]) rfl rfl rfl rfl rfl rfl ?_
  refine trO_len_sl rfl rfl ?_
  refine trO_chk fun hq => ?_
  refine trO_mkS_nil (α := Int) rfl rfl rfl hq rfl ?_
  refine trO_asg_own (l := List.replicate (f1.Code.length : Int).toNat ([] : (List Int))) (en := (fun _ => D.nils)) rfl rfl rfl rfl ?_
  refine trO_nil ?_
  refine trX_seq_has (E := [(1, .optr 1 _ 0 0), (3, .osl 4099 _ 0 ((List.replicate (f1.Code.length : Int).toNat ([] : (List Int))).length))]) (O := [(1, some (_, ⟨false, true, 3, 27, [.agg [.int .i64 f1.Params, .sl (f1.Slots.map eSlot), .sl (f1.Code.map eInstr)]]⟩)), (4099, some (_, ⟨false, false, 1, 32, (List.replicate (f1.Code.length : Int).toNat ([] : (List Int))).map (eR 1 3 eI64)⟩))]) ((has_enrich (g := 3) (g2 := 4099) rfl rfl rfl (enr_nils (l := List.replicate (f1.Code.length : Int).toNat ([] : (List Int))) (s' := 1) (ty' := 3) eI64 (by decide) (fun _ h => List.eq_of_mem_replicate h)) (has_exact ⟨rfl, rfl, trivial⟩ ⟨rfl, rfl, trivial⟩))) fun nn => ?_
  refine tr_seq ?_
  refine tr_seq ?_
  refine tr_reg ?_
  refine trO_asg rfl rfl ?_
  refine trO_nil ?_
  refine trX_seq ?_
  refine tr_block ?_
  refine tr_loop (E := fun (s : (List (List Int)) × Int) (g : Nat × Nat) => [(1, .optr 1 g.1 0 0), (3, .osl 4099 g.2 0 s.1.length), (4, .int .i64 s.2)]) (O := fun s g => [(1, some (g.1, ⟨false, true, 3, 27, [.agg [.int .i64 f1.Params, .sl (f1.Slots.map eSlot), .sl (f1.Code.map eInstr)]]⟩)), (4099, some (g.2, ⟨false, false, 1, 32, s.1.map (eR 1 3 eI64)⟩))]) (body := fun s => ref13_Before_b1 f1 s.1 s.2) (s := (List.replicate (f1.Code.length : Int).toNat ([] : (List Int)), 0)) (_, _) ((has_exact ⟨rfl, rfl, rfl, trivial⟩ ⟨rfl, rfl, trivial⟩)) ?_
  rintro ⟨out2, k3⟩ ⟨v1, v4099⟩ nn
  show Tr _ _ _ ⟨[(1, .optr 1 v1 0 0), (3, .osl 4099 v4099 0 out2.length), (4, .int .i64 k3)], [(1, some (v1, ⟨false, true, 3, 27, [.agg [.int .i64 f1.Params, .sl (f1.Slots.map eSlot), .sl (f1.Code.map eInstr)]]⟩)), (4099, some (v4099, ⟨false, false, 1, 32, out2.map (eR 1 3 eI64)⟩))], _⟩ (ref13_Before_b1 f1 out2 k3)
  unfold ref13_Before_b1
  refine tr_seq ?_
  refine tr_seq ?_
  refine tr_reg ?_
  refine trO_mv rfl rfl ?_
  refine trO_fldA rfl rfl ?_
  refine trO_ld_obj (v := .sl (f1.Code.map eInstr)) (z := .agg [.int .i64 f1.Params, .sl (f1.Slots.map eSlot), .sl (f1.Code.map eInstr)]) rfl rfl rfl rfl rfl rfl ?_
  refine trO_len_sl rfl rfl ?_
  refine trO_bin (v := .bool (decide (k3 < (f1.Code.length : Int)))) rfl rfl rfl rfl rfl ?_
  refine trO_nil ?_
  refine trX_seq ?_
  refine tr_cond (c := (decide (k3 < (f1.Code.length : Int)))) rfl ?_ ?_
  ·
    refine tr_skip ?_
    refine trX_seq ?_
    refine tr_seq_blk_cut (E := fun (s : (List (List Int))) (g : Nat × Nat) => [(1, .optr 1 g.1 0 0), (3, .osl 4099 g.2 0 s.length), (4, .int .i64 k3)]) (O := fun s g => [(1, some (g.1, ⟨false, true, 3, 27, [.agg [.int .i64 f1.Params, .sl (f1.Slots.map eSlot), .sl (f1.Code.map eInstr)]]⟩)), (4099, some (g.2, ⟨false, false, 1, 32, s.map (eR 1 3 eI64)⟩))]) (j := fun s => ref13_Before_j2 k3 s) ?_ ?_
    ·
      refine tr_seq ?_
      refine tr_reg ?_
      refine trO_ld_obj (v := .agg [.int .i64 f1.Params, .sl (f1.Slots.map eSlot), .sl (f1.Code.map eInstr)]) (z := .agg [.int .i64 f1.Params, .sl (f1.Slots.map eSlot), .sl (f1.Code.map eInstr)]) rfl rfl rfl rfl rfl rfl ?_
      refine trO_mv rfl rfl ?_
      refine trO_bind fun r5 hr5 => ?_
      refine trO_call_row (l := r5) (en := eI64) (f1, k3) rfl rfl rfl ref13_Next_de rfl rfl (by simp) rfl hr5 rfl ?_
      refine trO_asg_own (l := r5) (en := eI64) rfl rfl rfl rfl ?_
      refine trO_nil ?_
      refine trX_seq ?_
      refine tr_seq ?_
      refine tr_reg ?_
      refine trO_asg rfl rfl ?_
      refine trO_nil ?_
      refine trX_seq ?_
      refine tr_block ?_
      refine tr_loop (E := fun (s : (List (List Int)) × Int) (g : Nat × Nat × Nat) => [(1, .optr 1 g.1 0 0), (3, .osl 4099 g.2.2 0 s.1.length), (4, .int .i64 k3), (5, .osl 5 g.2.1 0 r5.length), (6, .int .i64 s.2)]) (O := fun s g => [(1, some (g.1, ⟨false, true, 3, 27, [.agg [.int .i64 f1.Params, .sl (f1.Slots.map eSlot), .sl (f1.Code.map eInstr)]]⟩)), (5, some (g.2.1, ⟨false, false, 1, 3, r5.map eI64⟩)), (4099, some (g.2.2, ⟨false, false, 1, 32, s.1.map (eR 1 3 eI64)⟩))]) (body := fun s => ref13_Before_b3 r5 k3 s.1 s.2) (s := (out2, 0)) (_, _, _) ((has_exact ⟨rfl, rfl, rfl, rfl, rfl, trivial⟩ ⟨rfl, rfl, rfl, trivial⟩)) ?_
      rintro ⟨out6, i7⟩ ⟨v1, v5, v4099⟩ nn
      show Tr _ _ _ ⟨[(1, .optr 1 v1 0 0), (3, .osl 4099 v4099 0 out6.length), (4, .int .i64 k3), (5, .osl 5 v5 0 r5.length), (6, .int .i64 i7)], [(1, some (v1, ⟨false, true, 3, 27, [.agg [.int .i64 f1.Params, .sl (f1.Slots.map eSlot), .sl (f1.Code.map eInstr)]]⟩)), (5, some (v5, ⟨false, false, 1, 3, r5.map eI64⟩)), (4099, some (v4099, ⟨false, false, 1, 32, out6.map (eR 1 3 eI64)⟩))], _⟩ (ref13_Before_b3 r5 k3 out6 i7)
      unfold ref13_Before_b3
      refine tr_seq ?_
      refine tr_seq ?_
      refine tr_reg ?_
      refine trO_mv rfl rfl ?_
      refine trO_mv rfl rfl ?_
      refine trO_len_own rfl rfl ?_
      refine trO_bin (v := .bool (decide (i7 < (r5.length : Int)))) rfl rfl rfl rfl rfl ?_
      refine trO_nil ?_
      refine trX_seq ?_
      refine tr_cond (c := (decide (i7 < (r5.length : Int)))) rfl ?_ ?_
      ·
        refine tr_skip ?_
        refine trX_seq ?_
        refine tr_seq ?_
        refine tr_block ?_
        refine tr_reg ?_
        refine trO_mv rfl rfl ?_
        refine trO_mv rfl rfl ?_
        refine trO_mv rfl rfl ?_
        refine trO_chk fun hq => ?_
        refine trO_ixA_own (l := r5) (en := eI64) rfl rfl rfl rfl rfl hq ?_
        refine trO_bind fun l_e8 hl_e8 => ?_
        refine trO_ld_obj (v := .int .i64 l_e8) (z := eI64 l_e8) rfl rfl rfl (map_get hl_e8) rfl rfl ?_
        refine trO_mv rfl rfl ?_
        refine trO_mv rfl rfl ?_
        refine trO_mv rfl rfl ?_
        refine trO_chk fun hq => ?_
        refine trO_ixA_own (l := r5) (en := eI64) rfl rfl rfl rfl rfl hq ?_
        refine trO_ld_obj (v := .int .i64 l_e8) (z := eI64 l_e8) rfl rfl rfl (map_get hl_e8) rfl rfl ?_
        refine trO_chk fun hq => ?_
        refine trO_ixA_own (l := out6) (en := (eR 1 3 eI64)) rfl rfl rfl rfl rfl hq ?_
        refine trO_bind fun out_e10 hout_e10 => ?_
        refine trO_open1 (q := out_e10) eI64 rfl rfl rfl hout_e10 ?_
        refine trO_mv rfl rfl ?_
        refine trO_bldS ([k3] : List Int) eI64 rfl rfl rfl (by simp) rfl rfl rfl ?_
        refine trO_chk fun hq => ?_
        refine trO_app_r (out_e10) (([k3] : List Int)) eI64 rfl rfl rfl rfl rfl rfl rfl (by simp) (take_drop0_map' _ _ rfl) rfl rfl (by simp) (take_len_map' _ _ rfl) (fun _ => rfl) rfl hq (fun _ => rfl) ?_
        refine trO_chk fun hq => ?_
        refine trO_ixA_len (by simp) rfl rfl rfl rfl (by simpa using hq) ?_
        refine trO_st_row1 (l := out6) (q := out_e10) (q' := out_e10 ++ ([k3] : List Int)) eI64 rfl rfl rfl rfl (.inr ⟨_, _, rfl⟩) hout_e10 rfl rfl ⟨⟨rfl, rfl, by simp, plain_map fun _ => rfl⟩, trivial, rfl⟩ (congrArg (fun z => [D.row _ _ z]) (take_len_map' _ _ rfl)) rfl ?_
        refine trO_nil_draw (by kernel_rfl) ?_
        refine trX_blk_normal ?_
        refine trX_seq ?_
        refine tr_reg ?_
        refine trO_mv rfl rfl ?_
        refine trO_bin (v := .int .i64 (IntKind.i64.wrap (i7 + 1))) rfl rfl rfl rfl rfl ?_
        refine trO_asg rfl rfl ?_
        refine trO_nil ?_
        exact trX_loop (s := (out6.set l_e8.toNat (out_e10 ++ ([k3] : List Int)), IntKind.i64.wrap (i7 + 1))) (_, _, _) ((has_exact ⟨rfl, (osl_len (q := out6.length) rfl (by simp)), rfl, rfl, rfl, trivial⟩ ⟨rfl, rfl, rfl, trivial⟩))
      ·
        refine tr_exit ?_
        refine trX_seq_exit ?_
        refine trX_loop_exit ?_
        refine trX_blk_here ?_
        exact trX_bcut_normal (s := out6) (_, _) ((has_exact ⟨rfl, rfl, rfl, trivial⟩ ⟨rfl, rfl, trivial⟩))
    ·
      rintro out4 ⟨v1, v4099⟩ nn
      show Tr _ _ _ ⟨[(1, .optr 1 v1 0 0), (3, .osl 4099 v4099 0 out4.length), (4, .int .i64 k3)], [(1, some (v1, ⟨false, true, 3, 27, [.agg [.int .i64 f1.Params, .sl (f1.Slots.map eSlot), .sl (f1.Code.map eInstr)]]⟩)), (4099, some (v4099, ⟨false, false, 1, 32, out4.map (eR 1 3 eI64)⟩))], _⟩ (ref13_Before_j2 k3 out4)
      unfold ref13_Before_j2
      refine tr_reg ?_
      refine trO_mv rfl rfl ?_
      refine trO_bin (v := .int .i64 (IntKind.i64.wrap (k3 + 1))) rfl rfl rfl rfl rfl ?_
      refine trO_asg rfl rfl ?_
      refine trO_nil ?_
      exact trX_loop (s := (out4, IntKind.i64.wrap (k3 + 1))) (_, _) ((has_exact ⟨rfl, rfl, rfl, trivial⟩ ⟨rfl, rfl, trivial⟩))
  ·
    refine tr_exit ?_
    refine trX_seq_exit ?_
    refine trX_loop_exit ?_
    refine trX_blk_here ?_
    refine trX_seq_has (E := [(3, .osl 4099 _ 0 out2.length)]) (O := [(4099, some (_, ⟨false, false, 1, 32, out2.map (eL eI64)⟩))]) ((has_frows (g := 4099) rfl (frr_rows (l := out2) eI64 (fun _ => rfl)) (has_exact ⟨rfl, trivial⟩ ⟨rfl, trivial⟩))) fun nn => ?_
    refine tr_seq ?_
    refine tr_reg ?_
    refine trO_mv rfl rfl ?_
    refine trO_asg_own_r (l := out2) (en := (eL eI64)) rfl rfl rfl rfl (fun _ => rfl) ?_
    refine trO_nil ?_
    refine trX_seq ?_
    refine tr_ret ?_
    exact ret_val (b := out2) rfl (by first | (simp; done) | (simp; omega)) rfl rfl (by first | (simp; done) | (simp; omega)) (by first | rfl | (simp only [take_drop0_map, take_sub_map]; rfl) | simp [ref13_Before_R])

def dc3 : DCode := (.seq (.reg [⟨(some 4), (.asg (.c (.bool false)) none), none, []⟩] false) (.seq (.seq (.reg [⟨(some 8), (.call (.c (.clo 12 [])) []), none, []⟩, ⟨(some 9), (.un .not (.t 8)), none, []⟩] false) (.cond (.t 9) (.seq (.reg [⟨(some 4), (.asg (.c (.bool false)) none), none, []⟩] false) .ret) .skip)) (.seq (.reg [⟨(some 11), (.mv (.t 0)), none, []⟩, ⟨(some 12), (.call (.c (.clo 13 [])) [(.t 11)]), none, []⟩, ⟨(some 10), (.mv (.t 12)), none, []⟩, ⟨(some 13), (.ext (.t 10) 0), none, []⟩, ⟨(some 14), (.ext (.t 10) 1), none, []⟩, ⟨(some 5), (.new (.agg [(.int .i64 0), .nils, .nils]) 3 27), none, []⟩, ⟨none, (.st 3 (.t 5) (.t 13)), none, []⟩, ⟨(some 6), (.asg (.t 14) none), none, []⟩] false) (.seq (.seq (.reg [⟨(some 7), (.asg (.c (.int .i64 0)) none), none, []⟩] false) (.block 0 (.loop (.seq (.seq (.reg [⟨(some 15), (.mv (.t 7)), none, []⟩, ⟨(some 16), (.fldA 2 (.t 5)), none, []⟩, ⟨(some 17), (.ld 1 false (.t 16)), none, []⟩, ⟨(some 18), (.len false (.t 17)), none, []⟩, ⟨(some 19), (.bin .lss (.t 15) (.t 18)), none, []⟩] false) (.cond (.t 19) .skip (.exit 0))) (.seq (.block 1 (.seq (.reg [⟨(some 22), (.ld 3 true (.t 5)), none, []⟩, ⟨(some 23), (.mv (.t 7)), none, []⟩, ⟨(some 24), (.call (.c (.clo 15 [])) [(.t 22), (.t 23)]), none, [0, 1]⟩, ⟨(some 25), (.ld 3 true (.t 5)), none, []⟩, ⟨(some 26), (.mv (.t 7)), none, []⟩, ⟨(some 27), (.call (.c (.clo 16 [])) [(.t 25), (.t 26)]), none, [3, 4, 2]⟩, ⟨(some 28), (.call (.c (.clo 14 [])) [(.t 24), (.t 27)]), none, [2, 5, 5]⟩, ⟨(some 29), (.un .not (.t 28)), none, [6]⟩] true) (.cond (.t 29) (.seq (.reg [⟨(some 4), (.asg (.c (.bool false)) none), none, []⟩] false) .ret) .skip))) (.reg [⟨(some 20), (.mv (.t 7)), none, []⟩, ⟨(some 21), (.bin .add (.t 20) (.c (.int .i64 1))), none, []⟩, ⟨(some 7), (.asg (.t 21) none), none, []⟩] false)))))) (.seq (.reg [⟨(some 30), (.ld 3 true (.t 5)), none, []⟩, ⟨(some 31), (.mv (.t 1)), none, []⟩, ⟨(some 32), (.call (.c (.clo 15 [])) [(.t 30), (.t 31)]), none, [0, 1]⟩, ⟨(some 33), (.ld 3 true (.t 5)), none, []⟩, ⟨(some 34), (.mv (.t 1)), none, []⟩, ⟨(some 35), (.call (.c (.clo 16 [])) [(.t 33), (.t 34)]), none, [3, 4, 2]⟩, ⟨(some 36), (.call (.c (.clo 14 [])) [(.t 32), (.t 35)]), none, [2, 5, 5]⟩, ⟨(some 37), (.mv (.t 36)), none, [6, 6]⟩, ⟨(some 38), (.ld 3 true (.t 5)), (some ⟨37, true⟩), [7]⟩, ⟨(some 39), (.call (.c (.clo 18 [])) [(.t 38)]), (some ⟨37, true⟩), [8, 7, 7]⟩, ⟨(some 40), (.ld 3 true (.t 5)), (some ⟨37, true⟩), [7]⟩, ⟨(some 41), (.call (.c (.clo 19 [])) [(.t 40)]), (some ⟨37, true⟩), [10, 9, 7]⟩, ⟨(some 42), (.call (.c (.clo 17 [])) [(.t 39), (.t 41)]), (some ⟨37, true⟩), [9, 11, 11, 7]⟩, ⟨(some 43), (.pick (.t 37) (.t 42) (.c (.bool false))), none, [7, 12]⟩, ⟨(some 4), (.asg (.t 43) none), none, [13, 12, 0, 1, 2, 3, 4, 5, 6, 7, 8, 9, 10, 11, 12, 13]⟩] true) .ret)))))
theorem dc3_c : (Try.f3.body.bind (cCode Try.prog Try.f3.ntmps)) = some dc3 := by kernel_rfl
theorem dc3_r : Try.f3.results.toList.mapM (cRes Try.prog) = some [(.t 4)] := by kernel_rfl
def law13_FlowNext_enc (a : (List Int) × Int) : List D := [.sl (a.1.map eU8), .int .i64 a.2]
def law13_FlowNext_dec (ds : List D) : (List Int) × Int := ((uL uI) (ds.getD 0 .top), uI (ds.getD 1 .top))
theorem law13_FlowNext_de (a : (List Int) × Int) : law13_FlowNext_dec (law13_FlowNext_enc a) = a := by simp [law13_FlowNext_dec, law13_FlowNext_enc, uI, uBo, uS, uL_e (u := uI) (en := eU8) (fun _ => rfl)]
def law13_FlowNext_R (b : Bool) : D := .bool b
def law13_FlowNext_E (_b : Bool) : List D := []
noncomputable def law13_FlowNext_S : Dw.Spec := fSpec [] .ground law13_FlowNext_enc law13_FlowNext_dec (fun a => law13_FlowNext a.1 a.2) law13_FlowNext_R law13_FlowNext_E
set_option maxHeartbeats 4000000 in
theorem law13_FlowNext_ok : SpecOk Try.prog 3 law13_FlowNext_S := by
  refine fn_ok (specs_ok (l := [(12, law13_awake_S), (13, law13_function_S), (15, flow_Next_S), (16, ref13_Next_S), (14, ref04_Same_S), (18, flow_Before_S), (19, ref13_Before_S), (17, ref04_SameAll_S)]) (by simp [law13_awake_ok, law13_function_ok, flow_Next_ok, ref13_Next_ok, ref04_Same_ok, flow_Before_ok, ref13_Before_ok, ref04_SameAll_ok])) Try.func3 (by decide) dc3_c dc3_r (np := 2) (by decide) law13_FlowNext_de (fun _ => rfl) (fun _ => rfl) (by decide) ?_
  rintro ⟨codes1, k2⟩
  show TrE (specs [(12, law13_awake_S), (13, law13_function_S), (15, flow_Next_S), (16, ref13_Next_S), (14, ref04_Same_S), (18, flow_Before_S), (19, ref13_Before_S), (17, ref04_SameAll_S)]) dc3 (kRet [] .ground [(.t 4)] law13_FlowNext_R law13_FlowNext_E) ⟨[(0, .sl (codes1.map eU8)), (1, .int .i64 k2)], [], 262144⟩ (law13_FlowNext codes1 k2)
  refine tr_ent ?_
  unfold dc3 law13_FlowNext
  refine tr_seq ?_
  refine tr_reg ?_
  refine trO_asg rfl rfl ?_
  refine trO_nil ?_
  refine trX_seq ?_
  refine tr_seq ?_
  refine tr_seq ?_
  refine tr_reg ?_
  refine trO_bind fun r3 hr3 => ?_
  refine trO_call_ground () rfl rfl rfl law13_awake_de rfl rfl (by simp) rfl hr3 rfl ?_
  refine trO_un (w := .bool (!r3)) rfl rfl rfl rfl trivial ?_
  refine trO_nil ?_
  refine trX_seq ?_
  refine tr_cond (c := (!r3)) rfl ?_ ?_
  ·
    refine tr_seq ?_
    refine tr_reg ?_
    refine trO_asg rfl rfl ?_
    refine trO_nil ?_
    refine trX_seq ?_
    refine tr_ret ?_
    refine trX_seq_ret ?_
    exact ret_ground (b := false) rfl (by first | (simp; done) | (simp; omega)) rfl rfl (by first | (simp; done) | (simp; omega)) rfl
  ·
    refine tr_skip ?_
    refine trX_seq ?_
    refine tr_seq ?_
    refine tr_reg ?_
    refine trO_mv rfl rfl ?_
    refine trO_bind fun r4 hr4 => ?_
    refine trO_call_tupPtr (rs := [eFunc r4.1, edraw_Codes r4.2]) (z := edraw_Codes r4.2) codes1 rfl rfl rfl law13_function_de rfl rfl (by simp) rfl hr4 rfl rfl ?_
    refine trO_mv rfl rfl ?_
    refine trO_ext (v := .agg [.int .i64 r4.1.Params, .sl (r4.1.Slots.map eSlot), .sl (r4.1.Code.map eInstr)]) rfl rfl rfl ?_
    refine trO_ext (v := .optr 12 _ 0 0) rfl rfl rfl ?_
    refine trO_new rfl ?_
    refine trO_st_var (z' := .agg [.int .i64 r4.1.Params, .sl (r4.1.Slots.map eSlot), .sl (r4.1.Code.map eInstr)]) rfl rfl rfl rfl rfl rfl rfl rfl rfl ?_
    refine trO_asg rfl rfl ?_
    refine trO_nil ?_
    refine trX_seq ?_
    refine tr_seq ?_
    refine tr_seq ?_
    refine tr_reg ?_
    refine trO_asg rfl rfl ?_
    refine trO_nil ?_
    refine trX_seq ?_
    refine tr_block ?_
    refine tr_loop (E := fun (s : Int) (g : Nat) => [(1, .int .i64 k2), (5, .optr 5 g 0 0), (7, .int .i64 s)]) (O := fun s g => [(5, some (g, ⟨false, true, 3, 27, [.agg [.int .i64 r4.1.Params, .sl (r4.1.Slots.map eSlot), .sl (r4.1.Code.map eInstr)]]⟩))]) (body := fun s => law13_FlowNext_b1 r4 k2 s) (s := 0) _ ((has_exact ⟨rfl, rfl, rfl, trivial⟩ ⟨rfl, trivial⟩)) ?_
    rintro i5 v5 nn
    show Tr _ _ _ ⟨[(1, .int .i64 k2), (5, .optr 5 v5 0 0), (7, .int .i64 i5)], [(5, some (v5, ⟨false, true, 3, 27, [.agg [.int .i64 r4.1.Params, .sl (r4.1.Slots.map eSlot), .sl (r4.1.Code.map eInstr)]]⟩))], _⟩ (law13_FlowNext_b1 r4 k2 i5)
    unfold law13_FlowNext_b1
    refine tr_seq ?_
    refine tr_seq ?_
    refine tr_reg ?_
    refine trO_mv rfl rfl ?_
    refine trO_fldA rfl rfl ?_
    refine trO_ld_obj (v := .sl (r4.1.Code.map eInstr)) (z := .agg [.int .i64 r4.1.Params, .sl (r4.1.Slots.map eSlot), .sl (r4.1.Code.map eInstr)]) rfl rfl rfl rfl rfl rfl ?_
    refine trO_len_sl rfl rfl ?_
    refine trO_bin (v := .bool (decide (i5 < (r4.1.Code.length : Int)))) rfl rfl rfl rfl rfl ?_
    refine trO_nil ?_
    refine trX_seq ?_
    refine tr_cond (c := (decide (i5 < (r4.1.Code.length : Int)))) rfl ?_ ?_
    ·
      refine tr_skip ?_
      refine trX_seq ?_
      refine tr_seq ?_
      refine tr_block ?_
      refine tr_seq ?_
      refine tr_reg ?_
      refine trO_ld_obj (v := .agg [.int .i64 r4.1.Params, .sl (r4.1.Slots.map eSlot), .sl (r4.1.Code.map eInstr)]) (z := .agg [.int .i64 r4.1.Params, .sl (r4.1.Slots.map eSlot), .sl (r4.1.Code.map eInstr)]) rfl rfl rfl rfl rfl rfl ?_
      refine trO_mv rfl rfl ?_
      refine trO_bind fun r6 hr6 => ?_
      refine trO_call_row (l := r6) (en := eI64) (r4.1, i5) rfl rfl rfl flow_Next_de rfl rfl (by simp) rfl hr6 rfl ?_
      refine trO_ld_obj (v := .agg [.int .i64 r4.1.Params, .sl (r4.1.Slots.map eSlot), .sl (r4.1.Code.map eInstr)]) (z := .agg [.int .i64 r4.1.Params, .sl (r4.1.Slots.map eSlot), .sl (r4.1.Code.map eInstr)]) rfl rfl rfl rfl rfl rfl ?_
      refine trO_mv rfl rfl ?_
      refine trO_bind fun r7 hr7 => ?_
      refine trO_call_row (l := r7) (en := eI64) (r4.1, i5) rfl rfl rfl ref13_Next_de rfl rfl (by simp) rfl hr7 rfl ?_
      refine trO_bind fun r8 hr8 => ?_
      refine trO_call_ground (r6, r7) rfl rfl rfl ref04_Same_de rfl rfl (by simp) (by first | rfl | (simp only [take_drop0_map, take_sub_map]; rfl) | simp [ref04_Same_enc]) hr8 rfl ?_
      refine trO_un (w := .bool (!r8)) rfl rfl rfl rfl trivial ?_
      refine trO_nil_draw (by kernel_rfl) ?_
      refine trX_seq ?_
      refine tr_cond (c := (!r8)) rfl ?_ ?_
      ·
        refine tr_seq ?_
        refine tr_reg ?_
        refine trO_asg rfl rfl ?_
        refine trO_nil ?_
        refine trX_seq ?_
        refine tr_ret ?_
        refine trX_blk_ret ?_
        refine trX_seq_ret ?_
        refine trX_loop_ret ?_
        refine trX_blk_ret ?_
        refine trX_seq_ret ?_
        exact ret_ground (b := false) rfl (by first | (simp; done) | (simp; omega)) rfl rfl (by first | (simp; done) | (simp; omega)) rfl
      ·
        refine tr_skip ?_
        refine trX_blk_normal ?_
        refine trX_seq ?_
        refine tr_reg ?_
        refine trO_mv rfl rfl ?_
        refine trO_bin (v := .int .i64 (IntKind.i64.wrap (i5 + 1))) rfl rfl rfl rfl rfl ?_
        refine trO_asg rfl rfl ?_
        refine trO_nil ?_
        exact trX_loop (s := IntKind.i64.wrap (i5 + 1)) _ ((has_exact ⟨rfl, rfl, rfl, trivial⟩ ⟨rfl, trivial⟩))
    ·
      refine tr_exit ?_
      refine trX_seq_exit ?_
      refine trX_loop_exit ?_
      refine trX_blk_here ?_
      refine trX_seq ?_
      refine tr_seq ?_
      refine tr_reg ?_
      refine trO_ld_obj (v := .agg [.int .i64 r4.1.Params, .sl (r4.1.Slots.map eSlot), .sl (r4.1.Code.map eInstr)]) (z := .agg [.int .i64 r4.1.Params, .sl (r4.1.Slots.map eSlot), .sl (r4.1.Code.map eInstr)]) rfl rfl rfl rfl rfl rfl ?_
      refine trO_mv rfl rfl ?_
      refine trO_bind fun r9 hr9 => ?_
      refine trO_call_row (l := r9) (en := eI64) (r4.1, k2) rfl rfl rfl flow_Next_de rfl rfl (by simp) rfl hr9 rfl ?_
      refine trO_ld_obj (v := .agg [.int .i64 r4.1.Params, .sl (r4.1.Slots.map eSlot), .sl (r4.1.Code.map eInstr)]) (z := .agg [.int .i64 r4.1.Params, .sl (r4.1.Slots.map eSlot), .sl (r4.1.Code.map eInstr)]) rfl rfl rfl rfl rfl rfl ?_
      refine trO_mv rfl rfl ?_
      refine trO_bind fun r10 hr10 => ?_
      refine trO_call_row (l := r10) (en := eI64) (r4.1, k2) rfl rfl rfl ref13_Next_de rfl rfl (by simp) rfl hr10 rfl ?_
      refine trO_bind fun r11 hr11 => ?_
      refine trO_call_ground (r9, r10) rfl rfl rfl ref04_Same_de rfl rfl (by simp) (by first | rfl | (simp only [take_drop0_map, take_sub_map]; rfl) | simp [ref04_Same_enc]) hr11 rfl ?_
      refine trO_mv rfl rfl ?_
      refine trO_split 37 (b := r11) rfl ?_ ?_
      ·
        refine trO_ld_obj (v := .agg [.int .i64 r4.1.Params, .sl (r4.1.Slots.map eSlot), .sl (r4.1.Code.map eInstr)]) (z := .agg [.int .i64 r4.1.Params, .sl (r4.1.Slots.map eSlot), .sl (r4.1.Code.map eInstr)]) rfl rfl rfl rfl rfl rfl ?_
        refine trO_bind fun r12 hr12 => ?_
        refine trO_call_val r4.1 rfl rfl rfl flow_Before_de rfl rfl (by simp) rfl hr12 ?_
        refine trO_ld_obj (v := .agg [.int .i64 r4.1.Params, .sl (r4.1.Slots.map eSlot), .sl (r4.1.Code.map eInstr)]) (z := .agg [.int .i64 r4.1.Params, .sl (r4.1.Slots.map eSlot), .sl (r4.1.Code.map eInstr)]) rfl rfl rfl rfl rfl rfl ?_
        refine trO_bind fun r13 hr13 => ?_
        refine trO_call_val r4.1 rfl rfl rfl ref13_Before_de rfl rfl (by simp) rfl hr13 ?_
        refine trO_bind fun r14 hr14 => ?_
        refine trO_call_ground (r12, r13) rfl rfl rfl ref04_SameAll_de rfl rfl (by simp) rfl hr14 rfl ?_
        refine trO_pick_true rfl rfl rfl rfl ?_
        refine trO_asg rfl rfl ?_
        refine trO_nil_draw (by kernel_rfl) ?_
        refine trX_seq ?_
        refine tr_ret ?_
        exact ret_ground (b := r14) rfl (by first | (simp; done) | (simp; omega)) rfl rfl (by first | (simp; done) | (simp; omega)) rfl
      ·
        refine trO_off rfl ?_
        refine trO_off rfl ?_
        refine trO_off rfl ?_
        refine trO_off rfl ?_
        refine trO_off rfl ?_
        refine trO_pick_false rfl rfl rfl rfl ?_
        refine trO_asg rfl rfl ?_
        refine trO_nil_draw (by kernel_rfl) ?_
        refine trX_seq ?_
        refine tr_ret ?_
        exact ret_ground (b := false) rfl (by first | (simp; done) | (simp; omega)) rfl rfl (by first | (simp; done) | (simp; omega)) rfl

end Go.Proofs.Ytlphpepmbcbmiaa
