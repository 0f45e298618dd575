/-
  Programs on typed data, and the proofs that the code does what they say; written by a program (dx.py).
-/
import Derived.Test.YtlphpepmbcbmiaaProg
import Derived.Test.YtlphpepmbcbmiaaDx6
import Derived.Test.YtlphpepmbcbmiaaDy1
import Derived.KernelRfl
import Derived.Test.YtlphpepmbcbmiaaDxP
import Derived.Test.YtlphpepmbcbmiaaDxF1
import Derived.Test.YtlphpepmbcbmiaaDxF2
namespace Go.Proofs.Ytlphpepmbcbmiaa
open Go Go.Dw Go.Proofs
set_option maxRecDepth 100000
def dc13 : DCode := (.seq (.reg [⟨(some 2), (.new (.agg [(.int .i64 0), .nils, .nils]) 3 27), none, []⟩, ⟨(some 3), (.asg (.c .top) none), none, []⟩] false) (.seq (.reg [⟨(some 6), (.mv (.t 0)), none, []⟩, ⟨(some 7), (.call (.c (.clo 37 [])) [(.t 6), (.c (.int .i64 250))]), none, []⟩, ⟨(some 4), (.asg (.t 7) none), none, []⟩] false) (.seq (.reg [⟨(some 8), (.mv (.t 4)), none, []⟩, ⟨(some 9), (.call (.c (.clo 38 [])) [(.t 8), (.c (.int .i64 3)), (.c (.int .i64 16))]), none, []⟩, ⟨(some 5), (.new (.agg [.nils]) 1 56), none, []⟩, ⟨none, (.st 1 (.t 5) (.t 9)), none, []⟩] false) (.seq (.reg [⟨(some 10), (.fldA 0 (.t 5)), none, []⟩, ⟨(some 11), (.ld 1 false (.t 10)), none, [0]⟩, ⟨(some 12), (.mv (.t 4)), none, []⟩, ⟨(some 13), (.fldA 0 (.t 5)), none, []⟩, ⟨(some 14), (.ld 1 false (.t 13)), none, [3]⟩, ⟨(some 15), (.len false (.t 14)), none, [4]⟩, ⟨(some 16), (.call (.c (.clo 39 [])) [(.t 12), (.t 15)]), none, [2, 5]⟩, ⟨(some 17), (.ixA 3 (.t 11) (.t 16)), none, [1, 6]⟩, ⟨(some 18), (.ld 3 true (.t 17)), none, [7]⟩, ⟨(some 19), (.mv (.t 4)), none, []⟩, ⟨none, (.st 3 (.t 2) (.t 18)), none, [8, 6, 0, 1, 2, 3, 4, 5, 6, 7, 8]⟩, ⟨(some 3), (.asg (.t 19) none), none, [9, 10, 0, 1, 2, 3, 4, 5, 6, 7, 8, 9, 10]⟩] true) .ret))))
theorem dc13_c : (Try.f13.body.bind (cCode Try.prog Try.f13.ntmps)) = some dc13 := by kernel_rfl
theorem dc13_r : Try.f13.results.toList.mapM (cRes Try.prog) = some [(.c 2 3 true), (.t 3)] := by kernel_rfl
def law13_function_enc (a : (List Int)) : List D := [.sl (a.map eU8)]
def law13_function_dec (ds : List D) : (List Int) := (uL uI) (ds.getD 0 .top)
theorem law13_function_de (a : (List Int)) : law13_function_dec (law13_function_enc a) = a := by simp [law13_function_dec, law13_function_enc, uI, uBo, uS, uL_e (u := uI) (en := eU8) (fun _ => rfl)]
def law13_function_R (b : TFunc × Tdraw_Codes) : D := .tup [eFunc b.1, edraw_Codes b.2]
def law13_function_E (_b : TFunc × Tdraw_Codes) : List D := []
noncomputable def law13_function_S : Dw.Spec := fSpec [] (.tupPtr 1 2 80) law13_function_enc law13_function_dec (fun a => law13_function a) law13_function_R law13_function_E
set_option maxHeartbeats 4000000 in
theorem law13_function_ok : SpecOk Try.prog 13 law13_function_S := by
  refine fn_ok (specs_ok (l := [(37, draw_New_S), (38, draw_Codes_Program_S), (39, draw_Codes_Next_S)]) (by simp [draw_New_ok, draw_Codes_Program_ok, draw_Codes_Next_ok])) Try.func13 (by decide) dc13_c dc13_r (np := 1) (by decide) law13_function_de (fun _ => rfl) (fun _ => rfl) (by decide) ?_
  intro codes1
  show TrE (specs [(37, draw_New_S), (38, draw_Codes_Program_S), (39, draw_Codes_Next_S)]) dc13 (kRet [] (.tupPtr 1 2 80) [(.c 2 3 true), (.t 3)] law13_function_R law13_function_E) ⟨[(0, .sl (codes1.map eU8))], [], 262144⟩ (law13_function codes1)
  refine tr_ent ?_
  unfold dc13 law13_function
  refine tr_seq ?_
  refine tr_reg ?_
  refine trO_new rfl ?_
  refine trO_asg rfl rfl ?_
  refine trO_nil ?_
  refine trX_seq ?_
  refine tr_seq ?_
  refine tr_reg ?_
  refine trO_mv rfl rfl ?_
  refine trO_bind fun r2 hr2 => ?_
  refine trO_call_ptr (codes1, 250) rfl rfl rfl draw_New_de rfl rfl (by simp) rfl hr2 ?_
  refine trO_asg rfl rfl ?_
  refine trO_nil ?_
  refine trX_seq ?_
  refine tr_seq ?_
  refine tr_reg ?_
  refine trO_mv rfl rfl ?_
  refine trO_bind fun r3 hr3 => ?_
  refine trO_call_val (r2, 3, 16) rfl rfl rfl draw_Codes_Program_de rfl rfl (by simp) rfl hr3 ?_
  refine trO_new rfl ?_
  refine trO_st_var (z' := .agg [.sl (r3.1.Funcs.map eFunc)]) rfl rfl rfl rfl rfl rfl rfl rfl rfl ?_
  refine trO_nil ?_
  refine trX_seq ?_
  refine tr_seq ?_
  refine tr_reg ?_
  refine trO_fldA rfl rfl ?_
  refine trO_ld_obj (v := .sl (r3.1.Funcs.map eFunc)) (z := .agg [.sl (r3.1.Funcs.map eFunc)]) rfl rfl rfl rfl rfl rfl ?_
  refine trO_mv rfl rfl ?_
  refine trO_fldA rfl rfl ?_
  refine trO_ld_obj (v := .sl (r3.1.Funcs.map eFunc)) (z := .agg [.sl (r3.1.Funcs.map eFunc)]) rfl rfl rfl rfl rfl rfl ?_
  refine trO_len_sl rfl rfl ?_
  refine trO_bind fun r4 hr4 => ?_
  refine trO_call_val (r3.2, (r3.1.Funcs.length : Int)) rfl rfl rfl draw_Codes_Next_de rfl rfl (by simp) rfl hr4 ?_
  refine trO_bind fun x_x5 hx_x5 => ?_
  refine trO_ixA_sl (en := eFunc) rfl rfl rfl hx_x5 rfl ?_
  refine trO_ld_f (v := .agg [.int .i64 x_x5.Params, .sl (x_x5.Slots.map eSlot), .sl (x_x5.Code.map eInstr)]) rfl rfl rfl rfl ?_
  refine trO_mv rfl rfl ?_
  refine trO_st_var (z' := .agg [.int .i64 x_x5.Params, .sl (x_x5.Slots.map eSlot), .sl (x_x5.Code.map eInstr)]) rfl rfl rfl rfl rfl rfl rfl rfl rfl ?_
  refine trO_asg rfl rfl ?_
  refine trO_nil_draw (by kernel_rfl) ?_
  refine trX_seq ?_
  refine tr_ret ?_
  exact ret_tupPtr (b := (x_x5, r4.2)) (by decide) (by decide) rfl (by first | (simp; done) | (simp; omega)) rfl (by first | (simp; done) | (simp; omega)) rfl (by first | (simp; done) | (simp; omega)) rfl (by first | (simp; done) | (simp; omega)) rfl rfl (by first | (simp; done) | (simp; omega)) rfl

def dc18 : DCode := (.seq (.reg [⟨(some 1), (.box (.t 0) 3 27), none, []⟩, ⟨(some 2), (.asg (.c .nils) (some ⟨1, 32⟩)), none, []⟩] false) (.seq (.reg [⟨(some 7), (.fldA 2 (.t 1)), none, []⟩, ⟨(some 8), (.ld 1 false (.t 7)), none, []⟩, ⟨(some 9), (.len false (.t 8)), none, []⟩, ⟨(some 10), (.mkS 1 32 24 .nils (.t 9) (.t 9)), none, []⟩, ⟨(some 3), (.asg (.t 10) (some ⟨1, 32⟩)), none, []⟩] false) (.seq (.seq (.reg [⟨(some 11), (.fldA 2 (.t 1)), none, []⟩, ⟨(some 12), (.ld 1 false (.t 11)), none, []⟩, ⟨(some 13), (.len false (.t 12)), none, []⟩, ⟨(some 14), (.mv (.c (.int .i64 0))), none, []⟩] false) (.block 0 (.loop (.seq (.reg [⟨(some 15), (.bin .lss (.t 14) (.t 13)), none, []⟩] false) (.seq (.cond (.t 15) .skip (.exit 0)) (.seq (.block 1 (.seq (.reg [⟨(some 16), (.mv (.t 14)), none, []⟩, ⟨(some 4), (.asg (.t 16) none), none, []⟩] false) (.seq (.reg [⟨(some 17), (.ld 3 true (.t 1)), none, []⟩, ⟨(some 18), (.mv (.t 4)), none, []⟩, ⟨(some 19), (.call (.c (.clo 15 [])) [(.t 17), (.t 18)]), none, []⟩, ⟨(some 20), (.len false (.t 19)), none, []⟩, ⟨(some 21), (.mv (.c (.int .i64 0))), none, []⟩] false) (.block 2 (.loop (.seq (.reg [⟨(some 22), (.bin .lss (.t 21) (.t 20)), none, []⟩] false) (.seq (.cond (.t 22) .skip (.exit 2)) (.seq (.block 3 (.seq (.reg [⟨(some 23), (.ixA 1 (.t 19) (.t 21)), none, []⟩, ⟨(some 24), (.ld 1 false (.t 23)), none, []⟩, ⟨(some 6), (.asg (.t 24) none), none, []⟩] false) (.reg [⟨(some 25), (.mv (.t 3)), none, []⟩, ⟨(some 26), (.mv (.t 6)), none, []⟩, ⟨(some 27), (.mv (.t 3)), none, []⟩, ⟨(some 28), (.mv (.t 6)), none, []⟩, ⟨(some 29), (.ixA 1 (.t 27) (.t 28)), none, []⟩, ⟨(some 30), (.ld 1 false (.t 29)), none, []⟩, ⟨(some 31), (.mv (.t 4)), none, []⟩, ⟨(some 32), (.bldS 1 3 (.int .i64 0) 1 [⟨0, (.t 31)⟩]), none, []⟩, ⟨(some 33), (.app 1 3 8 (.t 30) (.t 32)), none, []⟩, ⟨(some 34), (.ixA 1 (.t 25) (.t 26)), none, []⟩, ⟨none, (.st 1 (.t 34) (.t 33)), none, []⟩] false))) (.reg [⟨(some 35), (.bin .add (.t 21) (.c (.int .i64 1))), none, []⟩, ⟨(some 21), (.mv (.t 35)), none, []⟩] false))))))))) (.reg [⟨(some 36), (.bin .add (.t 14) (.c (.int .i64 1))), none, []⟩, ⟨(some 14), (.mv (.t 36)), none, []⟩] false))))))) (.seq (.reg [⟨(some 37), (.mv (.t 3)), none, []⟩, ⟨(some 2), (.asg (.t 37) (some ⟨1, 32⟩)), none, []⟩] false) .ret))))
theorem dc18_c : (Try.f18.body.bind (cCode Try.prog Try.f18.ntmps)) = some dc18 := by kernel_rfl
theorem dc18_r : Try.f18.results.toList.mapM (cRes Try.prog) = some [(.t 2)] := by kernel_rfl
def flow_Before_enc (a : TFunc) : List D := [eFunc a]
def flow_Before_dec (ds : List D) : TFunc := uFunc (ds.getD 0 .top)
theorem flow_Before_de (a : TFunc) : flow_Before_dec (flow_Before_enc a) = a := by simp [flow_Before_dec, flow_Before_enc, uI, uBo, uS]
def flow_Before_R (b : (List (List Int))) : D := .sl (b.map (eL eI64))
def flow_Before_E (_b : (List (List Int))) : List D := []
noncomputable def flow_Before_S : Dw.Spec := fSpec [] .val flow_Before_enc flow_Before_dec (fun a => flow_Before a) flow_Before_R flow_Before_E
set_option maxHeartbeats 4000000 in
theorem flow_Before_ok : SpecOk Try.prog 18 flow_Before_S := by
  refine fn_ok (specs_ok (l := [(15, flow_Next_S)]) (by simp [flow_Next_ok])) Try.func18 (by decide) dc18_c dc18_r (np := 1) (by decide) flow_Before_de (fun _ => rfl) (fun _ => rfl) (by decide) ?_
  intro f1
  show TrE (specs [(15, flow_Next_S)]) dc18 (kRet [] .val [(.t 2)] flow_Before_R flow_Before_E) ⟨[(0, .agg [.int .i64 f1.Params, .sl (f1.Slots.map eSlot), .sl (f1.Code.map eInstr)])], [], 262144⟩ (flow_Before f1)
  refine tr_ent ?_
  unfold dc18 flow_Before
  refine tr_seq ?_
  refine tr_reg ?_
  refine trO_box rfl rfl rfl rfl rfl ?_
  refine trO_asg_nil (α := (List Int)) rfl (eL eI64) rfl ?_
  refine trO_nil ?_
  refine trX_seq ?_
  refine tr_seq ?_
  refine tr_reg ?_
  refine trO_fldA rfl rfl ?_
  refine trO_ld_obj (v := .sl (f1.Code.map eInstr)) (z := .agg [.int .i64 f1.Params, .sl (f1.Slots.map eSlot), .sl (f1.Code.map eInstr)]) rfl rfl rfl rfl rfl rfl ?_
  refine trO_len_sl rfl rfl ?_
  refine trO_chk fun hq => ?_
  refine trO_mkS_nil (α := Int) rfl rfl rfl hq rfl ?_
  refine trO_asg_own (l := List.replicate (f1.Code.length : Int).toNat ([] : (List Int))) (en := (fun _ => D.nils)) rfl rfl rfl rfl ?_
  refine trO_nil ?_
  refine trX_seq_has (E := [(1, .optr 1 _ 0 0), (3, .osl 4099 _ 0 ((List.replicate (f1.Code.length : Int).toNat ([] : (List Int))).length))]) (O := [(1, some (_, ⟨false, true, 3, 27, [.agg [.int .i64 f1.Params, .sl (f1.Slots.map eSlot), .sl (f1.Code.map eInstr)]]⟩)), (4099, some (_, ⟨false, false, 1, 32, (List.replicate (f1.Code.length : Int).toNat ([] : (List Int))).map (eR 1 3 eI64)⟩))]) ((has_enrich (g := 3) (g2 := 4099) rfl rfl rfl (enr_nils (l := List.replicate (f1.Code.length : Int).toNat ([] : (List Int))) (s' := 1) (ty' := 3) eI64 (by decide) (fun _ h => List.eq_of_mem_replicate h)) (has_exact ⟨rfl, rfl, trivial⟩ ⟨rfl, rfl, trivial⟩))) fun nn => ?_
  refine tr_seq ?_
  refine tr_seq ?_
  refine tr_reg ?_
  refine trO_fldA rfl rfl ?_
  refine trO_ld_obj (v := .sl (f1.Code.map eInstr)) (z := .agg [.int .i64 f1.Params, .sl (f1.Slots.map eSlot), .sl (f1.Code.map eInstr)]) rfl rfl rfl rfl rfl rfl ?_
  refine trO_len_sl rfl rfl ?_
  refine trO_mv rfl rfl ?_
  refine trO_nil ?_
  refine trX_seq ?_
  refine tr_block ?_
  refine tr_loop (E := fun (s : (List (List Int)) × Int) (g : Nat × Nat) => [(1, .optr 1 g.1 0 0), (3, .osl 4099 g.2 0 s.1.length), (13, .int .i64 (f1.Code.length : Int)), (14, .int .i64 s.2)]) (O := fun s g => [(1, some (g.1, ⟨false, true, 3, 27, [.agg [.int .i64 f1.Params, .sl (f1.Slots.map eSlot), .sl (f1.Code.map eInstr)]]⟩)), (4099, some (g.2, ⟨false, false, 1, 32, s.1.map (eR 1 3 eI64)⟩))]) (body := fun s => flow_Before_b1 f1 s.1 s.2) (s := (List.replicate (f1.Code.length : Int).toNat ([] : (List Int)), 0)) (_, _) ((has_exact ⟨rfl, rfl, rfl, rfl, trivial⟩ ⟨rfl, rfl, trivial⟩)) ?_
  rintro ⟨l2, x3⟩ ⟨v1, v4099⟩ nn
  show Tr _ _ _ ⟨[(1, .optr 1 v1 0 0), (3, .osl 4099 v4099 0 l2.length), (13, .int .i64 (f1.Code.length : Int)), (14, .int .i64 x3)], [(1, some (v1, ⟨false, true, 3, 27, [.agg [.int .i64 f1.Params, .sl (f1.Slots.map eSlot), .sl (f1.Code.map eInstr)]]⟩)), (4099, some (v4099, ⟨false, false, 1, 32, l2.map (eR 1 3 eI64)⟩))], _⟩ (flow_Before_b1 f1 l2 x3)
  unfold flow_Before_b1
  refine tr_seq ?_
  refine tr_reg ?_
  refine trO_bin (v := .bool (decide (x3 < (f1.Code.length : Int)))) rfl rfl rfl rfl rfl ?_
  refine trO_nil ?_
  refine trX_seq ?_
  refine tr_seq ?_
  refine tr_cond (c := (decide (x3 < (f1.Code.length : Int)))) rfl ?_ ?_
  ·
    refine tr_skip ?_
    refine trX_seq ?_
    refine tr_seq ?_
    refine tr_block ?_
    refine tr_seq ?_
    refine tr_reg ?_
    refine trO_mv rfl rfl ?_
    refine trO_asg rfl rfl ?_
    refine trO_nil ?_
    refine trX_seq ?_
    refine tr_seq ?_
    refine tr_reg ?_
    refine trO_ld_obj (v := .agg [.int .i64 f1.Params, .sl (f1.Slots.map eSlot), .sl (f1.Code.map eInstr)]) (z := .agg [.int .i64 f1.Params, .sl (f1.Slots.map eSlot), .sl (f1.Code.map eInstr)]) rfl rfl rfl rfl rfl rfl ?_
    refine trO_mv rfl rfl ?_
    refine trO_bind fun r4 hr4 => ?_
    refine trO_call_row (l := r4) (en := eI64) (f1, x3) rfl rfl rfl flow_Next_de rfl rfl (by simp) rfl hr4 rfl ?_
    refine trO_len_own rfl rfl ?_
    refine trO_mv rfl rfl ?_
    refine trO_nil ?_
    refine trX_seq ?_
    refine tr_block ?_
    refine tr_loop (E := fun (s : (List (List Int)) × Int) (g : Nat × Nat × Nat) => [(1, .optr 1 g.1 0 0), (3, .osl 4099 g.2.2 0 s.1.length), (4, .int .i64 x3), (13, .int .i64 (f1.Code.length : Int)), (14, .int .i64 x3), (19, .osl 19 g.2.1 0 r4.length), (20, .int .i64 (r4.length : Int)), (21, .int .i64 s.2)]) (O := fun s g => [(1, some (g.1, ⟨false, true, 3, 27, [.agg [.int .i64 f1.Params, .sl (f1.Slots.map eSlot), .sl (f1.Code.map eInstr)]]⟩)), (19, some (g.2.1, ⟨false, false, 1, 3, r4.map eI64⟩)), (4099, some (g.2.2, ⟨false, false, 1, 32, s.1.map (eR 1 3 eI64)⟩))]) (body := fun s => flow_Before_b2 r4 x3 s.1 s.2) (s := (l2, 0)) (_, _, _) ((has_exact ⟨rfl, rfl, rfl, rfl, rfl, rfl, rfl, rfl, trivial⟩ ⟨rfl, rfl, rfl, trivial⟩)) ?_
    rintro ⟨l5, x6⟩ ⟨v1, v19, v4099⟩ nn
    show Tr _ _ _ ⟨[(1, .optr 1 v1 0 0), (3, .osl 4099 v4099 0 l5.length), (4, .int .i64 x3), (13, .int .i64 (f1.Code.length : Int)), (14, .int .i64 x3), (19, .osl 19 v19 0 r4.length), (20, .int .i64 (r4.length : Int)), (21, .int .i64 x6)], [(1, some (v1, ⟨false, true, 3, 27, [.agg [.int .i64 f1.Params, .sl (f1.Slots.map eSlot), .sl (f1.Code.map eInstr)]]⟩)), (19, some (v19, ⟨false, false, 1, 3, r4.map eI64⟩)), (4099, some (v4099, ⟨false, false, 1, 32, l5.map (eR 1 3 eI64)⟩))], _⟩ (flow_Before_b2 r4 x3 l5 x6)
    unfold flow_Before_b2
    refine tr_seq ?_
    refine tr_reg ?_
    refine trO_bin (v := .bool (decide (x6 < (r4.length : Int)))) rfl rfl rfl rfl rfl ?_
    refine trO_nil ?_
    refine trX_seq ?_
    refine tr_seq ?_
    refine tr_cond (c := (decide (x6 < (r4.length : Int)))) rfl ?_ ?_
    ·
      refine tr_skip ?_
      refine trX_seq ?_
      refine tr_seq ?_
      refine tr_block ?_
      refine tr_seq ?_
      refine tr_reg ?_
      refine trO_chk fun hq => ?_
      refine trO_ixA_own (l := r4) (en := eI64) rfl rfl rfl rfl rfl hq ?_
      refine trO_bind fun x_e7 hx_e7 => ?_
      refine trO_ld_obj (v := .int .i64 x_e7) (z := eI64 x_e7) rfl rfl rfl (map_get hx_e7) rfl rfl ?_
      refine trO_asg rfl rfl ?_
      refine trO_nil ?_
      refine trX_seq ?_
      refine tr_reg ?_
      refine trO_mv rfl rfl ?_
      refine trO_mv rfl rfl ?_
      refine trO_mv rfl rfl ?_
      refine trO_mv rfl rfl ?_
      refine trO_chk fun hq => ?_
      refine trO_ixA_own (l := l5) (en := (eR 1 3 eI64)) rfl rfl rfl rfl rfl hq ?_
      refine trO_bind fun l_e8 hl_e8 => ?_
      refine trO_open1 (q := l_e8) eI64 rfl rfl rfl hl_e8 ?_
      refine trO_mv rfl rfl ?_
      refine trO_bldS ([x3] : List Int) eI64 rfl rfl rfl (by simp) rfl rfl rfl ?_
      refine trO_chk fun hq => ?_
      refine trO_app_r (l_e8) (([x3] : List Int)) eI64 rfl rfl rfl rfl rfl rfl rfl (by simp) (take_drop0_map' _ _ rfl) rfl rfl (by simp) (take_len_map' _ _ rfl) (fun _ => rfl) rfl hq (fun _ => rfl) ?_
      refine trO_chk fun hq => ?_
      refine trO_ixA_len (by simp) rfl rfl rfl rfl (by simpa using hq) ?_
      refine trO_st_row1 (l := l5) (q := l_e8) (q' := l_e8 ++ ([x3] : List Int)) eI64 rfl rfl rfl rfl (.inr ⟨_, _, rfl⟩) hl_e8 rfl rfl ⟨⟨rfl, rfl, by simp, plain_map fun _ => rfl⟩, trivial, rfl⟩ (congrArg (fun z => [D.row _ _ z]) (take_len_map' _ _ rfl)) rfl ?_
      refine trO_nil ?_
      refine trX_blk_normal ?_
      refine trX_seq ?_
      refine tr_reg ?_
      refine trO_bin (v := .int .i64 (IntKind.i64.wrap (x6 + 1))) rfl rfl rfl rfl rfl ?_
      refine trO_mv rfl rfl ?_
      refine trO_nil ?_
      exact trX_loop (s := (l5.set x_e7.toNat (l_e8 ++ ([x3] : List Int)), IntKind.i64.wrap (x6 + 1))) (_, _, _) ((has_exact ⟨rfl, (osl_len (q := l5.length) rfl (by simp)), rfl, rfl, rfl, rfl, rfl, rfl, trivial⟩ ⟨rfl, rfl, rfl, trivial⟩))
    ·
      refine tr_exit ?_
      refine trX_seq_exit ?_
      refine trX_loop_exit ?_
      refine trX_blk_here ?_
      refine trX_blk_normal ?_
      refine trX_seq ?_
      refine tr_reg ?_
      refine trO_bin (v := .int .i64 (IntKind.i64.wrap (x3 + 1))) rfl rfl rfl rfl rfl ?_
      refine trO_mv rfl rfl ?_
      refine trO_nil ?_
      exact trX_loop (s := (l5, IntKind.i64.wrap (x3 + 1))) (_, _) ((has_exact ⟨rfl, rfl, rfl, rfl, trivial⟩ ⟨rfl, rfl, trivial⟩))
  ·
    refine tr_exit ?_
    refine trX_seq_exit ?_
    refine trX_loop_exit ?_
    refine trX_blk_here ?_
    refine trX_seq_has (E := [(3, .osl 4099 _ 0 l2.length)]) (O := [(4099, some (_, ⟨false, false, 1, 32, l2.map (eL eI64)⟩))]) ((has_frows (g := 4099) rfl (frr_rows (l := l2) eI64 (fun _ => rfl)) (has_exact ⟨rfl, trivial⟩ ⟨rfl, trivial⟩))) fun nn => ?_
    refine tr_seq ?_
    refine tr_reg ?_
    refine trO_mv rfl rfl ?_
    refine trO_asg_own_r (l := l2) (en := (eL eI64)) rfl rfl rfl rfl (fun _ => rfl) ?_
    refine trO_nil ?_
    refine trX_seq ?_
    refine tr_ret ?_
    exact ret_val (b := l2) rfl (by first | (simp; done) | (simp; omega)) rfl rfl (by first | (simp; done) | (simp; omega)) (by first | rfl | (simp only [take_drop0_map, take_sub_map]; rfl) | simp [flow_Before_R])

def dc20 : DCode := (.seq (.reg [⟨(some 4), (.asg (.c (.bool false)) none), none, []⟩] false) (.seq (.seq (.reg [⟨(some 5), (.asg (.c (.int .i64 0)) none), none, []⟩] false) (.block 0 (.loop (.seq (.seq (.reg [⟨(some 6), (.mv (.t 5)), none, []⟩, ⟨(some 7), (.mv (.t 0)), none, []⟩, ⟨(some 8), (.len false (.t 7)), none, []⟩, ⟨(some 9), (.bin .lss (.t 6) (.t 8)), none, []⟩] false) (.cond (.t 9) .skip (.exit 0))) (.seq (.block 1 (.seq (.reg [⟨(some 12), (.mv (.t 0)), none, []⟩, ⟨(some 13), (.mv (.t 5)), none, []⟩, ⟨(some 14), (.ixA 1 (.t 12) (.t 13)), none, []⟩, ⟨(some 15), (.ld 1 false (.t 14)), none, []⟩, ⟨(some 16), (.mv (.t 1)), none, []⟩, ⟨(some 17), (.bin .eql (.t 15) (.t 16)), none, []⟩] false) (.cond (.t 17) (.seq (.reg [⟨(some 4), (.asg (.c (.bool true)) none), none, []⟩] false) .ret) .skip))) (.reg [⟨(some 10), (.mv (.t 5)), none, []⟩, ⟨(some 11), (.bin .add (.t 10) (.c (.int .i64 1))), none, []⟩, ⟨(some 5), (.asg (.t 11) none), none, []⟩] false)))))) (.seq (.reg [⟨(some 4), (.asg (.c (.bool false)) none), none, []⟩] false) .ret)))
theorem dc20_c : (Try.f20.body.bind (cCode Try.prog Try.f20.ntmps)) = some dc20 := by kernel_rfl
theorem dc20_r : Try.f20.results.toList.mapM (cRes Try.prog) = some [(.t 4)] := by kernel_rfl
def ref04_Has_enc (a : (List Int) × Int) : List D := [.sl (a.1.map eI64), .int .i64 a.2]
def ref04_Has_dec (ds : List D) : (List Int) × Int := ((uL uI) (ds.getD 0 .top), uI (ds.getD 1 .top))
theorem ref04_Has_de (a : (List Int) × Int) : ref04_Has_dec (ref04_Has_enc a) = a := by simp [ref04_Has_dec, ref04_Has_enc, uI, uBo, uS, uL_e (u := uI) (en := eI64) (fun _ => rfl)]
def ref04_Has_R (b : Bool) : D := .bool b
def ref04_Has_E (_b : Bool) : List D := []
noncomputable def ref04_Has_S : Dw.Spec := fSpec [] .ground ref04_Has_enc ref04_Has_dec (fun a => ref04_Has a.1 a.2) ref04_Has_R ref04_Has_E
set_option maxHeartbeats 4000000 in
theorem ref04_Has_ok : SpecOk Try.prog 20 ref04_Has_S := by
  refine fn_ok (specs_nil) Try.func20 (by decide) dc20_c dc20_r (np := 2) (by decide) ref04_Has_de (fun _ => rfl) (fun _ => rfl) (by decide) ?_
  rintro ⟨s1, n2⟩
  show TrE (specs []) dc20 (kRet [] .ground [(.t 4)] ref04_Has_R ref04_Has_E) ⟨[(0, .sl (s1.map eI64)), (1, .int .i64 n2)], [], 262144⟩ (ref04_Has s1 n2)
  refine tr_ent ?_
  unfold dc20 ref04_Has
  refine tr_seq ?_
  refine tr_reg ?_
  refine trO_asg rfl rfl ?_
  refine trO_nil ?_
  refine trX_seq ?_
  refine tr_seq ?_
  refine tr_seq ?_
  refine tr_reg ?_
  refine trO_asg rfl rfl ?_
  refine trO_nil ?_
  refine trX_seq ?_
  refine tr_block ?_
  refine tr_loop (E := fun (s : Int) (g : Unit) => [(0, .sl (s1.map eI64)), (1, .int .i64 n2), (5, .int .i64 s)]) (O := fun s g => []) (body := fun s => ref04_Has_b1 s1 n2 s) (s := 0) () ((has_exact ⟨rfl, rfl, rfl, trivial⟩ trivial)) ?_
  rintro i3 ⟨⟩ nn
  show Tr _ _ _ ⟨[(0, .sl (s1.map eI64)), (1, .int .i64 n2), (5, .int .i64 i3)], [], _⟩ (ref04_Has_b1 s1 n2 i3)
  unfold ref04_Has_b1
  refine tr_seq ?_
  refine tr_seq ?_
  refine tr_reg ?_
  refine trO_mv rfl rfl ?_
  refine trO_mv rfl rfl ?_
  refine trO_len_sl rfl rfl ?_
  refine trO_bin (v := .bool (decide (i3 < (s1.length : Int)))) rfl rfl rfl rfl rfl ?_
  refine trO_nil ?_
  refine trX_seq ?_
  refine tr_cond (c := (decide (i3 < (s1.length : Int)))) rfl ?_ ?_
  ·
    refine tr_skip ?_
    refine trX_seq ?_
    refine tr_seq ?_
    refine tr_block ?_
    refine tr_seq ?_
    refine tr_reg ?_
    refine trO_mv rfl rfl ?_
    refine trO_mv rfl rfl ?_
    refine trO_bind fun x_x4 hx_x4 => ?_
    refine trO_ixA_sl (en := eI64) rfl rfl rfl hx_x4 rfl ?_
    refine trO_ld_f (v := .int .i64 x_x4) rfl rfl rfl rfl ?_
    refine trO_mv rfl rfl ?_
    refine trO_bin (v := .bool (x_x4 == n2)) rfl rfl rfl rfl rfl ?_
    refine trO_nil ?_
    refine trX_seq ?_
    refine tr_cond (c := (x_x4 == n2)) rfl ?_ ?_
    ·
      refine tr_seq ?_
      refine tr_reg ?_
      refine trO_asg rfl rfl ?_
      refine trO_nil ?_
      refine trX_seq ?_
      refine tr_ret ?_
      refine trX_blk_ret ?_
      refine trX_seq_ret ?_
      refine trX_loop_ret ?_
      refine trX_blk_ret ?_
      refine trX_seq_ret ?_
      exact ret_ground (b := true) rfl (by first | (simp; done) | (simp; omega)) rfl rfl (by first | (simp; done) | (simp; omega)) rfl
    ·
      refine tr_skip ?_
      refine trX_blk_normal ?_
      refine trX_seq ?_
      refine tr_reg ?_
      refine trO_mv rfl rfl ?_
      refine trO_bin (v := .int .i64 (IntKind.i64.wrap (i3 + 1))) rfl rfl rfl rfl rfl ?_
      refine trO_asg rfl rfl ?_
      refine trO_nil ?_
      exact trX_loop (s := IntKind.i64.wrap (i3 + 1)) () ((has_exact ⟨rfl, rfl, rfl, trivial⟩ trivial))
  ·
    refine tr_exit ?_
    refine trX_seq_exit ?_
    refine trX_loop_exit ?_
    refine trX_blk_here ?_
    refine trX_seq ?_
    refine tr_seq ?_
    refine tr_reg ?_
    refine trO_asg rfl rfl ?_
    refine trO_nil ?_
    refine trX_seq ?_
    refine tr_ret ?_
    exact ret_ground (b := false) rfl (by first | (simp; done) | (simp; omega)) rfl rfl (by first | (simp; done) | (simp; omega)) rfl

def dc4 : DCode := (.seq (.reg [⟨(some 2), (.asg (.c (.bool false)) none), none, []⟩] false) (.seq (.seq (.reg [⟨(some 9), (.call (.c (.clo 12 [])) []), none, []⟩, ⟨(some 10), (.un .not (.t 9)), none, []⟩] false) (.cond (.t 10) (.seq (.reg [⟨(some 2), (.asg (.c (.bool false)) none), none, []⟩] false) .ret) .skip)) (.seq (.reg [⟨(some 12), (.mv (.t 0)), none, []⟩, ⟨(some 13), (.call (.c (.clo 13 [])) [(.t 12)]), none, []⟩, ⟨(some 11), (.mv (.t 13)), none, []⟩, ⟨(some 14), (.ext (.t 11) 0), none, []⟩, ⟨(some 15), (.ext (.t 11) 1), none, []⟩, ⟨(some 3), (.new (.agg [(.int .i64 0), .nils, .nils]) 3 27), none, []⟩, ⟨none, (.st 3 (.t 3) (.t 14)), none, []⟩, ⟨(some 4), (.asg (.t 15) none), none, []⟩] false) (.seq (.reg [⟨(some 16), (.ld 3 true (.t 3)), none, []⟩, ⟨(some 17), (.call (.c (.clo 18 [])) [(.t 16)]), none, []⟩, ⟨(some 5), (.asg (.t 17) (some ⟨1, 32⟩)), none, []⟩] false) (.seq (.seq (.reg [⟨(some 18), (.mv (.t 5)), none, []⟩, ⟨(some 19), (.len false (.t 18)), none, []⟩, ⟨(some 20), (.fldA 2 (.t 3)), none, []⟩, ⟨(some 21), (.ld 1 false (.t 20)), none, []⟩, ⟨(some 22), (.len false (.t 21)), none, []⟩, ⟨(some 23), (.bin .neq (.t 19) (.t 22)), none, []⟩] false) (.cond (.t 23) (.seq (.reg [⟨(some 2), (.asg (.c (.bool false)) none), none, []⟩] false) .ret) .skip)) (.seq (.seq (.reg [⟨(some 6), (.asg (.c (.int .i64 0)) none), none, []⟩] false) (.block 0 (.loop (.seq (.seq (.reg [⟨(some 24), (.mv (.t 6)), none, []⟩, ⟨(some 25), (.fldA 2 (.t 3)), none, []⟩, ⟨(some 26), (.ld 1 false (.t 25)), none, []⟩, ⟨(some 27), (.len false (.t 26)), none, []⟩, ⟨(some 28), (.bin .lss (.t 24) (.t 27)), none, []⟩] false) (.cond (.t 28) .skip (.exit 0))) (.seq (.block 1 (.seq (.reg [⟨(some 31), (.ld 3 true (.t 3)), none, []⟩, ⟨(some 32), (.mv (.t 6)), none, []⟩, ⟨(some 33), (.call (.c (.clo 15 [])) [(.t 31), (.t 32)]), none, []⟩, ⟨(some 7), (.asg (.t 33) (some ⟨1, 3⟩)), none, []⟩] false) (.seq (.reg [⟨(some 8), (.asg (.c (.int .i64 0)) none), none, []⟩] false) (.block 2 (.loop (.seq (.seq (.reg [⟨(some 34), (.mv (.t 8)), none, []⟩, ⟨(some 35), (.fldA 2 (.t 3)), none, []⟩, ⟨(some 36), (.ld 1 false (.t 35)), none, []⟩, ⟨(some 37), (.len false (.t 36)), none, []⟩, ⟨(some 38), (.bin .lss (.t 34) (.t 37)), none, []⟩] false) (.cond (.t 38) .skip (.exit 2))) (.seq (.block 3 (.seq (.reg [⟨(some 41), (.mv (.t 7)), none, []⟩, ⟨(some 42), (.mv (.t 8)), none, []⟩, ⟨(some 43), (.call (.c (.clo 20 [])) [(.t 41), (.t 42)]), none, [0, 1]⟩, ⟨(some 44), (.mv (.t 5)), none, []⟩, ⟨(some 45), (.mv (.t 8)), none, []⟩, ⟨(some 46), (.ixA 1 (.t 44) (.t 45)), none, [3, 4]⟩, ⟨(some 47), (.ld 1 false (.t 46)), none, [5]⟩, ⟨(some 48), (.mv (.t 6)), none, []⟩, ⟨(some 49), (.call (.c (.clo 20 [])) [(.t 47), (.t 48)]), none, [6, 7, 2]⟩, ⟨(some 50), (.eqB true (.t 43) (.t 49)), none, [2, 8]⟩] true) (.cond (.t 50) (.seq (.reg [⟨(some 2), (.asg (.c (.bool false)) none), none, []⟩] false) .ret) .skip))) (.reg [⟨(some 39), (.mv (.t 8)), none, []⟩, ⟨(some 40), (.bin .add (.t 39) (.c (.int .i64 1))), none, []⟩, ⟨(some 8), (.asg (.t 40) none), none, []⟩] false)))))))) (.reg [⟨(some 29), (.mv (.t 6)), none, []⟩, ⟨(some 30), (.bin .add (.t 29) (.c (.int .i64 1))), none, []⟩, ⟨(some 6), (.asg (.t 30) none), none, []⟩] false)))))) (.seq (.reg [⟨(some 2), (.asg (.c (.bool true)) none), none, []⟩] false) .ret)))))))
theorem dc4_c : (Try.f4.body.bind (cCode Try.prog Try.f4.ntmps)) = some dc4 := by kernel_rfl
theorem dc4_r : Try.f4.results.toList.mapM (cRes Try.prog) = some [(.t 2)] := by kernel_rfl
def law13_FlowNextIsBefore_enc (a : (List Int)) : List D := [.sl (a.map eU8)]
def law13_FlowNextIsBefore_dec (ds : List D) : (List Int) := (uL uI) (ds.getD 0 .top)
theorem law13_FlowNextIsBefore_de (a : (List Int)) : law13_FlowNextIsBefore_dec (law13_FlowNextIsBefore_enc a) = a := by simp [law13_FlowNextIsBefore_dec, law13_FlowNextIsBefore_enc, uI, uBo, uS, uL_e (u := uI) (en := eU8) (fun _ => rfl)]
def law13_FlowNextIsBefore_R (b : Bool) : D := .bool b
def law13_FlowNextIsBefore_E (_b : Bool) : List D := []
noncomputable def law13_FlowNextIsBefore_S : Dw.Spec := fSpec [] .ground law13_FlowNextIsBefore_enc law13_FlowNextIsBefore_dec (fun a => law13_FlowNextIsBefore a) law13_FlowNextIsBefore_R law13_FlowNextIsBefore_E
set_option maxHeartbeats 4000000 in
theorem law13_FlowNextIsBefore_ok : SpecOk Try.prog 4 law13_FlowNextIsBefore_S := by
  refine fn_ok (specs_ok (l := [(12, law13_awake_S), (13, law13_function_S), (18, flow_Before_S), (15, flow_Next_S), (20, ref04_Has_S)]) (by simp [law13_awake_ok, law13_function_ok, flow_Before_ok, flow_Next_ok, ref04_Has_ok])) Try.func4 (by decide) dc4_c dc4_r (np := 1) (by decide) law13_FlowNextIsBefore_de (fun _ => rfl) (fun _ => rfl) (by decide) ?_
  intro codes1
  show TrE (specs [(12, law13_awake_S), (13, law13_function_S), (18, flow_Before_S), (15, flow_Next_S), (20, ref04_Has_S)]) dc4 (kRet [] .ground [(.t 2)] law13_FlowNextIsBefore_R law13_FlowNextIsBefore_E) ⟨[(0, .sl (codes1.map eU8))], [], 262144⟩ (law13_FlowNextIsBefore codes1)
  refine tr_ent ?_
  unfold dc4 law13_FlowNextIsBefore
  refine tr_seq ?_
  refine tr_reg ?_
  refine trO_asg rfl rfl ?_
  refine trO_nil ?_
  refine trX_seq ?_
  refine tr_seq ?_
  refine tr_seq ?_
  refine tr_reg ?_
  refine trO_bind fun r2 hr2 => ?_
  refine trO_call_ground () rfl rfl rfl law13_awake_de rfl rfl (by simp) rfl hr2 rfl ?_
  refine trO_un (w := .bool (!r2)) rfl rfl rfl rfl trivial ?_
  refine trO_nil ?_
  refine trX_seq ?_
  refine tr_cond (c := (!r2)) rfl ?_ ?_
  ·
    refine tr_seq ?_
    refine tr_reg ?_
    refine trO_asg rfl rfl ?_
    refine trO_nil ?_
    refine trX_seq ?_
    refine tr_ret ?_
    refine trX_seq_ret ?_
    exact ret_ground (b := false) rfl (by first | (simp; done) | (simp; omega)) rfl rfl (by first | (simp; done) | (simp; omega)) rfl
  ·
    refine tr_skip ?_
    refine trX_seq ?_
    refine tr_seq ?_
    refine tr_reg ?_
    refine trO_mv rfl rfl ?_
    refine trO_bind fun r3 hr3 => ?_
    refine trO_call_tupPtr (rs := [eFunc r3.1, edraw_Codes r3.2]) (z := edraw_Codes r3.2) codes1 rfl rfl rfl law13_function_de rfl rfl (by simp) rfl hr3 rfl rfl ?_
    refine trO_mv rfl rfl ?_
    refine trO_ext (v := .agg [.int .i64 r3.1.Params, .sl (r3.1.Slots.map eSlot), .sl (r3.1.Code.map eInstr)]) rfl rfl rfl ?_
    refine trO_ext (v := .optr 13 _ 0 0) rfl rfl rfl ?_
    refine trO_new rfl ?_
    refine trO_st_var (z' := .agg [.int .i64 r3.1.Params, .sl (r3.1.Slots.map eSlot), .sl (r3.1.Code.map eInstr)]) rfl rfl rfl rfl rfl rfl rfl rfl rfl ?_
    refine trO_asg rfl rfl ?_
    refine trO_nil ?_
    refine trX_seq ?_
    refine tr_seq ?_
    refine tr_reg ?_
    refine trO_ld_obj (v := .agg [.int .i64 r3.1.Params, .sl (r3.1.Slots.map eSlot), .sl (r3.1.Code.map eInstr)]) (z := .agg [.int .i64 r3.1.Params, .sl (r3.1.Slots.map eSlot), .sl (r3.1.Code.map eInstr)]) rfl rfl rfl rfl rfl rfl ?_
    refine trO_bind fun r4 hr4 => ?_
    refine trO_call_val r3.1 rfl rfl rfl flow_Before_de rfl rfl (by simp) rfl hr4 ?_
    refine trO_asg_sl rfl rfl ?_
    refine trO_nil ?_
    refine trX_seq ?_
    refine tr_seq ?_
    refine tr_seq ?_
    refine tr_reg ?_
    refine trO_mv rfl rfl ?_
    refine trO_len_sl rfl rfl ?_
    refine trO_fldA rfl rfl ?_
    refine trO_ld_obj (v := .sl (r3.1.Code.map eInstr)) (z := .agg [.int .i64 r3.1.Params, .sl (r3.1.Slots.map eSlot), .sl (r3.1.Code.map eInstr)]) rfl rfl rfl rfl rfl rfl ?_
    refine trO_len_sl rfl rfl ?_
    refine trO_bin (v := .bool ((r4.length : Int) != (r3.1.Code.length : Int))) rfl rfl rfl rfl rfl ?_
    refine trO_nil ?_
    refine trX_seq ?_
    refine tr_cond (c := ((r4.length : Int) != (r3.1.Code.length : Int))) rfl ?_ ?_
    ·
      refine tr_seq ?_
      refine tr_reg ?_
      refine trO_asg rfl rfl ?_
      refine trO_nil ?_
      refine trX_seq ?_
      refine tr_ret ?_
      refine trX_seq_ret ?_
      exact ret_ground (b := false) rfl (by first | (simp; done) | (simp; omega)) rfl rfl (by first | (simp; done) | (simp; omega)) rfl
    ·
      refine tr_skip ?_
      refine trX_seq ?_
      refine tr_seq ?_
      refine tr_seq ?_
      refine tr_reg ?_
      refine trO_asg rfl rfl ?_
      refine trO_nil ?_
      refine trX_seq ?_
      refine tr_block ?_
      refine tr_loop (E := fun (s : Int) (g : Nat) => [(3, .optr 3 g 0 0), (5, .sl (r4.map (eL eI64))), (6, .int .i64 s)]) (O := fun s g => [(3, some (g, ⟨false, true, 3, 27, [.agg [.int .i64 r3.1.Params, .sl (r3.1.Slots.map eSlot), .sl (r3.1.Code.map eInstr)]]⟩))]) (body := fun s => law13_FlowNextIsBefore_b1 r3 r4 s) (s := 0) _ ((has_exact ⟨rfl, rfl, rfl, trivial⟩ ⟨rfl, trivial⟩)) ?_
      rintro k5 v3 nn
      show Tr _ _ _ ⟨[(3, .optr 3 v3 0 0), (5, .sl (r4.map (eL eI64))), (6, .int .i64 k5)], [(3, some (v3, ⟨false, true, 3, 27, [.agg [.int .i64 r3.1.Params, .sl (r3.1.Slots.map eSlot), .sl (r3.1.Code.map eInstr)]]⟩))], _⟩ (law13_FlowNextIsBefore_b1 r3 r4 k5)
      unfold law13_FlowNextIsBefore_b1
      refine tr_seq ?_
      refine tr_seq ?_
      refine tr_reg ?_
      refine trO_mv rfl rfl ?_
      refine trO_fldA rfl rfl ?_
      refine trO_ld_obj (v := .sl (r3.1.Code.map eInstr)) (z := .agg [.int .i64 r3.1.Params, .sl (r3.1.Slots.map eSlot), .sl (r3.1.Code.map eInstr)]) rfl rfl rfl rfl rfl rfl ?_
      refine trO_len_sl rfl rfl ?_
      refine trO_bin (v := .bool (decide (k5 < (r3.1.Code.length : Int)))) rfl rfl rfl rfl rfl ?_
      refine trO_nil ?_
      refine trX_seq ?_
      refine tr_cond (c := (decide (k5 < (r3.1.Code.length : Int)))) rfl ?_ ?_
      ·
        refine tr_skip ?_
        refine trX_seq ?_
        refine tr_seq_blk_cut (E := fun (s : Unit) (g : Nat) => [(3, .optr 3 g 0 0), (5, .sl (r4.map (eL eI64))), (6, .int .i64 k5)]) (O := fun s g => [(3, some (g, ⟨false, true, 3, 27, [.agg [.int .i64 r3.1.Params, .sl (r3.1.Slots.map eSlot), .sl (r3.1.Code.map eInstr)]]⟩))]) (j := fun s => law13_FlowNextIsBefore_j2 k5) ?_ ?_
        ·
          refine tr_seq ?_
          refine tr_reg ?_
          refine trO_ld_obj (v := .agg [.int .i64 r3.1.Params, .sl (r3.1.Slots.map eSlot), .sl (r3.1.Code.map eInstr)]) (z := .agg [.int .i64 r3.1.Params, .sl (r3.1.Slots.map eSlot), .sl (r3.1.Code.map eInstr)]) rfl rfl rfl rfl rfl rfl ?_
          refine trO_mv rfl rfl ?_
          refine trO_bind fun r6 hr6 => ?_
          refine trO_call_row (l := r6) (en := eI64) (r3.1, k5) rfl rfl rfl flow_Next_de rfl rfl (by simp) rfl hr6 rfl ?_
          refine trO_asg_own (l := r6) (en := eI64) rfl rfl rfl rfl ?_
          refine trO_nil ?_
          refine trX_seq ?_
          refine tr_seq ?_
          refine tr_reg ?_
          refine trO_asg rfl rfl ?_
          refine trO_nil ?_
          refine trX_seq ?_
          refine tr_block ?_
          refine tr_loop (E := fun (s : Int) (g : Nat × Nat) => [(3, .optr 3 g.1 0 0), (5, .sl (r4.map (eL eI64))), (6, .int .i64 k5), (7, .osl 7 g.2 0 r6.length), (8, .int .i64 s)]) (O := fun s g => [(3, some (g.1, ⟨false, true, 3, 27, [.agg [.int .i64 r3.1.Params, .sl (r3.1.Slots.map eSlot), .sl (r3.1.Code.map eInstr)]]⟩)), (7, some (g.2, ⟨false, false, 1, 3, r6.map eI64⟩))]) (body := fun s => law13_FlowNextIsBefore_b3 r3 r6 r4 k5 s) (s := 0) (_, _) ((has_exact ⟨rfl, rfl, rfl, rfl, rfl, trivial⟩ ⟨rfl, rfl, trivial⟩)) ?_
          rintro j7 ⟨v3, v7⟩ nn
          show Tr _ _ _ ⟨[(3, .optr 3 v3 0 0), (5, .sl (r4.map (eL eI64))), (6, .int .i64 k5), (7, .osl 7 v7 0 r6.length), (8, .int .i64 j7)], [(3, some (v3, ⟨false, true, 3, 27, [.agg [.int .i64 r3.1.Params, .sl (r3.1.Slots.map eSlot), .sl (r3.1.Code.map eInstr)]]⟩)), (7, some (v7, ⟨false, false, 1, 3, r6.map eI64⟩))], _⟩ (law13_FlowNextIsBefore_b3 r3 r6 r4 k5 j7)
          unfold law13_FlowNextIsBefore_b3
          refine tr_seq ?_
          refine tr_seq ?_
          refine tr_reg ?_
          refine trO_mv rfl rfl ?_
          refine trO_fldA rfl rfl ?_
          refine trO_ld_obj (v := .sl (r3.1.Code.map eInstr)) (z := .agg [.int .i64 r3.1.Params, .sl (r3.1.Slots.map eSlot), .sl (r3.1.Code.map eInstr)]) rfl rfl rfl rfl rfl rfl ?_
          refine trO_len_sl rfl rfl ?_
          refine trO_bin (v := .bool (decide (j7 < (r3.1.Code.length : Int)))) rfl rfl rfl rfl rfl ?_
          refine trO_nil ?_
          refine trX_seq ?_
          refine tr_cond (c := (decide (j7 < (r3.1.Code.length : Int)))) rfl ?_ ?_
          ·
            refine tr_skip ?_
            refine trX_seq ?_
            refine tr_seq ?_
            refine tr_block ?_
            refine tr_seq ?_
            refine tr_reg ?_
            refine trO_mv rfl rfl ?_
            refine trO_mv rfl rfl ?_
            refine trO_bind fun r8 hr8 => ?_
            refine trO_call_ground (r6, j7) rfl rfl rfl ref04_Has_de rfl rfl (by simp) (by first | rfl | (simp only [take_drop0_map, take_sub_map]; rfl) | simp [ref04_Has_enc]) hr8 rfl ?_
            refine trO_mv rfl rfl ?_
            refine trO_mv rfl rfl ?_
            refine trO_bind fun x_x9 hx_x9 => ?_
            refine trO_ixA_sl (en := (eL eI64)) rfl rfl rfl hx_x9 rfl ?_
            refine trO_ld_f (v := .sl (x_x9.map eI64)) rfl rfl rfl rfl ?_
            refine trO_mv rfl rfl ?_
            refine trO_bind fun r10 hr10 => ?_
            refine trO_call_ground (x_x9, k5) rfl rfl rfl ref04_Has_de rfl rfl (by simp) rfl hr10 rfl ?_
            refine trO_eqB rfl rfl rfl ?_
            refine trO_nil_draw (by kernel_rfl) ?_
            refine trX_seq ?_
            refine tr_cond (c := (!(r8 == r10))) rfl ?_ ?_
            ·
              refine tr_seq ?_
              refine tr_reg ?_
              refine trO_asg rfl rfl ?_
              refine trO_nil ?_
              refine trX_seq ?_
              refine tr_ret ?_
              refine trX_blk_ret ?_
              refine trX_seq_ret ?_
              refine trX_loop_ret ?_
              refine trX_blk_ret ?_
              refine trX_bcut_ret ?_
              refine trX_loop_ret ?_
              refine trX_blk_ret ?_
              refine trX_seq_ret ?_
              exact ret_ground (b := false) rfl (by first | (simp; done) | (simp; omega)) rfl rfl (by first | (simp; done) | (simp; omega)) rfl
            ·
              refine tr_skip ?_
              refine trX_blk_normal ?_
              refine trX_seq ?_
              refine tr_reg ?_
              refine trO_mv rfl rfl ?_
              refine trO_bin (v := .int .i64 (IntKind.i64.wrap (j7 + 1))) rfl rfl rfl rfl rfl ?_
              refine trO_asg rfl rfl ?_
              refine trO_nil ?_
              exact trX_loop (s := IntKind.i64.wrap (j7 + 1)) (_, _) ((has_exact ⟨rfl, rfl, rfl, rfl, rfl, trivial⟩ ⟨rfl, rfl, trivial⟩))
          ·
            refine tr_exit ?_
            refine trX_seq_exit ?_
            refine trX_loop_exit ?_
            refine trX_blk_here ?_
            exact trX_bcut_normal (s := ()) _ ((has_exact ⟨rfl, rfl, rfl, trivial⟩ ⟨rfl, trivial⟩))
        ·
          rintro ⟨⟩ v3 nn
          show Tr _ _ _ ⟨[(3, .optr 3 v3 0 0), (5, .sl (r4.map (eL eI64))), (6, .int .i64 k5)], [(3, some (v3, ⟨false, true, 3, 27, [.agg [.int .i64 r3.1.Params, .sl (r3.1.Slots.map eSlot), .sl (r3.1.Code.map eInstr)]]⟩))], _⟩ (law13_FlowNextIsBefore_j2 k5)
          unfold law13_FlowNextIsBefore_j2
          refine tr_reg ?_
          refine trO_mv rfl rfl ?_
          refine trO_bin (v := .int .i64 (IntKind.i64.wrap (k5 + 1))) rfl rfl rfl rfl rfl ?_
          refine trO_asg rfl rfl ?_
          refine trO_nil ?_
          exact trX_loop (s := IntKind.i64.wrap (k5 + 1)) _ ((has_exact ⟨rfl, rfl, rfl, trivial⟩ ⟨rfl, trivial⟩))
      ·
        refine tr_exit ?_
        refine trX_seq_exit ?_
        refine trX_loop_exit ?_
        refine trX_blk_here ?_
        refine trX_seq ?_
        refine tr_seq ?_
        refine tr_reg ?_
        refine trO_asg rfl rfl ?_
        refine trO_nil ?_
        refine trX_seq ?_
        refine tr_ret ?_
        exact ret_ground (b := true) rfl (by first | (simp; done) | (simp; omega)) rfl rfl (by first | (simp; done) | (simp; omega)) rfl

end Go.Proofs.Ytlphpepmbcbmiaa
