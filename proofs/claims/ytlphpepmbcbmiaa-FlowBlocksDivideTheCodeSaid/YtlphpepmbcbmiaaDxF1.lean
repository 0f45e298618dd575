/-
  Programs on typed data, and the proofs that the code does what they say; written by a program (dx.py).
-/
import Derived.Test.YtlphpepmbcbmiaaProg
import Derived.Test.YtlphpepmbcbmiaaDx4
import Derived.Test.YtlphpepmbcbmiaaDy1
import Derived.KernelRfl
import Derived.Test.YtlphpepmbcbmiaaSh
import Derived.Test.YtlphpepmbcbmiaaDxP
namespace Go.Proofs.Ytlphpepmbcbmiaa
open Go Go.Dw Go.Proofs
set_option maxRecDepth 100000
def dc40 : DCode := (.seq (.reg [⟨(some 2), (.asg (.c (.bool false)) none), none, []⟩] false) (.seq (.reg [⟨(some 3), (.mv (.t 0)), none, []⟩, ⟨(some 4), (.bin .eql (.t 3) (.c (.int .i64 20))), none, []⟩, ⟨(some 5), (.mv (.t 4)), none, []⟩, ⟨(some 6), (.mv (.t 0)), (some ⟨5, false⟩), []⟩, ⟨(some 7), (.bin .eql (.t 6) (.c (.int .i64 23))), (some ⟨5, false⟩), []⟩, ⟨(some 8), (.pick (.t 5) (.c (.bool true)) (.t 7)), none, []⟩, ⟨(some 9), (.mv (.t 8)), none, []⟩, ⟨(some 10), (.mv (.t 0)), (some ⟨9, false⟩), []⟩, ⟨(some 11), (.bin .eql (.t 10) (.c (.int .i64 24))), (some ⟨9, false⟩), []⟩, ⟨(some 12), (.pick (.t 9) (.c (.bool true)) (.t 11)), none, []⟩, ⟨(some 2), (.asg (.t 12) none), none, []⟩] false) .ret))
theorem dc40_c : (Try.f40.body.bind (cCode Try.prog Try.f40.ntmps)) = some dc40 := by kernel_rfl
theorem dc40_r : Try.f40.results.toList.mapM (cRes Try.prog) = some [(.t 2)] := by kernel_rfl
def sir_Terminator_enc (a : Int) : List D := [.int .i64 a]
def sir_Terminator_dec (ds : List D) : Int := uI (ds.getD 0 .top)
theorem sir_Terminator_de (a : Int) : sir_Terminator_dec (sir_Terminator_enc a) = a := by simp [sir_Terminator_dec, sir_Terminator_enc, uI, uBo, uS]
def sir_Terminator_R (b : Bool) : D := .bool b
def sir_Terminator_E (_b : Bool) : List D := []
noncomputable def sir_Terminator_S : Dw.Spec := fSpec [] .ground sir_Terminator_enc sir_Terminator_dec (fun a => sir_Terminator a) sir_Terminator_R sir_Terminator_E
set_option maxHeartbeats 4000000 in
theorem sir_Terminator_ok : SpecOk Try.prog 40 sir_Terminator_S := by
  refine fn_ok (specs_nil) Try.func40 (by decide) dc40_c dc40_r (np := 1) (by decide) sir_Terminator_de (fun _ => rfl) ?_
  intro op1
  show Tr (specs []) dc40 (kRet [] .ground [(.t 2)] 1 sir_Terminator_R sir_Terminator_E) ⟨[(0, .int .i64 op1)], [], 1⟩ (sir_Terminator op1)
  unfold dc40 sir_Terminator
  refine tr_seq ?_
  refine tr_reg ?_
  refine trO_asg rfl rfl ?_
  refine trO_nil ?_
  refine trX_seq ?_
  refine tr_seq ?_
  refine tr_reg ?_
  refine trO_mv rfl rfl ?_
  refine trO_bin (v := .bool (op1 == 20)) rfl rfl rfl rfl rfl ?_
  refine trO_mv rfl rfl ?_
  refine trO_split 5 (b := (op1 == 20)) rfl ?_ ?_
  ·
    refine trO_off rfl ?_
    refine trO_off rfl ?_
    refine trO_pick_true rfl rfl rfl rfl ?_
    refine trO_mv rfl rfl ?_
    refine trO_off rfl ?_
    refine trO_off rfl ?_
    refine trO_pick_true rfl rfl rfl rfl ?_
    refine trO_asg rfl rfl ?_
    refine trO_nil ?_
    refine trX_seq ?_
    refine tr_ret ?_
    exact ret_ground (b := true) rfl (by first | (simp; done) | (simp; omega)) rfl rfl (by first | (simp; done) | (simp; omega)) rfl
  ·
    refine trO_mv rfl rfl ?_
    refine trO_bin (v := .bool (op1 == 23)) rfl rfl rfl rfl rfl ?_
    refine trO_pick_false rfl rfl rfl rfl ?_
    refine trO_mv rfl rfl ?_
    refine trO_split 9 (b := (op1 == 23)) rfl ?_ ?_
    ·
      refine trO_off rfl ?_
      refine trO_off rfl ?_
      refine trO_pick_true rfl rfl rfl rfl ?_
      refine trO_asg rfl rfl ?_
      refine trO_nil ?_
      refine trX_seq ?_
      refine tr_ret ?_
      exact ret_ground (b := true) rfl (by first | (simp; done) | (simp; omega)) rfl rfl (by first | (simp; done) | (simp; omega)) rfl
    ·
      refine trO_mv rfl rfl ?_
      refine trO_bin (v := .bool (op1 == 24)) rfl rfl rfl rfl rfl ?_
      refine trO_pick_false rfl rfl rfl rfl ?_
      refine trO_asg rfl rfl ?_
      refine trO_nil ?_
      refine trX_seq ?_
      refine tr_ret ?_
      exact ret_ground (b := (op1 == 24)) rfl (by first | (simp; done) | (simp; omega)) rfl rfl (by first | (simp; done) | (simp; omega)) rfl

def dc15 : DCode := (.seq (.reg [⟨(some 2), (.box (.t 0) 3 27), none, []⟩, ⟨(some 4), (.asg (.c .nils) (some ⟨1, 3⟩)), none, []⟩] false) (.seq (.seq (.reg [⟨(some 7), (.mv (.t 1)), none, []⟩, ⟨(some 8), (.bin .lss (.t 7) (.c (.int .i64 0))), none, []⟩, ⟨(some 9), (.mv (.t 8)), none, []⟩, ⟨(some 10), (.mv (.t 1)), (some ⟨9, false⟩), []⟩, ⟨(some 11), (.fldA 2 (.t 2)), (some ⟨9, false⟩), []⟩, ⟨(some 12), (.ld 1 false (.t 11)), (some ⟨9, false⟩), []⟩, ⟨(some 13), (.len false (.t 12)), (some ⟨9, false⟩), []⟩, ⟨(some 14), (.bin .geq (.t 10) (.t 13)), (some ⟨9, false⟩), []⟩, ⟨(some 15), (.pick (.t 9) (.c (.bool true)) (.t 14)), none, []⟩] false) (.cond (.t 15) (.seq (.reg [⟨(some 4), (.asg (.c .nils) (some ⟨1, 3⟩)), none, []⟩] false) .ret) .skip)) (.seq (.reg [⟨(some 5), (.asg (.c .nils) (some ⟨1, 3⟩)), none, []⟩] false) (.seq (.reg [⟨(some 16), (.fldA 2 (.t 2)), none, []⟩, ⟨(some 17), (.ld 1 false (.t 16)), none, []⟩, ⟨(some 18), (.mv (.t 1)), none, []⟩, ⟨(some 19), (.ixA 5 (.t 17) (.t 18)), none, []⟩, ⟨(some 20), (.ld 5 true (.t 19)), none, []⟩, ⟨(some 6), (.new (.agg [(.int .i64 0), (.int .i64 0), (.int .i64 0), (.int .i64 0), (.int .u64 0)]) 5 52), none, []⟩, ⟨none, (.st 5 (.t 6) (.t 20)), none, []⟩] false) (.seq (.seq (.reg [⟨(some 21), (.fldA 0 (.t 6)), none, []⟩, ⟨(some 22), (.ld 1 false (.t 21)), none, []⟩, ⟨(some 23), (.call (.c (.clo 40 [])) [(.t 22)]), none, []⟩, ⟨(some 24), (.un .not (.t 23)), none, []⟩] false) (.cond (.t 24) (.reg [⟨(some 25), (.mv (.t 5)), none, []⟩, ⟨(some 26), (.mv (.t 1)), none, []⟩, ⟨(some 27), (.bin .add (.t 26) (.c (.int .i64 1))), none, []⟩, ⟨(some 28), (.bldS 1 3 (.int .i64 0) 1 [⟨0, (.t 27)⟩]), none, []⟩, ⟨(some 29), (.app 1 3 8 (.t 25) (.t 28)), none, []⟩, ⟨(some 5), (.asg (.t 29) (some ⟨1, 3⟩)), none, []⟩] false) .skip)) (.seq (.seq (.reg [⟨(some 30), (.fldA 0 (.t 6)), none, []⟩, ⟨(some 31), (.ld 1 false (.t 30)), none, []⟩] false) (.block 0 (.seq (.reg [⟨(some 33), (.bin .eql (.t 31) (.c (.int .i64 20))), none, []⟩, ⟨(some 32), (.asg (.t 33) none), none, []⟩] false) (.cond (.t 32) (.reg [⟨(some 34), (.mv (.t 5)), none, []⟩, ⟨(some 35), (.fldA 1 (.t 6)), none, []⟩, ⟨(some 36), (.ld 1 false (.t 35)), none, []⟩, ⟨(some 37), (.bldS 1 3 (.int .i64 0) 1 [⟨0, (.t 36)⟩]), none, []⟩, ⟨(some 38), (.app 1 3 8 (.t 34) (.t 37)), none, []⟩, ⟨(some 5), (.asg (.t 38) (some ⟨1, 3⟩)), none, []⟩] false) (.seq (.reg [⟨(some 40), (.bin .eql (.t 31) (.c (.int .i64 21))), none, []⟩, ⟨(some 39), (.asg (.t 40) none), none, []⟩] false) (.cond (.t 39) (.reg [⟨(some 41), (.mv (.t 5)), none, []⟩, ⟨(some 42), (.fldA 2 (.t 6)), none, []⟩, ⟨(some 43), (.ld 1 false (.t 42)), none, []⟩, ⟨(some 44), (.bldS 1 3 (.int .i64 0) 1 [⟨0, (.t 43)⟩]), none, []⟩, ⟨(some 45), (.app 1 3 8 (.t 41) (.t 44)), none, []⟩, ⟨(some 5), (.asg (.t 45) (some ⟨1, 3⟩)), none, []⟩] false) .skip)))))) (.seq (.reg [⟨(some 46), (.mv (.t 5)), none, []⟩, ⟨(some 47), (.call (.c (.clo 41 [])) [(.t 46)]), none, []⟩] false) (.seq (.reg [⟨(some 48), (.mv (.t 5)), none, []⟩, ⟨(some 49), (.call (.c (.clo 42 [])) [(.t 48)]), none, []⟩, ⟨(some 4), (.asg (.t 49) (some ⟨1, 3⟩)), none, []⟩] false) .ret))))))))
theorem dc15_c : (Try.f15.body.bind (cCode Try.prog Try.f15.ntmps)) = some dc15 := by kernel_rfl
theorem dc15_r : Try.f15.results.toList.mapM (cRes Try.prog) = some [(.t 4)] := by kernel_rfl
def flow_Next_enc (a : TFunc × Int) : List D := [eFunc a.1, .int .i64 a.2]
def flow_Next_dec (ds : List D) : TFunc × Int := (uFunc (ds.getD 0 .top), uI (ds.getD 1 .top))
theorem flow_Next_de (a : TFunc × Int) : flow_Next_dec (flow_Next_enc a) = a := by simp [flow_Next_dec, flow_Next_enc, uI, uBo, uS]
def flow_Next_R (b : (List Int)) : D := .sl (b.map eI64)
def flow_Next_E (_b : (List Int)) : List D := []
noncomputable def flow_Next_S : Dw.Spec := fSpec [] (.row 1 3) flow_Next_enc flow_Next_dec (fun a => flow_Next a.1 a.2) flow_Next_R flow_Next_E
set_option maxHeartbeats 4000000 in
theorem flow_Next_ok : SpecOk Try.prog 15 flow_Next_S := by
  refine fn_ok (specs_ok (l := [(40, sir_Terminator_S), (41, slices_Sort_int_int_S), (42, slices_Compact_int_int_S)]) (by simp [sir_Terminator_ok, slices_Sort_int_int_ok, slices_Compact_int_int_ok])) Try.func15 (by decide) dc15_c dc15_r (np := 2) (by decide) flow_Next_de (fun _ => rfl) ?_
  rintro ⟨f1, k2⟩
  show Tr (specs [(40, sir_Terminator_S), (41, slices_Sort_int_int_S), (42, slices_Compact_int_int_S)]) dc15 (kRet [] (.row 1 3) [(.t 4)] 2 flow_Next_R flow_Next_E) ⟨[(0, .agg [.int .i64 f1.Params, .sl (f1.Slots.map eSlot), .sl (f1.Code.map eInstr)]), (1, .int .i64 k2)], [], 2⟩ (flow_Next f1 k2)
  unfold dc15 flow_Next
  refine tr_seq ?_
  refine tr_reg ?_
  refine trO_box rfl rfl rfl rfl rfl ?_
  refine trO_asg_nil (α := Int) rfl eI64 rfl ?_
  refine trO_nil ?_
  refine trX_seq ?_
  refine tr_seq_cut (E := fun (s : Unit) (g : Nat) => [(1, .int .i64 k2), (2, .optr 2 g 0 0)]) (O := fun s g => [(2, some (g, ⟨false, true, 3, 27, [.agg [.int .i64 f1.Params, .sl (f1.Slots.map eSlot), .sl (f1.Code.map eInstr)]]⟩))]) (j := fun s => flow_Next_j1 f1 k2) ?_ ?_
  ·
    refine tr_seq ?_
    refine tr_reg ?_
    refine trO_mv rfl rfl ?_
    refine trO_bin (v := .bool (decide (k2 < 0))) rfl rfl rfl rfl rfl ?_
    refine trO_mv rfl rfl ?_
    refine trO_split 9 (b := (decide (k2 < 0))) rfl ?_ ?_
    ·
      refine trO_off rfl ?_
      refine trO_off rfl ?_
      refine trO_off rfl ?_
      refine trO_off rfl ?_
      refine trO_off rfl ?_
      refine trO_pick_true rfl rfl rfl rfl ?_
      refine trO_nil ?_
      refine trX_seq ?_
      refine tr_cond_true rfl ?_
      refine tr_seq ?_
      refine tr_reg ?_
      refine trO_asg_nil (α := Int) rfl eI64 rfl ?_
      refine trO_nil ?_
      refine trX_seq ?_
      refine tr_ret ?_
      refine trX_cut_ret ?_
      exact ret_row (b := ([] : List Int)) rfl (by first | (simp; done) | (simp; omega)) rfl rfl (by first | (simp; done) | (simp; omega)) rfl (by first | (simp; done) | (simp; omega)) (congrArg D.sl (take_len_map' _ _ rfl)) rfl
    ·
      refine trO_mv rfl rfl ?_
      refine trO_fldA rfl rfl ?_
      refine trO_ld_obj (v := .sl (f1.Code.map eInstr)) (z := .agg [.int .i64 f1.Params, .sl (f1.Slots.map eSlot), .sl (f1.Code.map eInstr)]) rfl rfl rfl rfl rfl rfl ?_
      refine trO_len_sl rfl rfl ?_
      refine trO_bin (v := .bool (decide (k2 ≥ (f1.Code.length : Int)))) rfl rfl rfl rfl rfl ?_
      refine trO_pick_false rfl rfl rfl rfl ?_
      refine trO_nil ?_
      refine trX_seq ?_
      refine tr_cond (c := (decide (k2 ≥ (f1.Code.length : Int)))) rfl ?_ ?_
      ·
        refine tr_seq ?_
        refine tr_reg ?_
        refine trO_asg_nil (α := Int) rfl eI64 rfl ?_
        refine trO_nil ?_
        refine trX_seq ?_
        refine tr_ret ?_
        refine trX_cut_ret ?_
        exact ret_row (b := ([] : List Int)) rfl (by first | (simp; done) | (simp; omega)) rfl rfl (by first | (simp; done) | (simp; omega)) rfl (by first | (simp; done) | (simp; omega)) (congrArg D.sl (take_len_map' _ _ rfl)) rfl
      ·
        refine tr_skip ?_
        exact trX_cut (s := ()) _ (has_exact ⟨rfl, rfl, trivial⟩ ⟨rfl, trivial⟩)
  ·
    rintro ⟨⟩ v2 nn
    show Tr _ _ _ ⟨[(1, .int .i64 k2), (2, .optr 2 v2 0 0)], [(2, some (v2, ⟨false, true, 3, 27, [.agg [.int .i64 f1.Params, .sl (f1.Slots.map eSlot), .sl (f1.Code.map eInstr)]]⟩))], _⟩ (flow_Next_j1 f1 k2)
    unfold flow_Next_j1
    refine tr_seq ?_
    refine tr_reg ?_
    refine trO_asg_nil (α := Int) rfl eI64 rfl ?_
    refine trO_nil ?_
    refine trX_seq ?_
    refine tr_seq ?_
    refine tr_reg ?_
    refine trO_fldA rfl rfl ?_
    refine trO_ld_obj (v := .sl (f1.Code.map eInstr)) (z := .agg [.int .i64 f1.Params, .sl (f1.Slots.map eSlot), .sl (f1.Code.map eInstr)]) rfl rfl rfl rfl rfl rfl ?_
    refine trO_mv rfl rfl ?_
    refine trO_bind fun x_x3 hx_x3 => ?_
    refine trO_ixA_sl (en := eInstr) rfl rfl rfl hx_x3 rfl ?_
    refine trO_ld_f (v := .agg [.int .i64 x_x3.Op, .int .i64 x_x3.A, .int .i64 x_x3.B, .int .i64 x_x3.C, .int .u64 x_x3.Imm]) rfl rfl rfl rfl ?_
    refine trO_new rfl ?_
    refine trO_st_var (z' := .agg [.int .i64 x_x3.Op, .int .i64 x_x3.A, .int .i64 x_x3.B, .int .i64 x_x3.C, .int .u64 x_x3.Imm]) rfl rfl rfl rfl rfl rfl rfl rfl rfl ?_
    refine trO_nil ?_
    refine trX_seq ?_
    refine tr_seq_cut (E := fun (s : (List Int)) (g : Nat × Nat) => [(5, .osl 5 g.1 0 s.length), (6, .optr 6 g.2 0 0)]) (O := fun s g => [(5, some (g.1, ⟨false, false, 1, 3, s.map eI64⟩)), (6, some (g.2, ⟨false, true, 5, 52, [.agg [.int .i64 x_x3.Op, .int .i64 x_x3.A, .int .i64 x_x3.B, .int .i64 x_x3.C, .int .u64 x_x3.Imm]]⟩))]) (j := fun s => flow_Next_j2 x_x3 s) ?_ ?_
    ·
      refine tr_seq ?_
      refine tr_reg ?_
      refine trO_fldA rfl rfl ?_
      refine trO_ld_obj (v := .int .i64 x_x3.Op) (z := .agg [.int .i64 x_x3.Op, .int .i64 x_x3.A, .int .i64 x_x3.B, .int .i64 x_x3.C, .int .u64 x_x3.Imm]) rfl rfl rfl rfl rfl rfl ?_
      refine trO_bind fun r5 hr5 => ?_
      refine trO_call_ground x_x3.Op rfl rfl rfl sir_Terminator_de rfl rfl (by simp) rfl hr5 rfl ?_
      refine trO_un (w := .bool (!r5)) rfl rfl rfl rfl trivial ?_
      refine trO_nil ?_
      refine trX_seq ?_
      refine tr_cond (c := (!r5)) rfl ?_ ?_
      ·
        refine tr_reg ?_
        refine trO_mv rfl rfl ?_
        refine trO_mv rfl rfl ?_
        refine trO_bin (v := .int .i64 (IntKind.i64.wrap (k2 + 1))) rfl rfl rfl rfl rfl ?_
        refine trO_bldS ([IntKind.i64.wrap (k2 + 1)] : List Int) eI64 rfl rfl rfl (by simp) rfl rfl rfl ?_
        refine trO_chk fun hq => ?_
        refine trO_app (([] : List Int)) (([IntKind.i64.wrap (k2 + 1)] : List Int)) eI64 rfl rfl rfl rfl rfl rfl rfl (by simp) (take_drop0_map' _ _ rfl) rfl rfl (by simp) (take_len_map' _ _ rfl) (fun _ => rfl) rfl hq ?_
        refine trO_asg_own (l := ([] : List Int) ++ ([IntKind.i64.wrap (k2 + 1)] : List Int)) (en := eI64) rfl rfl rfl rfl ?_
        refine trO_nil ?_
        exact trX_cut (s := ([] : List Int) ++ ([IntKind.i64.wrap (k2 + 1)] : List Int)) (_, _) (has_exact ⟨rfl, rfl, trivial⟩ ⟨rfl, rfl, trivial⟩)
      ·
        refine tr_skip ?_
        exact trX_cut (s := ([] : List Int)) (_, _) (has_exact ⟨rfl, rfl, trivial⟩ ⟨rfl, rfl, trivial⟩)
    ·
      rintro l4 ⟨v5, v6⟩ nn
      show Tr _ _ _ ⟨[(5, .osl 5 v5 0 l4.length), (6, .optr 6 v6 0 0)], [(5, some (v5, ⟨false, false, 1, 3, l4.map eI64⟩)), (6, some (v6, ⟨false, true, 5, 52, [.agg [.int .i64 x_x3.Op, .int .i64 x_x3.A, .int .i64 x_x3.B, .int .i64 x_x3.C, .int .u64 x_x3.Imm]]⟩))], _⟩ (flow_Next_j2 x_x3 l4)
      unfold flow_Next_j2
      refine tr_seq ?_
      refine tr_seq ?_
      refine tr_reg ?_
      refine trO_fldA rfl rfl ?_
      refine trO_ld_obj (v := .int .i64 x_x3.Op) (z := .agg [.int .i64 x_x3.Op, .int .i64 x_x3.A, .int .i64 x_x3.B, .int .i64 x_x3.C, .int .u64 x_x3.Imm]) rfl rfl rfl rfl rfl rfl ?_
      refine trO_nil ?_
      refine trX_seq ?_
      refine tr_block ?_
      refine tr_seq ?_
      refine tr_reg ?_
      refine trO_bin (v := .bool (x_x3.Op == 20)) rfl rfl rfl rfl rfl ?_
      refine trO_asg rfl rfl ?_
      refine trO_nil ?_
      refine trX_seq ?_
      refine tr_cond (c := (x_x3.Op == 20)) rfl ?_ ?_
      ·
        refine tr_reg ?_
        refine trO_mv rfl rfl ?_
        refine trO_fldA rfl rfl ?_
        refine trO_ld_obj (v := .int .i64 x_x3.A) (z := .agg [.int .i64 x_x3.Op, .int .i64 x_x3.A, .int .i64 x_x3.B, .int .i64 x_x3.C, .int .u64 x_x3.Imm]) rfl rfl rfl rfl rfl rfl ?_
        refine trO_bldS ([x_x3.A] : List Int) eI64 rfl rfl rfl (by simp) rfl rfl rfl ?_
        refine trO_chk fun hq => ?_
        refine trO_app (l4) (([x_x3.A] : List Int)) eI64 rfl rfl rfl rfl rfl rfl rfl (by simp) (take_drop0_map' _ _ rfl) rfl rfl (by simp) (take_len_map' _ _ rfl) (fun _ => rfl) rfl hq ?_
        refine trO_asg_own (l := l4 ++ ([x_x3.A] : List Int)) (en := eI64) rfl rfl rfl rfl ?_
        refine trO_nil ?_
        refine trX_blk_normal ?_
        refine trX_seq ?_
        refine tr_seq ?_
        refine tr_reg ?_
        refine trO_mv rfl rfl ?_
        refine trO_chk fun hq => ?_
        refine trO_inpl_d (l := l4 ++ ([x_x3.A] : List Int)) (l' := sortI (l4 ++ ([x_x3.A] : List Int))) rfl rfl rfl rfl rfl rfl rfl hq rfl ?_
        refine trO_nil ?_
        refine trX_seq ?_
        refine tr_seq ?_
        refine tr_reg ?_
        refine trO_mv rfl rfl ?_
        refine trO_chk fun hq => ?_
        refine trO_inpl_cut (l := sortI (l4 ++ ([x_x3.A] : List Int))) (l' := Lib.compact (sortI (l4 ++ ([x_x3.A] : List Int)))) rfl rfl rfl rfl rfl (by simp) rfl hq (compactIn_take _) rfl ?_
        refine trO_asg_own (l := Lib.compact (sortI (l4 ++ ([x_x3.A] : List Int)))) (en := eI64) rfl rfl rfl rfl ?_
        refine trO_nil ?_
        refine trX_seq ?_
        refine tr_ret ?_
        exact ret_row (b := Lib.compact (sortI (l4 ++ ([x_x3.A] : List Int)))) rfl (by first | (simp; done) | (simp; omega)) rfl rfl (by first | (simp; done) | (simp; omega)) rfl (by first | (simp; done) | (simp; omega)) (congrArg D.sl (take_len_map' _ _ rfl)) rfl
      ·
        refine tr_seq ?_
        refine tr_reg ?_
        refine trO_bin (v := .bool (x_x3.Op == 21)) rfl rfl rfl rfl rfl ?_
        refine trO_asg rfl rfl ?_
        refine trO_nil ?_
        refine trX_seq ?_
        refine tr_cond (c := (x_x3.Op == 21)) rfl ?_ ?_
        ·
          refine tr_reg ?_
          refine trO_mv rfl rfl ?_
          refine trO_fldA rfl rfl ?_
          refine trO_ld_obj (v := .int .i64 x_x3.B) (z := .agg [.int .i64 x_x3.Op, .int .i64 x_x3.A, .int .i64 x_x3.B, .int .i64 x_x3.C, .int .u64 x_x3.Imm]) rfl rfl rfl rfl rfl rfl ?_
          refine trO_bldS ([x_x3.B] : List Int) eI64 rfl rfl rfl (by simp) rfl rfl rfl ?_
          refine trO_chk fun hq => ?_
          refine trO_app (l4) (([x_x3.B] : List Int)) eI64 rfl rfl rfl rfl rfl rfl rfl (by simp) (take_drop0_map' _ _ rfl) rfl rfl (by simp) (take_len_map' _ _ rfl) (fun _ => rfl) rfl hq ?_
          refine trO_asg_own (l := l4 ++ ([x_x3.B] : List Int)) (en := eI64) rfl rfl rfl rfl ?_
          refine trO_nil ?_
          refine trX_blk_normal ?_
          refine trX_seq ?_
          refine tr_seq ?_
          refine tr_reg ?_
          refine trO_mv rfl rfl ?_
          refine trO_chk fun hq => ?_
          refine trO_inpl_d (l := l4 ++ ([x_x3.B] : List Int)) (l' := sortI (l4 ++ ([x_x3.B] : List Int))) rfl rfl rfl rfl rfl rfl rfl hq rfl ?_
          refine trO_nil ?_
          refine trX_seq ?_
          refine tr_seq ?_
          refine tr_reg ?_
          refine trO_mv rfl rfl ?_
          refine trO_chk fun hq => ?_
          refine trO_inpl_cut (l := sortI (l4 ++ ([x_x3.B] : List Int))) (l' := Lib.compact (sortI (l4 ++ ([x_x3.B] : List Int)))) rfl rfl rfl rfl rfl (by simp) rfl hq (compactIn_take _) rfl ?_
          refine trO_asg_own (l := Lib.compact (sortI (l4 ++ ([x_x3.B] : List Int)))) (en := eI64) rfl rfl rfl rfl ?_
          refine trO_nil ?_
          refine trX_seq ?_
          refine tr_ret ?_
          exact ret_row (b := Lib.compact (sortI (l4 ++ ([x_x3.B] : List Int)))) rfl (by first | (simp; done) | (simp; omega)) rfl rfl (by first | (simp; done) | (simp; omega)) rfl (by first | (simp; done) | (simp; omega)) (congrArg D.sl (take_len_map' _ _ rfl)) rfl
        ·
          refine tr_skip ?_
          refine trX_blk_normal ?_
          refine trX_seq ?_
          refine tr_seq ?_
          refine tr_reg ?_
          refine trO_mv rfl rfl ?_
          refine trO_chk fun hq => ?_
          refine trO_inpl_d (l := l4) (l' := sortI l4) rfl rfl rfl rfl rfl rfl rfl hq rfl ?_
          refine trO_nil ?_
          refine trX_seq ?_
          refine tr_seq ?_
          refine tr_reg ?_
          refine trO_mv rfl rfl ?_
          refine trO_chk fun hq => ?_
          refine trO_inpl_cut (l := sortI l4) (l' := Lib.compact (sortI l4)) rfl rfl rfl rfl rfl (by simp) rfl hq (compactIn_take _) rfl ?_
          refine trO_asg_own (l := Lib.compact (sortI l4)) (en := eI64) rfl rfl rfl rfl ?_
          refine trO_nil ?_
          refine trX_seq ?_
          refine tr_ret ?_
          exact ret_row (b := Lib.compact (sortI l4)) rfl (by first | (simp; done) | (simp; omega)) rfl rfl (by first | (simp; done) | (simp; omega)) rfl (by first | (simp; done) | (simp; omega)) (congrArg D.sl (take_len_map' _ _ rfl)) rfl

def dc12 : DCode := (.seq (.reg [⟨(some 0), (.asg (.c (.bool false)) none), none, []⟩] false) (.seq (.reg [⟨(some 2), (.bld [(.int .i64 0), (.int .i64 0), (.int .i64 0), (.int .i64 0), (.int .u64 0)] [⟨0, ⟨1, (.c (.int .i64 20))⟩⟩, ⟨1, ⟨1, (.c (.int .i64 1))⟩⟩]), none, []⟩, ⟨(some 3), (.bld [(.int .i64 0), (.int .i64 0), (.int .i64 0), (.int .i64 0), (.int .u64 0)] [⟨0, ⟨1, (.c (.int .i64 23))⟩⟩]), none, []⟩, ⟨(some 4), (.bldS 5 52 (.agg [(.int .i64 0), (.int .i64 0), (.int .i64 0), (.int .i64 0), (.int .u64 0)]) 2 [⟨0, (.t 2)⟩, ⟨1, (.t 3)⟩]), none, []⟩, ⟨(some 5), (.bld [(.int .i64 0), .nils, .nils] [⟨2, ⟨1, (.t 4)⟩⟩]), none, []⟩, ⟨(some 6), (.call (.c (.clo 15 [])) [(.t 5), (.c (.int .i64 0))]), none, []⟩, ⟨(some 1), (.asg (.t 6) (some ⟨1, 3⟩)), none, []⟩] false) (.seq (.reg [⟨(some 7), (.mv (.t 1)), none, []⟩, ⟨(some 8), (.len false (.t 7)), none, []⟩, ⟨(some 9), (.bin .eql (.t 8) (.c (.int .i64 1))), none, []⟩, ⟨(some 10), (.mv (.t 9)), none, []⟩, ⟨(some 11), (.mv (.t 1)), (some ⟨10, true⟩), []⟩, ⟨(some 12), (.ixA 1 (.t 11) (.c (.int .i64 0))), (some ⟨10, true⟩), []⟩, ⟨(some 13), (.ld 1 false (.t 12)), (some ⟨10, true⟩), []⟩, ⟨(some 14), (.bin .eql (.t 13) (.c (.int .i64 1))), (some ⟨10, true⟩), []⟩, ⟨(some 15), (.pick (.t 10) (.t 14) (.c (.bool false))), none, []⟩, ⟨(some 0), (.asg (.t 15) none), none, []⟩] false) .ret)))
theorem dc12_c : (Try.f12.body.bind (cCode Try.prog Try.f12.ntmps)) = some dc12 := by kernel_rfl
theorem dc12_r : Try.f12.results.toList.mapM (cRes Try.prog) = some [(.t 0)] := by kernel_rfl
def law13_awake_enc (a : Unit) : List D := []
def law13_awake_dec (ds : List D) : Unit := ()
theorem law13_awake_de (a : Unit) : law13_awake_dec (law13_awake_enc a) = a := by simp [law13_awake_dec, law13_awake_enc, uI, uBo, uS]
def law13_awake_R (b : Bool) : D := .bool b
def law13_awake_E (_b : Bool) : List D := []
noncomputable def law13_awake_S : Dw.Spec := fSpec [] .ground law13_awake_enc law13_awake_dec (fun a => law13_awake) law13_awake_R law13_awake_E
set_option maxHeartbeats 4000000 in
theorem law13_awake_ok : SpecOk Try.prog 12 law13_awake_S := by
  refine fn_ok (specs_ok (l := [(15, flow_Next_S)]) (by simp [flow_Next_ok])) Try.func12 (by decide) dc12_c dc12_r (np := 0) (by decide) law13_awake_de (fun _ => rfl) ?_
  intro _
  show Tr (specs [(15, flow_Next_S)]) dc12 (kRet [] .ground [(.t 0)] 0 law13_awake_R law13_awake_E) ⟨[], [], 0⟩ (law13_awake)
  unfold dc12 law13_awake
  refine tr_seq ?_
  refine tr_reg ?_
  refine trO_asg rfl rfl ?_
  refine trO_nil ?_
  refine trX_seq ?_
  refine tr_seq ?_
  refine tr_reg ?_
  refine trO_bld (cs := [.int .i64 20, .int .i64 1, .int .i64 0, .int .i64 0, .int .u64 0]) (ps := [(0, 1, .int .i64 20), (1, 1, .int .i64 1)]) rfl rfl rfl rfl ?_
  refine trO_bld (cs := [.int .i64 23, .int .i64 0, .int .i64 0, .int .i64 0, .int .u64 0]) (ps := [(0, 1, .int .i64 23)]) rfl rfl rfl rfl ?_
  refine trO_bldS ([(TInstr.mk 20 1 0 0 0), (TInstr.mk 23 0 0 0 0)] : List TInstr) eInstr rfl rfl rfl (by simp) rfl rfl rfl ?_
  refine trO_bld (cs := [.int .i64 0, .nils, .osl 4 _ 0 (([(TInstr.mk 20 1 0 0 0), (TInstr.mk 23 0 0 0 0)] : List TInstr).length)]) (ps := [(2, 1, .osl 4 _ 0 (([(TInstr.mk 20 1 0 0 0), (TInstr.mk 23 0 0 0 0)] : List TInstr).length))]) rfl rfl rfl rfl ?_
  refine trO_bind fun r1 hr1 => ?_
  refine trO_call_row (l := r1) (en := eI64) ((TFunc.mk 0 ([]) ([(TInstr.mk 20 1 0 0 0), (TInstr.mk 23 0 0 0 0)] : List TInstr)), 0) rfl rfl rfl flow_Next_de rfl rfl (by simp) (by first | rfl | (simp only [take_drop0_map, take_sub_map]; rfl) | simp [flow_Next_enc, eFunc]) hr1 rfl ?_
  refine trO_asg_own (l := r1) (en := eI64) rfl rfl rfl rfl ?_
  refine trO_nil ?_
  refine trX_seq ?_
  refine tr_seq ?_
  refine tr_reg ?_
  refine trO_mv rfl rfl ?_
  refine trO_len_own rfl rfl ?_
  refine trO_bin (v := .bool ((r1.length : Int) == 1)) rfl rfl rfl rfl rfl ?_
  refine trO_mv rfl rfl ?_
  refine trO_split 10 (b := ((r1.length : Int) == 1)) rfl ?_ ?_
  ·
    refine trO_mv rfl rfl ?_
    refine trO_chk fun hq => ?_
    refine trO_ixA_own (l := r1) (en := eI64) rfl rfl rfl rfl rfl hq ?_
    refine trO_bind fun l_e2 hl_e2 => ?_
    refine trO_ld_obj (v := .int .i64 l_e2) (z := eI64 l_e2) rfl rfl rfl (map_get hl_e2) rfl rfl ?_
    refine trO_bin (v := .bool (l_e2 == 1)) rfl rfl rfl rfl rfl ?_
    refine trO_pick_true rfl rfl rfl rfl ?_
    refine trO_asg rfl rfl ?_
    refine trO_nil ?_
    refine trX_seq ?_
    refine tr_ret ?_
    exact ret_ground (b := (l_e2 == 1)) rfl (by first | (simp; done) | (simp; omega)) rfl rfl (by first | (simp; done) | (simp; omega)) rfl
  ·
    refine trO_off rfl ?_
    refine trO_off rfl ?_
    refine trO_off rfl ?_
    refine trO_off rfl ?_
    refine trO_pick_false rfl rfl rfl rfl ?_
    refine trO_asg rfl rfl ?_
    refine trO_nil ?_
    refine trX_seq ?_
    refine tr_ret ?_
    exact ret_ground (b := false) rfl (by first | (simp; done) | (simp; omega)) rfl rfl (by first | (simp; done) | (simp; omega)) rfl

def dc37 : DCode := (.seq (.reg [⟨(some 4), (.asg (.c .top) none), none, []⟩] false) (.seq (.reg [⟨(some 5), (.mv (.t 0)), none, []⟩, ⟨(some 6), (.mv (.t 0)), none, []⟩, ⟨(some 7), (.len false (.t 6)), none, []⟩, ⟨(some 8), (.mv (.t 1)), none, []⟩, ⟨(some 9), (.min [(.t 7), (.t 8)]), none, []⟩, ⟨(some 10), (.slc 1 (.t 5) none (some (.t 9))), none, []⟩, ⟨(some 11), (.bld [.nils, (.int .i64 0)] [⟨0, ⟨1, (.t 10)⟩⟩]), none, []⟩, ⟨(some 12), (.box (.t 11) 2 80), none, []⟩, ⟨(some 4), (.asg (.t 12) none), none, []⟩] false) .ret))
theorem dc37_c : (Try.f37.body.bind (cCode Try.prog Try.f37.ntmps)) = some dc37 := by kernel_rfl
theorem dc37_r : Try.f37.results.toList.mapM (cRes Try.prog) = some [(.t 4)] := by kernel_rfl
def draw_New_enc (a : (List Int) × Int) : List D := [.sl (a.1.map eU8), .int .i64 a.2]
def draw_New_dec (ds : List D) : (List Int) × Int := ((uL uI) (ds.getD 0 .top), uI (ds.getD 1 .top))
theorem draw_New_de (a : (List Int) × Int) : draw_New_dec (draw_New_enc a) = a := by simp [draw_New_dec, draw_New_enc, uI, uBo, uS, uL_e (u := uI) (en := eU8) (fun _ => rfl)]
def draw_New_R (b : Tdraw_Codes) : D := edraw_Codes b
def draw_New_E (_b : Tdraw_Codes) : List D := []
noncomputable def draw_New_S : Dw.Spec := fSpec [] (.ptr 2 80) draw_New_enc draw_New_dec (fun a => draw_New a.1 a.2) draw_New_R draw_New_E
set_option maxHeartbeats 4000000 in
theorem draw_New_ok : SpecOk Try.prog 37 draw_New_S := by
  refine fn_ok (specs_nil) Try.func37 (by decide) dc37_c dc37_r (np := 2) (by decide) draw_New_de (fun _ => rfl) ?_
  rintro ⟨list1, limit2⟩
  show Tr (specs []) dc37 (kRet [] (.ptr 2 80) [(.t 4)] 2 draw_New_R draw_New_E) ⟨[(0, .sl (list1.map eU8)), (1, .int .i64 limit2)], [], 2⟩ (draw_New list1 limit2)
  unfold dc37 draw_New
  refine tr_seq ?_
  refine tr_reg ?_
  refine trO_asg rfl rfl ?_
  refine trO_nil ?_
  refine trX_seq ?_
  refine tr_seq ?_
  refine tr_reg ?_
  refine trO_mv rfl rfl ?_
  refine trO_mv rfl rfl ?_
  refine trO_len_sl rfl rfl ?_
  refine trO_mv rfl rfl ?_
  refine trO_min rfl rfl rfl ?_
  refine trO_chk fun hq => ?_
  refine trO_slc_sl_hi (l := list1) (en := eU8) rfl rfl rfl (fun _ => rfl) rfl hq ?_
  refine trO_bld (cs := [.sl ((list1.take (minI (list1.length : Int) limit2).toNat).map eU8), .int .i64 0]) (ps := [(0, 1, .sl ((list1.take (minI (list1.length : Int) limit2).toNat).map eU8))]) rfl rfl rfl rfl ?_
  refine trO_box rfl rfl rfl rfl rfl ?_
  refine trO_asg rfl rfl ?_
  refine trO_nil ?_
  refine trX_seq ?_
  refine tr_ret ?_
  exact ret_ptr (b := (Tdraw_Codes.mk (list1.take (minI (list1.length : Int) limit2).toNat) 0)) rfl (by first | (simp; done) | (simp; omega)) rfl (by first | (simp; done) | (simp; omega)) rfl rfl (by first | (simp; done) | (simp; omega)) rfl

def dc56 : DCode := (.seq (.reg [⟨(some 2), (.asg (.c (.bool false)) none), none, []⟩] false) (.seq (.reg [⟨(some 3), (.mv (.t 0)), none, []⟩, ⟨(some 4), (.nilck (.t 3)), none, [0]⟩, ⟨(some 5), (.fldA 1 (.t 4)), none, [1]⟩, ⟨(some 6), (.ld 1 false (.t 5)), none, [2]⟩, ⟨(some 7), (.mv (.t 0)), none, []⟩, ⟨(some 8), (.nilck (.t 7)), none, [4]⟩, ⟨(some 9), (.fldA 0 (.t 8)), none, [5]⟩, ⟨(some 10), (.ld 1 false (.t 9)), none, [6]⟩, ⟨(some 11), (.len false (.t 10)), none, [7]⟩, ⟨(some 12), (.bin .lss (.t 6) (.t 11)), none, [3, 8]⟩, ⟨(some 2), (.asg (.t 12) none), none, [9, 0, 1, 2, 3, 4, 5, 6, 7, 8, 9]⟩] true) .ret))
theorem dc56_c : (Try.f56.body.bind (cCode Try.prog Try.f56.ntmps)) = some dc56 := by kernel_rfl
theorem dc56_r : Try.f56.results.toList.mapM (cRes Try.prog) = some [(.t 2)] := by kernel_rfl
def draw_Codes_Left_enc (a : Tdraw_Codes) : List D := [edraw_Codes a]
def draw_Codes_Left_dec (ds : List D) : Tdraw_Codes := udraw_Codes (ds.getD 0 .top)
theorem draw_Codes_Left_de (a : Tdraw_Codes) : draw_Codes_Left_dec (draw_Codes_Left_enc a) = a := by simp [draw_Codes_Left_dec, draw_Codes_Left_enc, uI, uBo, uS]
def draw_Codes_Left_R (b : Bool × Tdraw_Codes) : D := .bool b.1
def draw_Codes_Left_E (b : Bool × Tdraw_Codes) : List D := [edraw_Codes b.2]
noncomputable def draw_Codes_Left_S : Dw.Spec := fSpec [(0, (2, 80))] .val draw_Codes_Left_enc draw_Codes_Left_dec (fun a => draw_Codes_Left a) draw_Codes_Left_R draw_Codes_Left_E
set_option maxHeartbeats 4000000 in
theorem draw_Codes_Left_ok : SpecOk Try.prog 56 draw_Codes_Left_S := by
  refine fn_ok (specs_nil) Try.func56 (by decide) dc56_c dc56_r (np := 1) (by decide) draw_Codes_Left_de (fun _ => rfl) ?_
  intro c1
  show Tr (specs []) dc56 (kRet [(0, (2, 80))] .val [(.t 2)] 1 draw_Codes_Left_R draw_Codes_Left_E) ⟨[(0, .optr 0 0 0 0)], [(0, some (0, ⟨false, true, 2, 80, [.agg [.sl (c1.list.map eU8), .int .i64 c1.at_]]⟩))], 1⟩ (draw_Codes_Left c1)
  unfold dc56 draw_Codes_Left
  refine tr_seq ?_
  refine tr_reg ?_
  refine trO_asg rfl rfl ?_
  refine trO_nil ?_
  refine trX_seq ?_
  refine tr_seq ?_
  refine tr_reg ?_
  refine trO_mv rfl rfl ?_
  refine trO_nilck rfl rfl rfl ?_
  refine trO_fldA rfl rfl ?_
  refine trO_ld_obj (v := .int .i64 c1.at_) (z := .agg [.sl (c1.list.map eU8), .int .i64 c1.at_]) rfl rfl rfl rfl rfl rfl ?_
  refine trO_mv rfl rfl ?_
  refine trO_nilck rfl rfl rfl ?_
  refine trO_fldA rfl rfl ?_
  refine trO_ld_obj (v := .sl (c1.list.map eU8)) (z := .agg [.sl (c1.list.map eU8), .int .i64 c1.at_]) rfl rfl rfl rfl rfl rfl ?_
  refine trO_len_sl rfl rfl ?_
  refine trO_bin (v := .bool (decide (c1.at_ < (c1.list.length : Int)))) rfl rfl rfl rfl rfl ?_
  refine trO_asg rfl rfl ?_
  refine trO_nil_draw (by kernel_rfl) ?_
  refine trX_seq ?_
  refine tr_ret ?_
  exact ret_val (b := ((decide (c1.at_ < (c1.list.length : Int))), c1)) rfl (by first | (simp; done) | (simp; omega)) rfl rfl (by first | (simp; done) | (simp; omega)) rfl

def dc39 : DCode := (.seq (.reg [⟨(some 4), (.asg (.c (.int .i64 0)) none), none, []⟩] false) (.seq (.seq (.reg [⟨(some 6), (.mv (.t 0)), none, []⟩, ⟨(some 7), (.call (.c (.clo 56 [])) [(.t 6)]), none, []⟩, ⟨(some 8), (.un .not (.t 7)), none, []⟩, ⟨(some 9), (.mv (.t 8)), none, []⟩, ⟨(some 10), (.mv (.t 1)), (some ⟨9, false⟩), []⟩, ⟨(some 11), (.bin .lss (.t 10) (.c (.int .i64 1))), (some ⟨9, false⟩), []⟩, ⟨(some 12), (.pick (.t 9) (.c (.bool true)) (.t 11)), none, []⟩] false) (.cond (.t 12) (.seq (.reg [⟨(some 4), (.asg (.c (.int .i64 0)) none), none, []⟩] false) .ret) .skip)) (.seq (.reg [⟨(some 13), (.mv (.t 0)), none, []⟩, ⟨(some 14), (.nilck (.t 13)), none, [0]⟩, ⟨(some 15), (.fldA 0 (.t 14)), none, [1]⟩, ⟨(some 16), (.ld 1 false (.t 15)), none, [2]⟩, ⟨(some 17), (.mv (.t 0)), none, []⟩, ⟨(some 18), (.nilck (.t 17)), none, [4]⟩, ⟨(some 19), (.fldA 1 (.t 18)), none, [5]⟩, ⟨(some 20), (.ld 1 false (.t 19)), none, [6]⟩, ⟨(some 21), (.ixA 1 (.t 16) (.t 20)), none, [3, 7]⟩, ⟨(some 22), (.ld 1 false (.t 21)), none, [8]⟩, ⟨(some 23), (.cvt .i64 (.t 22)), none, [9]⟩, ⟨(some 5), (.asg (.t 23) none), none, [10, 0, 1, 2, 3, 4, 5, 6, 7, 8, 9, 10]⟩] true) (.seq (.reg [⟨(some 24), (.mv (.t 0)), none, []⟩, ⟨(some 25), (.nilck (.t 24)), none, []⟩, ⟨(some 26), (.fldA 1 (.t 25)), none, []⟩, ⟨(some 27), (.ld 1 false (.t 26)), none, []⟩, ⟨(some 28), (.bin .add (.t 27) (.c (.int .i64 1))), none, []⟩, ⟨(some 29), (.nilck (.t 24)), none, []⟩, ⟨(some 30), (.fldA 1 (.t 29)), none, []⟩, ⟨none, (.st 1 (.t 30) (.t 28)), none, []⟩] false) (.seq (.reg [⟨(some 31), (.mv (.t 5)), none, []⟩, ⟨(some 32), (.mv (.t 1)), none, []⟩, ⟨(some 33), (.bin .mul (.t 31) (.t 32)), none, []⟩, ⟨(some 34), (.bin .quo (.t 33) (.c (.int .i64 256))), none, []⟩, ⟨(some 4), (.asg (.t 34) none), none, []⟩] false) .ret)))))
theorem dc39_c : (Try.f39.body.bind (cCode Try.prog Try.f39.ntmps)) = some dc39 := by kernel_rfl
theorem dc39_r : Try.f39.results.toList.mapM (cRes Try.prog) = some [(.t 4)] := by kernel_rfl
def draw_Codes_Next_enc (a : Tdraw_Codes × Int) : List D := [edraw_Codes a.1, .int .i64 a.2]
def draw_Codes_Next_dec (ds : List D) : Tdraw_Codes × Int := (udraw_Codes (ds.getD 0 .top), uI (ds.getD 1 .top))
theorem draw_Codes_Next_de (a : Tdraw_Codes × Int) : draw_Codes_Next_dec (draw_Codes_Next_enc a) = a := by simp [draw_Codes_Next_dec, draw_Codes_Next_enc, uI, uBo, uS]
def draw_Codes_Next_R (b : Int × Tdraw_Codes) : D := .int .i64 b.1
def draw_Codes_Next_E (b : Int × Tdraw_Codes) : List D := [edraw_Codes b.2]
noncomputable def draw_Codes_Next_S : Dw.Spec := fSpec [(0, (2, 80))] .val draw_Codes_Next_enc draw_Codes_Next_dec (fun a => draw_Codes_Next a.1 a.2) draw_Codes_Next_R draw_Codes_Next_E
set_option maxHeartbeats 4000000 in
theorem draw_Codes_Next_ok : SpecOk Try.prog 39 draw_Codes_Next_S := by
  refine fn_ok (specs_ok (l := [(56, draw_Codes_Left_S)]) (by simp [draw_Codes_Left_ok])) Try.func39 (by decide) dc39_c dc39_r (np := 2) (by decide) draw_Codes_Next_de (fun _ => rfl) ?_
  rintro ⟨c1, n2⟩
  show Tr (specs [(56, draw_Codes_Left_S)]) dc39 (kRet [(0, (2, 80))] .val [(.t 4)] 2 draw_Codes_Next_R draw_Codes_Next_E) ⟨[(0, .optr 0 0 0 0), (1, .int .i64 n2)], [(0, some (0, ⟨false, true, 2, 80, [.agg [.sl (c1.list.map eU8), .int .i64 c1.at_]]⟩))], 2⟩ (draw_Codes_Next c1 n2)
  unfold dc39 draw_Codes_Next
  refine tr_seq ?_
  refine tr_reg ?_
  refine trO_asg rfl rfl ?_
  refine trO_nil ?_
  refine trX_seq ?_
  refine tr_seq_cut (E := fun (s : (List Int) × Int) (g : Unit) => [(0, .optr 0 0 0 0), (1, .int .i64 n2)]) (O := fun s g => [(0, some (0, ⟨false, true, 2, 80, [.agg [.sl (s.1.map eU8), .int .i64 s.2]]⟩))]) (j := fun s => draw_Codes_Next_j1 n2 s.1 s.2) ?_ ?_
  ·
    refine tr_seq ?_
    refine tr_reg ?_
    refine trO_mv rfl rfl ?_
    refine trO_bind fun r5 hr5 => ?_
    refine trO_call_val c1 rfl rfl rfl draw_Codes_Left_de rfl rfl (by simp) rfl hr5 ?_
    refine trO_un (w := .bool (!r5.1)) rfl rfl rfl rfl trivial ?_
    refine trO_mv rfl rfl ?_
    refine trO_split 9 (b := (!r5.1)) rfl ?_ ?_
    ·
      refine trO_off rfl ?_
      refine trO_off rfl ?_
      refine trO_pick_true rfl rfl rfl rfl ?_
      refine trO_nil ?_
      refine trX_seq ?_
      refine tr_cond_true rfl ?_
      refine tr_seq ?_
      refine tr_reg ?_
      refine trO_asg rfl rfl ?_
      refine trO_nil ?_
      refine trX_seq ?_
      refine tr_ret ?_
      refine trX_cut_ret ?_
      exact ret_val (b := (0, r5.2)) rfl (by first | (simp; done) | (simp; omega)) rfl rfl (by first | (simp; done) | (simp; omega)) rfl
    ·
      refine trO_mv rfl rfl ?_
      refine trO_bin (v := .bool (decide (n2 < 1))) rfl rfl rfl rfl rfl ?_
      refine trO_pick_false rfl rfl rfl rfl ?_
      refine trO_nil ?_
      refine trX_seq ?_
      refine tr_cond (c := (decide (n2 < 1))) rfl ?_ ?_
      ·
        refine tr_seq ?_
        refine tr_reg ?_
        refine trO_asg rfl rfl ?_
        refine trO_nil ?_
        refine trX_seq ?_
        refine tr_ret ?_
        refine trX_cut_ret ?_
        exact ret_val (b := (0, r5.2)) rfl (by first | (simp; done) | (simp; omega)) rfl rfl (by first | (simp; done) | (simp; omega)) rfl
      ·
        refine tr_skip ?_
        exact trX_cut (s := (r5.2.list, r5.2.at_)) () (has_exact ⟨rfl, rfl, trivial⟩ ⟨rfl, trivial⟩)
  ·
    rintro ⟨c3, c4⟩ ⟨⟩ nn
    show Tr _ _ _ ⟨[(0, .optr 0 0 0 0), (1, .int .i64 n2)], [(0, some (0, ⟨false, true, 2, 80, [.agg [.sl (c3.map eU8), .int .i64 c4]]⟩))], _⟩ (draw_Codes_Next_j1 n2 c3 c4)
    unfold draw_Codes_Next_j1
    refine tr_seq ?_
    refine tr_reg ?_
    refine trO_mv rfl rfl ?_
    refine trO_nilck rfl rfl rfl ?_
    refine trO_fldA rfl rfl ?_
    refine trO_ld_obj (v := .sl (c3.map eU8)) (z := .agg [.sl (c3.map eU8), .int .i64 c4]) rfl rfl rfl rfl rfl rfl ?_
    refine trO_mv rfl rfl ?_
    refine trO_nilck rfl rfl rfl ?_
    refine trO_fldA rfl rfl ?_
    refine trO_ld_obj (v := .int .i64 c4) (z := .agg [.sl (c3.map eU8), .int .i64 c4]) rfl rfl rfl rfl rfl rfl ?_
    refine trO_bind fun x_x6 hx_x6 => ?_
    refine trO_ixA_sl (en := eU8) rfl rfl rfl hx_x6 rfl ?_
    refine trO_ld_f (v := .int .u8 x_x6) rfl rfl rfl rfl ?_
    refine trO_cvt rfl rfl ?_
    refine trO_asg rfl rfl ?_
    refine trO_nil_draw (by kernel_rfl) ?_
    refine trX_seq ?_
    refine tr_seq ?_
    refine tr_reg ?_
    refine trO_mv rfl rfl ?_
    refine trO_nilck rfl rfl rfl ?_
    refine trO_fldA rfl rfl ?_
    refine trO_ld_obj (v := .int .i64 c4) (z := .agg [.sl (c3.map eU8), .int .i64 c4]) rfl rfl rfl rfl rfl rfl ?_
    refine trO_bin (v := .int .i64 (IntKind.i64.wrap (c4 + 1))) rfl rfl rfl rfl rfl ?_
    refine trO_nilck rfl rfl rfl ?_
    refine trO_fldA rfl rfl ?_
    refine trO_st_var (z' := .agg [.sl (c3.map eU8), .int .i64 (IntKind.i64.wrap (c4 + 1))]) rfl rfl rfl rfl rfl rfl rfl rfl rfl ?_
    refine trO_nil ?_
    refine trX_seq ?_
    refine tr_seq ?_
    refine tr_reg ?_
    refine trO_mv rfl rfl ?_
    refine trO_mv rfl rfl ?_
    refine trO_bin (v := .int .i64 (IntKind.i64.wrap ((IntKind.i64.wrap (x_x6)) * n2))) rfl rfl rfl rfl rfl ?_
    refine trO_bin (v := .int .i64 (IntKind.i64.wrap ((IntKind.i64.wrap ((IntKind.i64.wrap (x_x6)) * n2)).tdiv 256))) rfl rfl rfl rfl ⟨rfl, (by decide)⟩ ?_
    refine trO_asg rfl rfl ?_
    refine trO_nil ?_
    refine trX_seq ?_
    refine tr_ret ?_
    exact ret_val (b := (IntKind.i64.wrap ((IntKind.i64.wrap ((IntKind.i64.wrap (x_x6)) * n2)).tdiv 256), (Tdraw_Codes.mk c3 (IntKind.i64.wrap (c4 + 1))))) rfl (by first | (simp; done) | (simp; omega)) rfl rfl (by first | (simp; done) | (simp; omega)) rfl

def dc77 : DCode := (.seq (.reg [⟨(some 2), (.new (.agg [(.int .i64 0), (.int .i64 0)]) 2 109), none, []⟩] false) (.seq (.reg [⟨(some 3), (.bldS 1 3 (.int .i64 0) 7 [⟨0, (.c (.int .i64 8))⟩, ⟨1, (.c (.int .i64 4))⟩, ⟨2, (.c (.int .i64 8))⟩, ⟨3, (.c (.int .i64 1))⟩, ⟨4, (.c (.int .i64 2))⟩, ⟨5, (.c (.int .i64 16))⟩, ⟨6, (.c (.int .i64 8))⟩]), none, []⟩, ⟨(some 4), (.mv (.t 0)), none, []⟩, ⟨(some 5), (.call (.c (.clo 39 [])) [(.t 4), (.c (.int .i64 7))]), none, [1]⟩, ⟨(some 6), (.ixA 1 (.t 3) (.t 5)), none, [0, 2]⟩, ⟨(some 7), (.ld 1 false (.t 6)), none, [3]⟩, ⟨(some 8), (.bldS 1 3 (.int .i64 0) 8 [⟨0, (.c (.int .i64 8))⟩, ⟨1, (.c (.int .i64 4))⟩, ⟨2, (.c (.int .i64 1))⟩, ⟨3, (.c (.int .i64 8))⟩, ⟨4, (.c (.int .i64 16))⟩, ⟨5, (.c (.int .i64 2))⟩, ⟨6, (.c (.int .i64 32))⟩, ⟨7, (.c (.int .i64 64))⟩]), none, []⟩, ⟨(some 9), (.mv (.t 0)), none, []⟩, ⟨(some 10), (.call (.c (.clo 39 [])) [(.t 9), (.c (.int .i64 8))]), none, [6, 2]⟩, ⟨(some 11), (.ixA 1 (.t 8) (.t 10)), none, [5, 7]⟩, ⟨(some 12), (.ld 1 false (.t 11)), none, [8]⟩, ⟨(some 13), (.bld [(.int .i64 0), (.int .i64 0)] [⟨0, ⟨1, (.t 7)⟩⟩, ⟨1, ⟨1, (.t 12)⟩⟩]), none, [4, 9]⟩, ⟨none, (.st 2 (.t 2) (.t 13)), none, [10, 7, 0, 1, 2, 3, 4, 5, 6, 7, 8, 9, 10]⟩] true) .ret))
theorem dc77_c : (Try.f77.body.bind (cCode Try.prog Try.f77.ntmps)) = some dc77 := by kernel_rfl
theorem dc77_r : Try.f77.results.toList.mapM (cRes Try.prog) = some [(.c 2 2 true)] := by kernel_rfl
def draw_Codes_Slot_enc (a : Tdraw_Codes) : List D := [edraw_Codes a]
def draw_Codes_Slot_dec (ds : List D) : Tdraw_Codes := udraw_Codes (ds.getD 0 .top)
theorem draw_Codes_Slot_de (a : Tdraw_Codes) : draw_Codes_Slot_dec (draw_Codes_Slot_enc a) = a := by simp [draw_Codes_Slot_dec, draw_Codes_Slot_enc, uI, uBo, uS]
def draw_Codes_Slot_R (b : TSlot × Tdraw_Codes) : D := eSlot b.1
def draw_Codes_Slot_E (b : TSlot × Tdraw_Codes) : List D := [edraw_Codes b.2]
noncomputable def draw_Codes_Slot_S : Dw.Spec := fSpec [(0, (2, 80))] .val draw_Codes_Slot_enc draw_Codes_Slot_dec (fun a => draw_Codes_Slot a) draw_Codes_Slot_R draw_Codes_Slot_E
set_option maxHeartbeats 4000000 in
theorem draw_Codes_Slot_ok : SpecOk Try.prog 77 draw_Codes_Slot_S := by
  refine fn_ok (specs_ok (l := [(39, draw_Codes_Next_S)]) (by simp [draw_Codes_Next_ok])) Try.func77 (by decide) dc77_c dc77_r (np := 1) (by decide) draw_Codes_Slot_de (fun _ => rfl) ?_
  intro c1
  show Tr (specs [(39, draw_Codes_Next_S)]) dc77 (kRet [(0, (2, 80))] .val [(.c 2 2 true)] 1 draw_Codes_Slot_R draw_Codes_Slot_E) ⟨[(0, .optr 0 0 0 0)], [(0, some (0, ⟨false, true, 2, 80, [.agg [.sl (c1.list.map eU8), .int .i64 c1.at_]]⟩))], 1⟩ (draw_Codes_Slot c1)
  unfold dc77 draw_Codes_Slot
  refine tr_seq ?_
  refine tr_reg ?_
  refine trO_new rfl ?_
  refine trO_nil ?_
  refine trX_seq ?_
  refine tr_seq ?_
  refine tr_reg ?_
  refine trO_bldS ([8, 4, 8, 1, 2, 16, 8] : List Int) eI64 rfl rfl rfl (by simp) rfl rfl rfl ?_
  refine trO_mv rfl rfl ?_
  refine trO_bind fun r2 hr2 => ?_
  refine trO_call_val (c1, 7) rfl rfl rfl draw_Codes_Next_de rfl rfl (by simp) rfl hr2 ?_
  refine trO_chk fun hq => ?_
  refine trO_ixA_own (l := ([8, 4, 8, 1, 2, 16, 8] : List Int)) (en := eI64) rfl rfl rfl rfl rfl hq ?_
  refine trO_bind fun x_e3 hx_e3 => ?_
  refine trO_ld_obj (v := .int .i64 x_e3) (z := eI64 x_e3) rfl rfl rfl (map_get hx_e3) rfl rfl ?_
  refine trO_bldS ([8, 4, 1, 8, 16, 2, 32, 64] : List Int) eI64 rfl rfl rfl (by simp) rfl rfl rfl ?_
  refine trO_mv rfl rfl ?_
  refine trO_bind fun r4 hr4 => ?_
  refine trO_call_val (r2.2, 8) rfl rfl rfl draw_Codes_Next_de rfl rfl (by simp) rfl hr4 ?_
  refine trO_chk fun hq => ?_
  refine trO_ixA_own (l := ([8, 4, 1, 8, 16, 2, 32, 64] : List Int)) (en := eI64) rfl rfl rfl rfl rfl hq ?_
  refine trO_bind fun x_e5 hx_e5 => ?_
  refine trO_ld_obj (v := .int .i64 x_e5) (z := eI64 x_e5) rfl rfl rfl (map_get hx_e5) rfl rfl ?_
  refine trO_bld (cs := [.int .i64 x_e3, .int .i64 x_e5]) (ps := [(0, 1, .int .i64 x_e3), (1, 1, .int .i64 x_e5)]) rfl rfl rfl rfl ?_
  refine trO_st_var (z' := .agg [.int .i64 x_e3, .int .i64 x_e5]) rfl rfl rfl rfl rfl rfl rfl rfl rfl ?_
  refine trO_nil_draw (by kernel_rfl) ?_
  refine trX_seq ?_
  refine tr_ret ?_
  exact ret_val (b := ((TSlot.mk x_e3 x_e5), r4.2)) rfl (by first | (simp; done) | (simp; omega)) rfl rfl (by first | (simp; done) | (simp; omega)) rfl

def dc61 : DCode := (.seq (.reg [⟨(some 4), (.asg (.c .nils) (some ⟨2, 109⟩)), none, []⟩] false) (.seq (.reg [⟨(some 5), (.asg (.c .nils) (some ⟨2, 109⟩)), none, []⟩] false) (.seq (.seq (.reg [⟨(some 7), (.mv (.t 0)), none, []⟩, ⟨(some 8), (.mv (.t 1)), none, []⟩, ⟨(some 9), (.bin .add (.t 8) (.c (.int .i64 1))), none, []⟩, ⟨(some 10), (.call (.c (.clo 39 [])) [(.t 7), (.t 9)]), none, []⟩, ⟨(some 6), (.asg (.t 10) none), none, []⟩] false) (.block 0 (.loop (.seq (.seq (.reg [⟨(some 11), (.mv (.t 6)), none, []⟩, ⟨(some 12), (.bin .gtr (.t 11) (.c (.int .i64 0))), none, []⟩] false) (.cond (.t 12) .skip (.exit 0))) (.seq (.block 1 (.reg [⟨(some 15), (.mv (.t 5)), none, []⟩, ⟨(some 16), (.mv (.t 0)), none, []⟩, ⟨(some 17), (.call (.c (.clo 77 [])) [(.t 16)]), none, []⟩, ⟨(some 18), (.bldS 2 109 (.agg [(.int .i64 0), (.int .i64 0)]) 1 [⟨0, (.t 17)⟩]), none, []⟩, ⟨(some 19), (.app 2 109 16 (.t 15) (.t 18)), none, []⟩, ⟨(some 5), (.asg (.t 19) (some ⟨2, 109⟩)), none, []⟩] false)) (.reg [⟨(some 13), (.mv (.t 6)), none, []⟩, ⟨(some 14), (.bin .sub (.t 13) (.c (.int .i64 1))), none, []⟩, ⟨(some 6), (.asg (.t 14) none), none, []⟩] false)))))) (.seq (.reg [⟨(some 20), (.mv (.t 5)), none, []⟩, ⟨(some 4), (.asg (.t 20) (some ⟨2, 109⟩)), none, []⟩] false) .ret))))
theorem dc61_c : (Try.f61.body.bind (cCode Try.prog Try.f61.ntmps)) = some dc61 := by kernel_rfl
theorem dc61_r : Try.f61.results.toList.mapM (cRes Try.prog) = some [(.t 4)] := by kernel_rfl
def draw_Codes_Slots_enc (a : Tdraw_Codes × Int) : List D := [edraw_Codes a.1, .int .i64 a.2]
def draw_Codes_Slots_dec (ds : List D) : Tdraw_Codes × Int := (udraw_Codes (ds.getD 0 .top), uI (ds.getD 1 .top))
theorem draw_Codes_Slots_de (a : Tdraw_Codes × Int) : draw_Codes_Slots_dec (draw_Codes_Slots_enc a) = a := by simp [draw_Codes_Slots_dec, draw_Codes_Slots_enc, uI, uBo, uS]
def draw_Codes_Slots_R (b : (List TSlot) × Tdraw_Codes) : D := .sl (b.1.map eSlot)
def draw_Codes_Slots_E (b : (List TSlot) × Tdraw_Codes) : List D := [edraw_Codes b.2]
noncomputable def draw_Codes_Slots_S : Dw.Spec := fSpec [(0, (2, 80))] (.row 2 109) draw_Codes_Slots_enc draw_Codes_Slots_dec (fun a => draw_Codes_Slots a.1 a.2) draw_Codes_Slots_R draw_Codes_Slots_E
set_option maxHeartbeats 4000000 in
theorem draw_Codes_Slots_ok : SpecOk Try.prog 61 draw_Codes_Slots_S := by
  refine fn_ok (specs_ok (l := [(39, draw_Codes_Next_S), (77, draw_Codes_Slot_S)]) (by simp [draw_Codes_Next_ok, draw_Codes_Slot_ok])) Try.func61 (by decide) dc61_c dc61_r (np := 2) (by decide) draw_Codes_Slots_de (fun _ => rfl) ?_
  rintro ⟨c1, most2⟩
  show Tr (specs [(39, draw_Codes_Next_S), (77, draw_Codes_Slot_S)]) dc61 (kRet [(0, (2, 80))] (.row 2 109) [(.t 4)] 2 draw_Codes_Slots_R draw_Codes_Slots_E) ⟨[(0, .optr 0 0 0 0), (1, .int .i64 most2)], [(0, some (0, ⟨false, true, 2, 80, [.agg [.sl (c1.list.map eU8), .int .i64 c1.at_]]⟩))], 2⟩ (draw_Codes_Slots c1 most2)
  unfold dc61 draw_Codes_Slots
  refine tr_seq ?_
  refine tr_reg ?_
  refine trO_asg_nil (α := TSlot) rfl eSlot rfl ?_
  refine trO_nil ?_
  refine trX_seq ?_
  refine tr_seq ?_
  refine tr_reg ?_
  refine trO_asg_nil (α := TSlot) rfl eSlot rfl ?_
  refine trO_nil ?_
  refine trX_seq ?_
  refine tr_seq ?_
  refine tr_seq ?_
  refine tr_reg ?_
  refine trO_mv rfl rfl ?_
  refine trO_mv rfl rfl ?_
  refine trO_bin (v := .int .i64 (IntKind.i64.wrap (most2 + 1))) rfl rfl rfl rfl rfl ?_
  refine trO_bind fun r3 hr3 => ?_
  refine trO_call_val (c1, IntKind.i64.wrap (most2 + 1)) rfl rfl rfl draw_Codes_Next_de rfl rfl (by simp) rfl hr3 ?_
  refine trO_asg rfl rfl ?_
  refine trO_nil ?_
  refine trX_seq ?_
  refine tr_block ?_
  refine tr_loop (E := fun (s : (List Int) × Int × (List TSlot) × Int) (g : Nat) => [(0, .optr 0 0 0 0), (5, .osl 5 g 0 s.2.2.1.length), (6, .int .i64 s.2.2.2)]) (O := fun s g => [(0, some (0, ⟨false, true, 2, 80, [.agg [.sl (s.1.map eU8), .int .i64 s.2.1]]⟩)), (5, some (g, ⟨false, false, 2, 109, s.2.2.1.map eSlot⟩))]) (body := fun s => draw_Codes_Slots_b1 s.1 s.2.1 s.2.2.1 s.2.2.2) (s := (r3.2.list, r3.2.at_, ([] : List TSlot), r3.1)) _ (has_exact ⟨rfl, rfl, rfl, trivial⟩ ⟨rfl, rfl, trivial⟩) ?_
  rintro ⟨c4, c5, l6, n7⟩ v5 nn
  show Tr _ _ _ ⟨[(0, .optr 0 0 0 0), (5, .osl 5 v5 0 l6.length), (6, .int .i64 n7)], [(0, some (0, ⟨false, true, 2, 80, [.agg [.sl (c4.map eU8), .int .i64 c5]]⟩)), (5, some (v5, ⟨false, false, 2, 109, l6.map eSlot⟩))], _⟩ (draw_Codes_Slots_b1 c4 c5 l6 n7)
  unfold draw_Codes_Slots_b1
  refine tr_seq ?_
  refine tr_seq ?_
  refine tr_reg ?_
  refine trO_mv rfl rfl ?_
  refine trO_bin (v := .bool (decide (n7 > 0))) rfl rfl rfl rfl rfl ?_
  refine trO_nil ?_
  refine trX_seq ?_
  refine tr_cond (c := (decide (n7 > 0))) rfl ?_ ?_
  ·
    refine tr_skip ?_
    refine trX_seq ?_
    refine tr_seq ?_
    refine tr_block ?_
    refine tr_reg ?_
    refine trO_mv rfl rfl ?_
    refine trO_mv rfl rfl ?_
    refine trO_bind fun r8 hr8 => ?_
    refine trO_call_val (Tdraw_Codes.mk c4 c5) rfl rfl rfl draw_Codes_Slot_de rfl rfl (by simp) rfl hr8 ?_
    refine trO_bldS ([r8.1] : List TSlot) eSlot rfl rfl rfl (by simp) rfl rfl rfl ?_
    refine trO_chk fun hq => ?_
    refine trO_app (l6) (([r8.1] : List TSlot)) eSlot rfl rfl rfl rfl rfl rfl rfl (by simp) (take_drop0_map' _ _ rfl) rfl rfl (by simp) (take_len_map' _ _ rfl) (fun _ => rfl) rfl hq ?_
    refine trO_asg_own (l := l6 ++ ([r8.1] : List TSlot)) (en := eSlot) rfl rfl rfl rfl ?_
    refine trO_nil ?_
    refine trX_blk_normal ?_
    refine trX_seq ?_
    refine tr_reg ?_
    refine trO_mv rfl rfl ?_
    refine trO_bin (v := .int .i64 (IntKind.i64.wrap (n7 - 1))) rfl rfl rfl rfl rfl ?_
    refine trO_asg rfl rfl ?_
    refine trO_nil ?_
    exact trX_loop (s := (r8.2.list, r8.2.at_, l6 ++ ([r8.1] : List TSlot), IntKind.i64.wrap (n7 - 1))) _ (has_exact ⟨rfl, rfl, rfl, trivial⟩ ⟨rfl, rfl, trivial⟩)
  ·
    refine tr_exit ?_
    refine trX_seq_exit ?_
    refine trX_loop_exit ?_
    refine trX_blk_here ?_
    refine trX_seq ?_
    refine tr_seq ?_
    refine tr_reg ?_
    refine trO_mv rfl rfl ?_
    refine trO_asg_own (l := l6) (en := eSlot) rfl rfl rfl rfl ?_
    refine trO_nil ?_
    refine trX_seq ?_
    refine tr_ret ?_
    exact ret_row (b := (l6, (Tdraw_Codes.mk c4 c5))) rfl (by first | (simp; done) | (simp; omega)) rfl rfl (by first | (simp; done) | (simp; omega)) rfl (by first | (simp; done) | (simp; omega)) (congrArg D.sl (take_len_map' _ _ rfl)) rfl

def dc63 : DCode := (.seq (.reg [⟨(some 2), (.asg (.c (.int .u64 0)) none), none, []⟩] false) (.seq (.seq (.reg [⟨(some 3), (.mv (.t 0)), none, []⟩, ⟨(some 4), (.call (.c (.clo 39 [])) [(.t 3), (.c (.int .i64 6))]), none, []⟩] false) (.block 0 (.seq (.reg [⟨(some 6), (.bin .eql (.t 4) (.c (.int .i64 0))), none, []⟩, ⟨(some 5), (.asg (.t 6) none), none, []⟩] false) (.cond (.t 5) (.seq (.reg [⟨(some 7), (.mv (.t 0)), none, []⟩, ⟨(some 8), (.call (.c (.clo 39 [])) [(.t 7), (.c (.int .i64 3))]), none, []⟩, ⟨(some 9), (.cvt .u64 (.t 8)), none, []⟩, ⟨(some 10), (.bin .sub (.c (.int .u64 18446744073709551615)) (.t 9)), none, []⟩, ⟨(some 2), (.asg (.t 10) none), none, []⟩] false) .ret) (.seq (.reg [⟨(some 12), (.bin .eql (.t 4) (.c (.int .i64 1))), none, []⟩, ⟨(some 11), (.asg (.t 12) none), none, []⟩] false) (.cond (.t 11) (.seq (.reg [⟨(some 13), (.mv (.t 0)), none, []⟩, ⟨(some 14), (.call (.c (.clo 39 [])) [(.t 13), (.c (.int .i64 64))]), none, []⟩, ⟨(some 15), (.bin .shl (.c (.int .u64 1)) (.t 14)), none, []⟩, ⟨(some 2), (.asg (.t 15) none), none, []⟩] false) .ret) (.seq (.reg [⟨(some 17), (.bin .eql (.t 4) (.c (.int .i64 2))), none, []⟩, ⟨(some 16), (.asg (.t 17) none), none, []⟩] false) (.cond (.t 16) (.seq (.reg [⟨(some 2), (.asg (.c (.int .u64 0)) none), none, []⟩] false) .ret) .skip)))))))) (.seq (.reg [⟨(some 18), (.mv (.t 0)), none, []⟩, ⟨(some 19), (.call (.c (.clo 39 [])) [(.t 18), (.c (.int .i64 256))]), none, []⟩, ⟨(some 20), (.cvt .u64 (.t 19)), none, []⟩, ⟨(some 2), (.asg (.t 20) none), none, []⟩] false) .ret)))
theorem dc63_c : (Try.f63.body.bind (cCode Try.prog Try.f63.ntmps)) = some dc63 := by kernel_rfl
theorem dc63_r : Try.f63.results.toList.mapM (cRes Try.prog) = some [(.t 2)] := by kernel_rfl
def draw_Codes_Word_enc (a : Tdraw_Codes) : List D := [edraw_Codes a]
def draw_Codes_Word_dec (ds : List D) : Tdraw_Codes := udraw_Codes (ds.getD 0 .top)
theorem draw_Codes_Word_de (a : Tdraw_Codes) : draw_Codes_Word_dec (draw_Codes_Word_enc a) = a := by simp [draw_Codes_Word_dec, draw_Codes_Word_enc, uI, uBo, uS]
def draw_Codes_Word_R (b : Int × Tdraw_Codes) : D := .int .u64 b.1
def draw_Codes_Word_E (b : Int × Tdraw_Codes) : List D := [edraw_Codes b.2]
noncomputable def draw_Codes_Word_S : Dw.Spec := fSpec [(0, (2, 80))] .val draw_Codes_Word_enc draw_Codes_Word_dec (fun a => draw_Codes_Word a) draw_Codes_Word_R draw_Codes_Word_E
set_option maxHeartbeats 4000000 in
theorem draw_Codes_Word_ok : SpecOk Try.prog 63 draw_Codes_Word_S := by
  refine fn_ok (specs_ok (l := [(39, draw_Codes_Next_S)]) (by simp [draw_Codes_Next_ok])) Try.func63 (by decide) dc63_c dc63_r (np := 1) (by decide) draw_Codes_Word_de (fun _ => rfl) ?_
  intro c1
  show Tr (specs [(39, draw_Codes_Next_S)]) dc63 (kRet [(0, (2, 80))] .val [(.t 2)] 1 draw_Codes_Word_R draw_Codes_Word_E) ⟨[(0, .optr 0 0 0 0)], [(0, some (0, ⟨false, true, 2, 80, [.agg [.sl (c1.list.map eU8), .int .i64 c1.at_]]⟩))], 1⟩ (draw_Codes_Word c1)
  unfold dc63 draw_Codes_Word
  refine tr_seq ?_
  refine tr_reg ?_
  refine trO_asg rfl rfl ?_
  refine trO_nil ?_
  refine trX_seq ?_
  refine tr_seq ?_
  refine tr_seq ?_
  refine tr_reg ?_
  refine trO_mv rfl rfl ?_
  refine trO_bind fun r2 hr2 => ?_
  refine trO_call_val (c1, 6) rfl rfl rfl draw_Codes_Next_de rfl rfl (by simp) rfl hr2 ?_
  refine trO_nil ?_
  refine trX_seq ?_
  refine tr_block ?_
  refine tr_seq ?_
  refine tr_reg ?_
  refine trO_bin (v := .bool (r2.1 == 0)) rfl rfl rfl rfl rfl ?_
  refine trO_asg rfl rfl ?_
  refine trO_nil ?_
  refine trX_seq ?_
  refine tr_cond (c := (r2.1 == 0)) rfl ?_ ?_
  ·
    refine tr_seq ?_
    refine tr_reg ?_
    refine trO_mv rfl rfl ?_
    refine trO_bind fun r3 hr3 => ?_
    refine trO_call_val (r2.2, 3) rfl rfl rfl draw_Codes_Next_de rfl rfl (by simp) rfl hr3 ?_
    refine trO_cvt rfl rfl ?_
    refine trO_bin (v := .int .u64 (IntKind.u64.wrap (18446744073709551615 - (IntKind.u64.wrap (r3.1))))) rfl rfl rfl rfl rfl ?_
    refine trO_asg rfl rfl ?_
    refine trO_nil ?_
    refine trX_seq ?_
    refine tr_ret ?_
    refine trX_blk_ret ?_
    refine trX_seq_ret ?_
    exact ret_val (b := (IntKind.u64.wrap (18446744073709551615 - (IntKind.u64.wrap (r3.1))), r3.2)) rfl (by first | (simp; done) | (simp; omega)) rfl rfl (by first | (simp; done) | (simp; omega)) rfl
  ·
    refine tr_seq ?_
    refine tr_reg ?_
    refine trO_bin (v := .bool (r2.1 == 1)) rfl rfl rfl rfl rfl ?_
    refine trO_asg rfl rfl ?_
    refine trO_nil ?_
    refine trX_seq ?_
    refine tr_cond (c := (r2.1 == 1)) rfl ?_ ?_
    ·
      refine tr_seq ?_
      refine tr_reg ?_
      refine trO_mv rfl rfl ?_
      refine trO_bind fun r4 hr4 => ?_
      refine trO_call_val (r2.2, 64) rfl rfl rfl draw_Codes_Next_de rfl rfl (by simp) rfl hr4 ?_
      refine trO_chk fun hq => ?_
      refine trO_bin (v := .int .u64 (IntKind.u64.wrap (1 * 2 ^ (Nat.min r4.1.toNat IntKind.u64.bits)))) rfl rfl rfl rfl hq ?_
      refine trO_asg rfl rfl ?_
      refine trO_nil ?_
      refine trX_seq ?_
      refine tr_ret ?_
      refine trX_blk_ret ?_
      refine trX_seq_ret ?_
      exact ret_val (b := (IntKind.u64.wrap (1 * 2 ^ (Nat.min r4.1.toNat IntKind.u64.bits)), r4.2)) rfl (by first | (simp; done) | (simp; omega)) rfl rfl (by first | (simp; done) | (simp; omega)) rfl
    ·
      refine tr_seq ?_
      refine tr_reg ?_
      refine trO_bin (v := .bool (r2.1 == 2)) rfl rfl rfl rfl rfl ?_
      refine trO_asg rfl rfl ?_
      refine trO_nil ?_
      refine trX_seq ?_
      refine tr_cond (c := (r2.1 == 2)) rfl ?_ ?_
      ·
        refine tr_seq ?_
        refine tr_reg ?_
        refine trO_asg rfl rfl ?_
        refine trO_nil ?_
        refine trX_seq ?_
        refine tr_ret ?_
        refine trX_blk_ret ?_
        refine trX_seq_ret ?_
        exact ret_val (b := (0, r2.2)) rfl (by first | (simp; done) | (simp; omega)) rfl rfl (by first | (simp; done) | (simp; omega)) rfl
      ·
        refine tr_skip ?_
        refine trX_blk_normal ?_
        refine trX_seq ?_
        refine tr_seq ?_
        refine tr_reg ?_
        refine trO_mv rfl rfl ?_
        refine trO_bind fun r5 hr5 => ?_
        refine trO_call_val (r2.2, 256) rfl rfl rfl draw_Codes_Next_de rfl rfl (by simp) rfl hr5 ?_
        refine trO_cvt rfl rfl ?_
        refine trO_asg rfl rfl ?_
        refine trO_nil ?_
        refine trX_seq ?_
        refine tr_ret ?_
        exact ret_val (b := (IntKind.u64.wrap (r5.1), r5.2)) rfl (by first | (simp; done) | (simp; omega)) rfl rfl (by first | (simp; done) | (simp; omega)) rfl

def dc78 : DCode := (.seq (.reg [⟨(some 4), (.box (.t 1) 3 27), none, []⟩, ⟨(some 6), (.asg (.c (.int .i64 0)) none), none, []⟩] false) (.seq (.reg [⟨(some 7), (.asg (.c .nils) (some ⟨1, 3⟩)), none, []⟩] false) (.seq (.seq (.reg [⟨(some 8), (.asg (.c (.int .i64 0)) none), none, []⟩] false) (.block 0 (.loop (.seq (.seq (.reg [⟨(some 9), (.mv (.t 8)), none, []⟩, ⟨(some 10), (.fldA 1 (.t 4)), none, []⟩, ⟨(some 11), (.ld 1 false (.t 10)), none, []⟩, ⟨(some 12), (.len false (.t 11)), none, []⟩, ⟨(some 13), (.bin .lss (.t 9) (.t 12)), none, []⟩] false) (.cond (.t 13) .skip (.exit 0))) (.seq (.block 1 (.seq (.reg [⟨(some 16), (.fldA 1 (.t 4)), none, []⟩, ⟨(some 17), (.ld 1 false (.t 16)), none, [0]⟩, ⟨(some 18), (.mv (.t 8)), none, []⟩, ⟨(some 19), (.ixA 2 (.t 17) (.t 18)), none, [1, 2]⟩, ⟨(some 20), (.fldA 0 (.t 19)), none, [3]⟩, ⟨(some 21), (.ld 1 false (.t 20)), none, [4]⟩, ⟨(some 22), (.fldA 1 (.t 4)), none, []⟩, ⟨(some 23), (.ld 1 false (.t 22)), none, [6]⟩, ⟨(some 24), (.mv (.t 2)), none, []⟩, ⟨(some 25), (.ixA 2 (.t 23) (.t 24)), none, [7, 8]⟩, ⟨(some 26), (.fldA 0 (.t 25)), none, [9]⟩, ⟨(some 27), (.ld 1 false (.t 26)), none, [10]⟩, ⟨(some 28), (.bin .eql (.t 21) (.t 27)), none, [5, 11]⟩] true) (.cond (.t 28) (.reg [⟨(some 29), (.mv (.t 7)), none, []⟩, ⟨(some 30), (.mv (.t 8)), none, []⟩, ⟨(some 31), (.bldS 1 3 (.int .i64 0) 1 [⟨0, (.t 30)⟩]), none, []⟩, ⟨(some 32), (.app 1 3 8 (.t 29) (.t 31)), none, []⟩, ⟨(some 7), (.asg (.t 32) (some ⟨1, 3⟩)), none, []⟩] false) .skip))) (.reg [⟨(some 14), (.mv (.t 8)), none, []⟩, ⟨(some 15), (.bin .add (.t 14) (.c (.int .i64 1))), none, []⟩, ⟨(some 8), (.asg (.t 15) none), none, []⟩] false)))))) (.seq (.reg [⟨(some 33), (.mv (.t 7)), none, []⟩, ⟨(some 34), (.mv (.t 0)), none, []⟩, ⟨(some 35), (.mv (.t 7)), none, []⟩, ⟨(some 36), (.len false (.t 35)), none, []⟩, ⟨(some 37), (.call (.c (.clo 39 [])) [(.t 34), (.t 36)]), none, []⟩, ⟨(some 38), (.ixA 1 (.t 33) (.t 37)), none, []⟩, ⟨(some 39), (.ld 1 false (.t 38)), none, []⟩, ⟨(some 6), (.asg (.t 39) none), none, []⟩] false) .ret))))
theorem dc78_c : (Try.f78.body.bind (cCode Try.prog Try.f78.ntmps)) = some dc78 := by kernel_rfl
theorem dc78_r : Try.f78.results.toList.mapM (cRes Try.prog) = some [(.t 6)] := by kernel_rfl
def draw_Codes_like_enc (a : Tdraw_Codes × TFunc × Int) : List D := [edraw_Codes a.1, eFunc a.2.1, .int .i64 a.2.2]
def draw_Codes_like_dec (ds : List D) : Tdraw_Codes × TFunc × Int := (udraw_Codes (ds.getD 0 .top), uFunc (ds.getD 1 .top), uI (ds.getD 2 .top))
theorem draw_Codes_like_de (a : Tdraw_Codes × TFunc × Int) : draw_Codes_like_dec (draw_Codes_like_enc a) = a := by simp [draw_Codes_like_dec, draw_Codes_like_enc, uI, uBo, uS]
def draw_Codes_like_R (b : Int × Tdraw_Codes) : D := .int .i64 b.1
def draw_Codes_like_E (b : Int × Tdraw_Codes) : List D := [edraw_Codes b.2]
noncomputable def draw_Codes_like_S : Dw.Spec := fSpec [(0, (2, 80))] .val draw_Codes_like_enc draw_Codes_like_dec (fun a => draw_Codes_like a.1 a.2.1 a.2.2) draw_Codes_like_R draw_Codes_like_E
set_option maxHeartbeats 4000000 in
theorem draw_Codes_like_ok : SpecOk Try.prog 78 draw_Codes_like_S := by
  refine fn_ok (specs_ok (l := [(39, draw_Codes_Next_S)]) (by simp [draw_Codes_Next_ok])) Try.func78 (by decide) dc78_c dc78_r (np := 3) (by decide) draw_Codes_like_de (fun _ => rfl) ?_
  rintro ⟨c1, f2, s3⟩
  show Tr (specs [(39, draw_Codes_Next_S)]) dc78 (kRet [(0, (2, 80))] .val [(.t 6)] 3 draw_Codes_like_R draw_Codes_like_E) ⟨[(0, .optr 0 0 0 0), (1, .agg [.int .i64 f2.Params, .sl (f2.Slots.map eSlot), .sl (f2.Code.map eInstr)]), (2, .int .i64 s3)], [(0, some (0, ⟨false, true, 2, 80, [.agg [.sl (c1.list.map eU8), .int .i64 c1.at_]]⟩))], 3⟩ (draw_Codes_like c1 f2 s3)
  unfold dc78 draw_Codes_like
  refine tr_seq ?_
  refine tr_reg ?_
  refine trO_box rfl rfl rfl rfl rfl ?_
  refine trO_asg rfl rfl ?_
  refine trO_nil ?_
  refine trX_seq ?_
  refine tr_seq ?_
  refine tr_reg ?_
  refine trO_asg_nil (α := Int) rfl eI64 rfl ?_
  refine trO_nil ?_
  refine trX_seq ?_
  refine tr_seq ?_
  refine tr_seq ?_
  refine tr_reg ?_
  refine trO_asg rfl rfl ?_
  refine trO_nil ?_
  refine trX_seq ?_
  refine tr_block ?_
  refine tr_loop (E := fun (s : (List Int) × Int) (g : Nat × Nat) => [(0, .optr 0 0 0 0), (2, .int .i64 s3), (4, .optr 4 g.1 0 0), (7, .osl 7 g.2 0 s.1.length), (8, .int .i64 s.2)]) (O := fun s g => [(0, some (0, ⟨false, true, 2, 80, [.agg [.sl (c1.list.map eU8), .int .i64 c1.at_]]⟩)), (4, some (g.1, ⟨false, true, 3, 27, [.agg [.int .i64 f2.Params, .sl (f2.Slots.map eSlot), .sl (f2.Code.map eInstr)]]⟩)), (7, some (g.2, ⟨false, false, 1, 3, s.1.map eI64⟩))]) (body := fun s => draw_Codes_like_b1 f2 s3 c1 s.1 s.2) (s := (([] : List Int), 0)) (_, _) (has_exact ⟨rfl, rfl, rfl, rfl, rfl, trivial⟩ ⟨rfl, rfl, rfl, trivial⟩) ?_
  rintro ⟨l4, k5⟩ ⟨v4, v7⟩ nn
  show Tr _ _ _ ⟨[(0, .optr 0 0 0 0), (2, .int .i64 s3), (4, .optr 4 v4 0 0), (7, .osl 7 v7 0 l4.length), (8, .int .i64 k5)], [(0, some (0, ⟨false, true, 2, 80, [.agg [.sl (c1.list.map eU8), .int .i64 c1.at_]]⟩)), (4, some (v4, ⟨false, true, 3, 27, [.agg [.int .i64 f2.Params, .sl (f2.Slots.map eSlot), .sl (f2.Code.map eInstr)]]⟩)), (7, some (v7, ⟨false, false, 1, 3, l4.map eI64⟩))], _⟩ (draw_Codes_like_b1 f2 s3 c1 l4 k5)
  unfold draw_Codes_like_b1
  refine tr_seq ?_
  refine tr_seq ?_
  refine tr_reg ?_
  refine trO_mv rfl rfl ?_
  refine trO_fldA rfl rfl ?_
  refine trO_ld_obj (v := .sl (f2.Slots.map eSlot)) (z := .agg [.int .i64 f2.Params, .sl (f2.Slots.map eSlot), .sl (f2.Code.map eInstr)]) rfl rfl rfl rfl rfl rfl ?_
  refine trO_len_sl rfl rfl ?_
  refine trO_bin (v := .bool (decide (k5 < (f2.Slots.length : Int)))) rfl rfl rfl rfl rfl ?_
  refine trO_nil ?_
  refine trX_seq ?_
  refine tr_cond (c := (decide (k5 < (f2.Slots.length : Int)))) rfl ?_ ?_
  ·
    refine tr_skip ?_
    refine trX_seq ?_
    refine tr_seq ?_
    refine tr_block ?_
    refine tr_seq ?_
    refine tr_reg ?_
    refine trO_fldA rfl rfl ?_
    refine trO_ld_obj (v := .sl (f2.Slots.map eSlot)) (z := .agg [.int .i64 f2.Params, .sl (f2.Slots.map eSlot), .sl (f2.Code.map eInstr)]) rfl rfl rfl rfl rfl rfl ?_
    refine trO_mv rfl rfl ?_
    refine trO_bind fun x_x6 hx_x6 => ?_
    refine trO_ixA_sl (en := eSlot) rfl rfl rfl hx_x6 rfl ?_
    refine trO_fldA_f rfl rfl ?_
    refine trO_ld_f (v := .int .i64 x_x6.Size) rfl rfl rfl rfl ?_
    refine trO_fldA rfl rfl ?_
    refine trO_ld_obj (v := .sl (f2.Slots.map eSlot)) (z := .agg [.int .i64 f2.Params, .sl (f2.Slots.map eSlot), .sl (f2.Code.map eInstr)]) rfl rfl rfl rfl rfl rfl ?_
    refine trO_mv rfl rfl ?_
    refine trO_bind fun x_x7 hx_x7 => ?_
    refine trO_ixA_sl (en := eSlot) rfl rfl rfl hx_x7 rfl ?_
    refine trO_fldA_f rfl rfl ?_
    refine trO_ld_f (v := .int .i64 x_x7.Size) rfl rfl rfl rfl ?_
    refine trO_bin (v := .bool (x_x6.Size == x_x7.Size)) rfl rfl rfl rfl rfl ?_
    refine trO_nil_draw (by kernel_rfl) ?_
    refine trX_seq ?_
    refine tr_cond (c := (x_x6.Size == x_x7.Size)) rfl ?_ ?_
    ·
      refine tr_reg ?_
      refine trO_mv rfl rfl ?_
      refine trO_mv rfl rfl ?_
      refine trO_bldS ([k5] : List Int) eI64 rfl rfl rfl (by simp) rfl rfl rfl ?_
      refine trO_chk fun hq => ?_
      refine trO_app (l4) (([k5] : List Int)) eI64 rfl rfl rfl rfl rfl rfl rfl (by simp) (take_drop0_map' _ _ rfl) rfl rfl (by simp) (take_len_map' _ _ rfl) (fun _ => rfl) rfl hq ?_
      refine trO_asg_own (l := l4 ++ ([k5] : List Int)) (en := eI64) rfl rfl rfl rfl ?_
      refine trO_nil ?_
      refine trX_blk_normal ?_
      refine trX_seq ?_
      refine tr_reg ?_
      refine trO_mv rfl rfl ?_
      refine trO_bin (v := .int .i64 (IntKind.i64.wrap (k5 + 1))) rfl rfl rfl rfl rfl ?_
      refine trO_asg rfl rfl ?_
      refine trO_nil ?_
      exact trX_loop (s := (l4 ++ ([k5] : List Int), IntKind.i64.wrap (k5 + 1))) (_, _) (has_exact ⟨rfl, rfl, rfl, rfl, rfl, trivial⟩ ⟨rfl, rfl, rfl, trivial⟩)
    ·
      refine tr_skip ?_
      refine trX_blk_normal ?_
      refine trX_seq ?_
      refine tr_reg ?_
      refine trO_mv rfl rfl ?_
      refine trO_bin (v := .int .i64 (IntKind.i64.wrap (k5 + 1))) rfl rfl rfl rfl rfl ?_
      refine trO_asg rfl rfl ?_
      refine trO_nil ?_
      exact trX_loop (s := (l4, IntKind.i64.wrap (k5 + 1))) (_, _) (has_exact ⟨rfl, rfl, rfl, rfl, rfl, trivial⟩ ⟨rfl, rfl, rfl, trivial⟩)
  ·
    refine tr_exit ?_
    refine trX_seq_exit ?_
    refine trX_loop_exit ?_
    refine trX_blk_here ?_
    refine trX_seq ?_
    refine tr_seq ?_
    refine tr_reg ?_
    refine trO_mv rfl rfl ?_
    refine trO_mv rfl rfl ?_
    refine trO_mv rfl rfl ?_
    refine trO_len_own rfl rfl ?_
    refine trO_bind fun r8 hr8 => ?_
    refine trO_call_val (c1, (l4.length : Int)) rfl rfl rfl draw_Codes_Next_de rfl rfl (by simp) rfl hr8 ?_
    refine trO_chk fun hq => ?_
    refine trO_ixA_own (l := l4) (en := eI64) rfl rfl rfl rfl rfl hq ?_
    refine trO_bind fun l_e9 hl_e9 => ?_
    refine trO_ld_obj (v := .int .i64 l_e9) (z := eI64 l_e9) rfl rfl rfl (map_get hl_e9) rfl rfl ?_
    refine trO_asg rfl rfl ?_
    refine trO_nil ?_
    refine trX_seq ?_
    refine tr_ret ?_
    exact ret_val (b := (l_e9, r8.2)) rfl (by first | (simp; done) | (simp; omega)) rfl rfl (by first | (simp; done) | (simp; omega)) rfl

def dc62 : DCode := (.seq (.reg [⟨(some 5), (.box (.t 1) 3 27), none, []⟩, ⟨(some 8), (.asg (.c .nils) (some ⟨5, 52⟩)), none, []⟩] false) (.seq (.reg [⟨(some 16), (.mv (.t 0)), none, []⟩, ⟨(some 17), (.call (.c (.clo 39 [])) [(.t 16), (.c (.int .i64 4))]), none, []⟩, ⟨(some 9), (.asg (.t 17) none), none, []⟩] false) (.seq (.reg [⟨(some 18), (.fldA 1 (.t 5)), none, []⟩, ⟨(some 19), (.ld 1 false (.t 18)), none, []⟩, ⟨(some 20), (.len false (.t 19)), none, []⟩, ⟨(some 10), (.asg (.t 20) none), none, []⟩] false) (.seq (.reg [⟨(some 21), (.mv (.t 0)), none, []⟩, ⟨(some 22), (.call (.c (.clo 39 [])) [(.t 21), (.c (.int .i64 20))]), none, []⟩, ⟨(some 11), (.asg (.t 22) none), none, []⟩] false) (.seq (.block 0 (.seq (.reg [⟨(some 24), (.mv (.t 11)), none, []⟩, ⟨(some 25), (.bin .lss (.t 24) (.c (.int .i64 3))), none, []⟩, ⟨(some 26), (.mv (.t 25)), none, []⟩, ⟨(some 27), (.mv (.t 10)), (some ⟨26, true⟩), []⟩, ⟨(some 28), (.bin .gtr (.t 27) (.c (.int .i64 0))), (some ⟨26, true⟩), []⟩, ⟨(some 29), (.pick (.t 26) (.t 28) (.c (.bool false))), none, []⟩, ⟨(some 23), (.asg (.t 29) none), none, []⟩] false) (.cond (.t 23) (.seq (.reg [⟨(some 30), (.mv (.t 0)), none, []⟩, ⟨(some 31), (.mv (.t 10)), none, []⟩, ⟨(some 32), (.call (.c (.clo 39 [])) [(.t 30), (.t 31)]), none, []⟩, ⟨(some 33), (.mv (.t 9)), none, []⟩, ⟨(some 34), (.bld [(.int .i64 0), (.int .i64 0), (.int .i64 0), (.int .i64 0), (.int .u64 0)] [⟨0, ⟨1, (.c (.int .i64 16))⟩⟩, ⟨1, ⟨1, (.t 32)⟩⟩, ⟨2, ⟨1, (.t 33)⟩⟩]), none, []⟩, ⟨(some 35), (.bldS 5 52 (.agg [(.int .i64 0), (.int .i64 0), (.int .i64 0), (.int .i64 0), (.int .u64 0)]) 1 [⟨0, (.t 34)⟩]), none, []⟩, ⟨(some 8), (.asg (.t 35) (some ⟨5, 52⟩)), none, []⟩] false) .ret) (.seq (.reg [⟨(some 37), (.mv (.t 11)), none, []⟩, ⟨(some 38), (.bin .lss (.t 37) (.c (.int .i64 6))), none, []⟩, ⟨(some 39), (.mv (.t 38)), none, []⟩, ⟨(some 40), (.mv (.t 10)), (some ⟨39, true⟩), []⟩, ⟨(some 41), (.bin .gtr (.t 40) (.c (.int .i64 0))), (some ⟨39, true⟩), []⟩, ⟨(some 42), (.pick (.t 39) (.t 41) (.c (.bool false))), none, []⟩, ⟨(some 36), (.asg (.t 42) none), none, []⟩] false) (.cond (.t 36) (.seq (.reg [⟨(some 43), (.mv (.t 9)), none, []⟩, ⟨(some 44), (.mv (.t 0)), none, []⟩, ⟨(some 45), (.mv (.t 10)), none, []⟩, ⟨(some 46), (.call (.c (.clo 39 [])) [(.t 44), (.t 45)]), none, []⟩, ⟨(some 47), (.bld [(.int .i64 0), (.int .i64 0), (.int .i64 0), (.int .i64 0), (.int .u64 0)] [⟨0, ⟨1, (.c (.int .i64 15))⟩⟩, ⟨1, ⟨1, (.t 43)⟩⟩, ⟨2, ⟨1, (.t 46)⟩⟩]), none, []⟩, ⟨(some 48), (.bldS 5 52 (.agg [(.int .i64 0), (.int .i64 0), (.int .i64 0), (.int .i64 0), (.int .u64 0)]) 1 [⟨0, (.t 47)⟩]), none, []⟩, ⟨(some 8), (.asg (.t 48) (some ⟨5, 52⟩)), none, []⟩] false) .ret) (.seq (.reg [⟨(some 50), (.mv (.t 11)), none, []⟩, ⟨(some 51), (.bin .lss (.t 50) (.c (.int .i64 9))), none, []⟩, ⟨(some 52), (.mv (.t 51)), none, []⟩, ⟨(some 53), (.mv (.t 10)), (some ⟨52, true⟩), []⟩, ⟨(some 54), (.bin .gtr (.t 53) (.c (.int .i64 0))), (some ⟨52, true⟩), []⟩, ⟨(some 55), (.pick (.t 52) (.t 54) (.c (.bool false))), none, []⟩, ⟨(some 49), (.asg (.t 55) none), none, []⟩] false) (.cond (.t 49) (.seq (.reg [⟨(some 56), (.mv (.t 0)), none, []⟩, ⟨(some 57), (.mv (.t 10)), none, []⟩, ⟨(some 58), (.call (.c (.clo 39 [])) [(.t 56), (.t 57)]), none, []⟩, ⟨(some 12), (.asg (.t 58) none), none, []⟩] false) (.seq (.reg [⟨(some 59), (.mv (.t 0)), none, []⟩, ⟨(some 60), (.ld 3 true (.t 5)), none, []⟩, ⟨(some 61), (.mv (.t 12)), none, []⟩, ⟨(some 62), (.call (.c (.clo 78 [])) [(.t 59), (.t 60), (.t 61)]), none, []⟩, ⟨(some 63), (.mv (.t 12)), none, []⟩, ⟨(some 64), (.bld [(.int .i64 0), (.int .i64 0), (.int .i64 0), (.int .i64 0), (.int .u64 0)] [⟨0, ⟨1, (.c (.int .i64 17))⟩⟩, ⟨1, ⟨1, (.t 62)⟩⟩, ⟨2, ⟨1, (.t 63)⟩⟩]), none, []⟩, ⟨(some 65), (.bldS 5 52 (.agg [(.int .i64 0), (.int .i64 0), (.int .i64 0), (.int .i64 0), (.int .u64 0)]) 1 [⟨0, (.t 64)⟩]), none, []⟩, ⟨(some 8), (.asg (.t 65) (some ⟨5, 52⟩)), none, []⟩] false) .ret)) (.seq (.reg [⟨(some 67), (.mv (.t 11)), none, []⟩, ⟨(some 68), (.bin .lss (.t 67) (.c (.int .i64 11))), none, []⟩, ⟨(some 66), (.asg (.t 68) none), none, []⟩] false) (.cond (.t 66) (.seq (.reg [⟨(some 69), (.mv (.t 9)), none, []⟩, ⟨(some 70), (.mv (.t 0)), none, []⟩, ⟨(some 71), (.call (.c (.clo 63 [])) [(.t 70)]), none, []⟩, ⟨(some 72), (.bld [(.int .i64 0), (.int .i64 0), (.int .i64 0), (.int .i64 0), (.int .u64 0)] [⟨0, ⟨1, (.c (.int .i64 0))⟩⟩, ⟨1, ⟨1, (.t 69)⟩⟩, ⟨4, ⟨1, (.t 71)⟩⟩]), none, []⟩, ⟨(some 73), (.bldS 5 52 (.agg [(.int .i64 0), (.int .i64 0), (.int .i64 0), (.int .i64 0), (.int .u64 0)]) 1 [⟨0, (.t 72)⟩]), none, []⟩, ⟨(some 8), (.asg (.t 73) (some ⟨5, 52⟩)), none, []⟩] false) .ret) (.seq (.reg [⟨(some 75), (.mv (.t 11)), none, []⟩, ⟨(some 76), (.bin .lss (.t 75) (.c (.int .i64 13))), none, []⟩, ⟨(some 74), (.asg (.t 76) none), none, []⟩] false) (.cond (.t 74) (.seq (.reg [⟨(some 77), (.mv (.t 0)), none, []⟩, ⟨(some 78), (.call (.c (.clo 39 [])) [(.t 77), (.c (.int .i64 10))]), none, []⟩, ⟨(some 79), (.bin .add (.c (.int .i64 2)) (.t 78)), none, []⟩, ⟨(some 80), (.mv (.t 9)), none, []⟩, ⟨(some 81), (.mv (.t 0)), none, []⟩, ⟨(some 82), (.call (.c (.clo 39 [])) [(.t 81), (.c (.int .i64 4))]), none, []⟩, ⟨(some 83), (.mv (.t 0)), none, []⟩, ⟨(some 84), (.call (.c (.clo 39 [])) [(.t 83), (.c (.int .i64 8))]), none, []⟩, ⟨(some 85), (.bld [(.int .i64 0), (.int .i64 0), (.int .i64 0), (.int .i64 0), (.int .u64 0)] [⟨0, ⟨1, (.t 79)⟩⟩, ⟨1, ⟨1, (.t 80)⟩⟩, ⟨2, ⟨1, (.t 82)⟩⟩, ⟨3, ⟨1, (.t 84)⟩⟩]), none, []⟩, ⟨(some 86), (.bldS 5 52 (.agg [(.int .i64 0), (.int .i64 0), (.int .i64 0), (.int .i64 0), (.int .u64 0)]) 1 [⟨0, (.t 85)⟩]), none, []⟩, ⟨(some 8), (.asg (.t 86) (some ⟨5, 52⟩)), none, []⟩] false) .ret) (.seq (.reg [⟨(some 88), (.mv (.t 11)), none, []⟩, ⟨(some 89), (.bin .lss (.t 88) (.c (.int .i64 15))), none, []⟩, ⟨(some 87), (.asg (.t 89) none), none, []⟩] false) (.cond (.t 87) (.seq (.reg [⟨(some 90), (.mv (.t 9)), none, []⟩, ⟨(some 91), (.bld [(.int .i64 0), (.int .i64 0), (.int .i64 0), (.int .i64 0), (.int .u64 0)] [⟨0, ⟨1, (.c (.int .i64 14))⟩⟩, ⟨1, ⟨1, (.t 90)⟩⟩]), none, []⟩, ⟨(some 92), (.bldS 5 52 (.agg [(.int .i64 0), (.int .i64 0), (.int .i64 0), (.int .i64 0), (.int .u64 0)]) 1 [⟨0, (.t 91)⟩]), none, []⟩, ⟨(some 8), (.asg (.t 92) (some ⟨5, 52⟩)), none, []⟩] false) .ret) (.seq (.reg [⟨(some 94), (.mv (.t 11)), none, []⟩, ⟨(some 95), (.bin .eql (.t 94) (.c (.int .i64 15))), none, []⟩, ⟨(some 93), (.asg (.t 95) none), none, []⟩] false) (.cond (.t 93) (.seq (.reg [⟨(some 96), (.bldS 1 3 (.int .i64 0) 3 [⟨0, (.c (.int .i64 13))⟩, ⟨1, (.c (.int .i64 12))⟩, ⟨2, (.c (.int .i64 1))⟩]), none, []⟩, ⟨(some 97), (.mv (.t 0)), none, []⟩, ⟨(some 98), (.call (.c (.clo 39 [])) [(.t 97), (.c (.int .i64 3))]), none, []⟩, ⟨(some 99), (.ixA 1 (.t 96) (.t 98)), none, []⟩, ⟨(some 100), (.ld 1 false (.t 99)), none, []⟩, ⟨(some 101), (.mv (.t 9)), none, []⟩, ⟨(some 102), (.bld [(.int .i64 0), (.int .i64 0), (.int .i64 0), (.int .i64 0), (.int .u64 0)] [⟨0, ⟨1, (.t 100)⟩⟩, ⟨1, ⟨1, (.t 101)⟩⟩]), none, []⟩, ⟨(some 103), (.bldS 5 52 (.agg [(.int .i64 0), (.int .i64 0), (.int .i64 0), (.int .i64 0), (.int .u64 0)]) 1 [⟨0, (.t 102)⟩]), none, []⟩, ⟨(some 8), (.asg (.t 103) (some ⟨5, 52⟩)), none, []⟩] false) .ret) (.seq (.reg [⟨(some 105), (.mv (.t 11)), none, []⟩, ⟨(some 106), (.bin .eql (.t 105) (.c (.int .i64 16))), none, []⟩, ⟨(some 107), (.mv (.t 106)), none, []⟩, ⟨(some 108), (.fldA 0 (.t 5)), (some ⟨107, true⟩), []⟩, ⟨(some 109), (.ld 1 false (.t 108)), (some ⟨107, true⟩), []⟩, ⟨(some 110), (.bin .gtr (.t 109) (.c (.int .i64 0))), (some ⟨107, true⟩), []⟩, ⟨(some 111), (.pick (.t 107) (.t 110) (.c (.bool false))), none, []⟩, ⟨(some 104), (.asg (.t 111) none), none, []⟩] false) (.cond (.t 104) (.seq (.reg [⟨(some 112), (.mv (.t 9)), none, []⟩, ⟨(some 113), (.mv (.t 0)), none, []⟩, ⟨(some 114), (.fldA 0 (.t 5)), none, []⟩, ⟨(some 115), (.ld 1 false (.t 114)), none, []⟩, ⟨(some 116), (.call (.c (.clo 39 [])) [(.t 113), (.t 115)]), none, []⟩, ⟨(some 117), (.bld [(.int .i64 0), (.int .i64 0), (.int .i64 0), (.int .i64 0), (.int .u64 0)] [⟨0, ⟨1, (.c (.int .i64 19))⟩⟩, ⟨1, ⟨1, (.t 112)⟩⟩, ⟨2, ⟨1, (.t 116)⟩⟩]), none, []⟩, ⟨(some 118), (.bldS 5 52 (.agg [(.int .i64 0), (.int .i64 0), (.int .i64 0), (.int .i64 0), (.int .u64 0)]) 1 [⟨0, (.t 117)⟩]), none, []⟩, ⟨(some 8), (.asg (.t 118) (some ⟨5, 52⟩)), none, []⟩] false) .ret) (.seq (.reg [⟨(some 120), (.mv (.t 11)), none, []⟩, ⟨(some 121), (.bin .geq (.t 120) (.c (.int .i64 17))), none, []⟩, ⟨(some 122), (.mv (.t 121)), none, []⟩, ⟨(some 123), (.mv (.t 2)), (some ⟨122, true⟩), []⟩, ⟨(some 124), (.bin .add (.t 123) (.c (.int .i64 1))), (some ⟨122, true⟩), []⟩, ⟨(some 125), (.mv (.t 3)), (some ⟨122, true⟩), []⟩, ⟨(some 126), (.len false (.t 125)), (some ⟨122, true⟩), []⟩, ⟨(some 127), (.bin .lss (.t 124) (.t 126)), (some ⟨122, true⟩), []⟩, ⟨(some 128), (.pick (.t 122) (.t 127) (.c (.bool false))), none, []⟩, ⟨(some 119), (.asg (.t 128) none), none, []⟩] false) (.cond (.t 119) (.seq (.reg [⟨(some 129), (.mv (.t 2)), none, []⟩, ⟨(some 130), (.bin .add (.t 129) (.c (.int .i64 1))), none, []⟩, ⟨(some 131), (.mv (.t 0)), none, []⟩, ⟨(some 132), (.mv (.t 3)), none, []⟩, ⟨(some 133), (.len false (.t 132)), none, []⟩, ⟨(some 134), (.mv (.t 2)), none, []⟩, ⟨(some 135), (.bin .sub (.t 133) (.t 134)), none, []⟩, ⟨(some 136), (.bin .sub (.t 135) (.c (.int .i64 1))), none, []⟩, ⟨(some 137), (.call (.c (.clo 39 [])) [(.t 131), (.t 136)]), none, []⟩, ⟨(some 138), (.bin .add (.t 130) (.t 137)), none, []⟩, ⟨(some 13), (.asg (.t 138) none), none, []⟩] false) (.seq (.reg [⟨(some 14), (.asg (.c .nils) (some ⟨5, 52⟩)), none, []⟩] false) (.seq (.seq (.reg [⟨(some 15), (.asg (.c (.int .i64 0)) none), none, []⟩] false) (.block 1 (.loop (.seq (.seq (.reg [⟨(some 139), (.mv (.t 15)), none, []⟩, ⟨(some 140), (.mv (.t 3)), none, []⟩, ⟨(some 141), (.mv (.t 13)), none, []⟩, ⟨(some 142), (.ixA 1 (.t 140) (.t 141)), none, []⟩, ⟨(some 143), (.ld 1 false (.t 142)), none, []⟩, ⟨(some 144), (.bin .lss (.t 139) (.t 143)), none, []⟩] false) (.cond (.t 144) .skip (.exit 1))) (.seq (.block 2 (.seq (.reg [⟨(some 147), (.mv (.t 0)), none, []⟩, ⟨(some 148), (.call (.c (.clo 39 [])) [(.t 147), (.c (.int .i64 8))]), none, []⟩, ⟨(some 149), (.bin .lss (.t 148) (.c (.int .i64 7))), none, []⟩] false) (.cond (.t 149) (.reg [⟨(some 150), (.mv (.t 14)), none, []⟩, ⟨(some 151), (.mv (.t 15)), none, []⟩, ⟨(some 152), (.mv (.t 0)), none, []⟩, ⟨(some 153), (.call (.c (.clo 39 [])) [(.t 152), (.c (.int .i64 4))]), none, []⟩, ⟨(some 154), (.bld [(.int .i64 0), (.int .i64 0), (.int .i64 0), (.int .i64 0), (.int .u64 0)] [⟨0, ⟨1, (.c (.int .i64 18))⟩⟩, ⟨1, ⟨1, (.t 151)⟩⟩, ⟨2, ⟨1, (.t 153)⟩⟩]), none, []⟩, ⟨(some 155), (.bldS 5 52 (.agg [(.int .i64 0), (.int .i64 0), (.int .i64 0), (.int .i64 0), (.int .u64 0)]) 1 [⟨0, (.t 154)⟩]), none, []⟩, ⟨(some 156), (.app 5 52 40 (.t 150) (.t 155)), none, []⟩, ⟨(some 14), (.asg (.t 156) (some ⟨5, 52⟩)), none, []⟩] false) .skip))) (.reg [⟨(some 145), (.mv (.t 15)), none, []⟩, ⟨(some 146), (.bin .add (.t 145) (.c (.int .i64 1))), none, []⟩, ⟨(some 15), (.asg (.t 146) none), none, []⟩] false)))))) (.seq (.reg [⟨(some 157), (.mv (.t 14)), none, []⟩, ⟨(some 158), (.mv (.t 13)), none, []⟩, ⟨(some 159), (.bld [(.int .i64 0), (.int .i64 0), (.int .i64 0), (.int .i64 0), (.int .u64 0)] [⟨0, ⟨1, (.c (.int .i64 22))⟩⟩, ⟨1, ⟨1, (.t 158)⟩⟩]), none, []⟩, ⟨(some 160), (.bldS 5 52 (.agg [(.int .i64 0), (.int .i64 0), (.int .i64 0), (.int .i64 0), (.int .u64 0)]) 1 [⟨0, (.t 159)⟩]), none, []⟩, ⟨(some 161), (.app 5 52 40 (.t 157) (.t 160)), none, []⟩, ⟨(some 8), (.asg (.t 161) (some ⟨5, 52⟩)), none, []⟩] false) .ret)))) .skip))))))))))))))))))) (.seq (.reg [⟨(some 162), (.mv (.t 9)), none, []⟩, ⟨(some 163), (.bld [(.int .i64 0), (.int .i64 0), (.int .i64 0), (.int .i64 0), (.int .u64 0)] [⟨0, ⟨1, (.c (.int .i64 14))⟩⟩, ⟨1, ⟨1, (.t 162)⟩⟩]), none, []⟩, ⟨(some 164), (.bldS 5 52 (.agg [(.int .i64 0), (.int .i64 0), (.int .i64 0), (.int .i64 0), (.int .u64 0)]) 1 [⟨0, (.t 163)⟩]), none, []⟩, ⟨(some 8), (.asg (.t 164) (some ⟨5, 52⟩)), none, []⟩] false) .ret))))))
theorem dc62_c : (Try.f62.body.bind (cCode Try.prog Try.f62.ntmps)) = some dc62 := by kernel_rfl
theorem dc62_r : Try.f62.results.toList.mapM (cRes Try.prog) = some [(.t 8)] := by kernel_rfl
def draw_Codes_body_enc (a : Tdraw_Codes × TFunc × Int × (List Int)) : List D := [edraw_Codes a.1, eFunc a.2.1, .int .i64 a.2.2.1, .sl (a.2.2.2.map eI64)]
def draw_Codes_body_dec (ds : List D) : Tdraw_Codes × TFunc × Int × (List Int) := (udraw_Codes (ds.getD 0 .top), uFunc (ds.getD 1 .top), uI (ds.getD 2 .top), (uL uI) (ds.getD 3 .top))
theorem draw_Codes_body_de (a : Tdraw_Codes × TFunc × Int × (List Int)) : draw_Codes_body_dec (draw_Codes_body_enc a) = a := by simp [draw_Codes_body_dec, draw_Codes_body_enc, uI, uBo, uS, uL_e (u := uI) (en := eI64) (fun _ => rfl)]
def draw_Codes_body_R (b : (List TInstr) × Tdraw_Codes) : D := .sl (b.1.map eInstr)
def draw_Codes_body_E (b : (List TInstr) × Tdraw_Codes) : List D := [edraw_Codes b.2]
noncomputable def draw_Codes_body_S : Dw.Spec := fSpec [(0, (2, 80))] (.row 5 52) draw_Codes_body_enc draw_Codes_body_dec (fun a => draw_Codes_body a.1 a.2.1 a.2.2.1 a.2.2.2) draw_Codes_body_R draw_Codes_body_E
set_option maxHeartbeats 4000000 in
theorem draw_Codes_body_ok : SpecOk Try.prog 62 draw_Codes_body_S := by
  refine fn_ok (specs_ok (l := [(39, draw_Codes_Next_S), (78, draw_Codes_like_S), (63, draw_Codes_Word_S)]) (by simp [draw_Codes_Next_ok, draw_Codes_like_ok, draw_Codes_Word_ok])) Try.func62 (by decide) dc62_c dc62_r (np := 4) (by decide) draw_Codes_body_de (fun _ => rfl) ?_
  rintro ⟨c1, f2, i3, params4⟩
  show Tr (specs [(39, draw_Codes_Next_S), (78, draw_Codes_like_S), (63, draw_Codes_Word_S)]) dc62 (kRet [(0, (2, 80))] (.row 5 52) [(.t 8)] 4 draw_Codes_body_R draw_Codes_body_E) ⟨[(0, .optr 0 0 0 0), (1, .agg [.int .i64 f2.Params, .sl (f2.Slots.map eSlot), .sl (f2.Code.map eInstr)]), (2, .int .i64 i3), (3, .sl (params4.map eI64))], [(0, some (0, ⟨false, true, 2, 80, [.agg [.sl (c1.list.map eU8), .int .i64 c1.at_]]⟩))], 4⟩ (draw_Codes_body c1 f2 i3 params4)
  unfold dc62 draw_Codes_body
  refine tr_seq ?_
  refine tr_reg ?_
  refine trO_box rfl rfl rfl rfl rfl ?_
  refine trO_asg_nil (α := TInstr) rfl eInstr rfl ?_
  refine trO_nil ?_
  refine trX_seq ?_
  refine tr_seq ?_
  refine tr_reg ?_
  refine trO_mv rfl rfl ?_
  refine trO_bind fun r5 hr5 => ?_
  refine trO_call_val (c1, 4) rfl rfl rfl draw_Codes_Next_de rfl rfl (by simp) rfl hr5 ?_
  refine trO_asg rfl rfl ?_
  refine trO_nil ?_
  refine trX_seq ?_
  refine tr_seq ?_
  refine tr_reg ?_
  refine trO_fldA rfl rfl ?_
  refine trO_ld_obj (v := .sl (f2.Slots.map eSlot)) (z := .agg [.int .i64 f2.Params, .sl (f2.Slots.map eSlot), .sl (f2.Code.map eInstr)]) rfl rfl rfl rfl rfl rfl ?_
  refine trO_len_sl rfl rfl ?_
  refine trO_asg rfl rfl ?_
  refine trO_nil ?_
  refine trX_seq ?_
  refine tr_seq ?_
  refine tr_reg ?_
  refine trO_mv rfl rfl ?_
  refine trO_bind fun r6 hr6 => ?_
  refine trO_call_val (r5.2, 20) rfl rfl rfl draw_Codes_Next_de rfl rfl (by simp) rfl hr6 ?_
  refine trO_asg rfl rfl ?_
  refine trO_nil ?_
  refine trX_seq ?_
  refine tr_seq_blk_cut (E := fun (s : Unit) (g : Unit) => [(9, .int .i64 r5.1)]) (O := fun s g => [(0, some (0, ⟨false, true, 2, 80, [.agg [.sl (r6.2.list.map eU8), .int .i64 r6.2.at_]]⟩))]) (j := fun s => draw_Codes_body_j1 r5 r6) ?_ ?_
  ·
    refine tr_seq_cut (E := fun (s : Bool) (g : Nat) => [(0, .optr 0 0 0 0), (2, .int .i64 i3), (3, .sl (params4.map eI64)), (5, .optr 5 g 0 0), (9, .int .i64 r5.1), (10, .int .i64 (f2.Slots.length : Int)), (11, .int .i64 r6.1), (23, .bool s)]) (O := fun s g => [(0, some (0, ⟨false, true, 2, 80, [.agg [.sl (r6.2.list.map eU8), .int .i64 r6.2.at_]]⟩)), (5, some (g, ⟨false, true, 3, 27, [.agg [.int .i64 f2.Params, .sl (f2.Slots.map eSlot), .sl (f2.Code.map eInstr)]]⟩))]) (j := fun s => draw_Codes_body_j2 r6 f2 r5 params4 i3 s) ?_ ?_
    ·
      refine tr_reg ?_
      refine trO_mv rfl rfl ?_
      refine trO_bin (v := .bool (decide (r6.1 < 3))) rfl rfl rfl rfl rfl ?_
      refine trO_mv rfl rfl ?_
      refine trO_split 26 (b := (decide (r6.1 < 3))) rfl ?_ ?_
      ·
        refine trO_mv rfl rfl ?_
        refine trO_bin (v := .bool (decide ((f2.Slots.length : Int) > 0))) rfl rfl rfl rfl rfl ?_
        refine trO_pick_true rfl rfl rfl rfl ?_
        refine trO_asg rfl rfl ?_
        refine trO_nil ?_
        exact trX_cut (s := (decide ((f2.Slots.length : Int) > 0))) _ (has_exact ⟨rfl, rfl, rfl, rfl, rfl, rfl, rfl, rfl, trivial⟩ ⟨rfl, rfl, trivial⟩)
      ·
        refine trO_off rfl ?_
        refine trO_off rfl ?_
        refine trO_pick_false rfl rfl rfl rfl ?_
        refine trO_asg rfl rfl ?_
        refine trO_nil ?_
        exact trX_cut (s := false) _ (has_exact ⟨rfl, rfl, rfl, rfl, rfl, rfl, rfl, rfl, trivial⟩ ⟨rfl, rfl, trivial⟩)
    ·
      rintro x7 v5 nn
      show Tr _ _ _ ⟨[(0, .optr 0 0 0 0), (2, .int .i64 i3), (3, .sl (params4.map eI64)), (5, .optr 5 v5 0 0), (9, .int .i64 r5.1), (10, .int .i64 (f2.Slots.length : Int)), (11, .int .i64 r6.1), (23, .bool x7)], [(0, some (0, ⟨false, true, 2, 80, [.agg [.sl (r6.2.list.map eU8), .int .i64 r6.2.at_]]⟩)), (5, some (v5, ⟨false, true, 3, 27, [.agg [.int .i64 f2.Params, .sl (f2.Slots.map eSlot), .sl (f2.Code.map eInstr)]]⟩))], _⟩ (draw_Codes_body_j2 r6 f2 r5 params4 i3 x7)
      unfold draw_Codes_body_j2
      refine tr_cond (c := x7) rfl ?_ ?_
      ·
        refine tr_seq ?_
        refine tr_reg ?_
        refine trO_mv rfl rfl ?_
        refine trO_mv rfl rfl ?_
        refine trO_bind fun r8 hr8 => ?_
        refine trO_call_val (r6.2, (f2.Slots.length : Int)) rfl rfl rfl draw_Codes_Next_de rfl rfl (by simp) rfl hr8 ?_
        refine trO_mv rfl rfl ?_
        refine trO_bld (cs := [.int .i64 16, .int .i64 r8.1, .int .i64 r5.1, .int .i64 0, .int .u64 0]) (ps := [(0, 1, .int .i64 16), (1, 1, .int .i64 r8.1), (2, 1, .int .i64 r5.1)]) rfl rfl rfl rfl ?_
        refine trO_bldS ([(TInstr.mk 16 r8.1 r5.1 0 0)] : List TInstr) eInstr rfl rfl rfl (by simp) rfl rfl rfl ?_
        refine trO_asg_own (l := ([(TInstr.mk 16 r8.1 r5.1 0 0)] : List TInstr)) (en := eInstr) rfl rfl rfl rfl ?_
        refine trO_nil ?_
        refine trX_seq ?_
        refine tr_ret ?_
        refine trX_bcut_ret ?_
        exact ret_row (b := (([(TInstr.mk 16 r8.1 r5.1 0 0)] : List TInstr), r8.2)) rfl (by first | (simp; done) | (simp; omega)) rfl rfl (by first | (simp; done) | (simp; omega)) rfl (by first | (simp; done) | (simp; omega)) (congrArg D.sl (take_len_map' _ _ rfl)) rfl
      ·
        refine tr_seq_cut (E := fun (s : Bool) (g : Nat) => [(0, .optr 0 0 0 0), (2, .int .i64 i3), (3, .sl (params4.map eI64)), (5, .optr 5 g 0 0), (9, .int .i64 r5.1), (10, .int .i64 (f2.Slots.length : Int)), (11, .int .i64 r6.1), (36, .bool s)]) (O := fun s g => [(0, some (0, ⟨false, true, 2, 80, [.agg [.sl (r6.2.list.map eU8), .int .i64 r6.2.at_]]⟩)), (5, some (g, ⟨false, true, 3, 27, [.agg [.int .i64 f2.Params, .sl (f2.Slots.map eSlot), .sl (f2.Code.map eInstr)]]⟩))]) (j := fun s => draw_Codes_body_j3 r6 f2 r5 params4 i3 s) ?_ ?_
        ·
          refine tr_reg ?_
          refine trO_mv rfl rfl ?_
          refine trO_bin (v := .bool (decide (r6.1 < 6))) rfl rfl rfl rfl rfl ?_
          refine trO_mv rfl rfl ?_
          refine trO_split 39 (b := (decide (r6.1 < 6))) rfl ?_ ?_
          ·
            refine trO_mv rfl rfl ?_
            refine trO_bin (v := .bool (decide ((f2.Slots.length : Int) > 0))) rfl rfl rfl rfl rfl ?_
            refine trO_pick_true rfl rfl rfl rfl ?_
            refine trO_asg rfl rfl ?_
            refine trO_nil ?_
            exact trX_cut (s := (decide ((f2.Slots.length : Int) > 0))) _ (has_exact ⟨rfl, rfl, rfl, rfl, rfl, rfl, rfl, rfl, trivial⟩ ⟨rfl, rfl, trivial⟩)
          ·
            refine trO_off rfl ?_
            refine trO_off rfl ?_
            refine trO_pick_false rfl rfl rfl rfl ?_
            refine trO_asg rfl rfl ?_
            refine trO_nil ?_
            exact trX_cut (s := false) _ (has_exact ⟨rfl, rfl, rfl, rfl, rfl, rfl, rfl, rfl, trivial⟩ ⟨rfl, rfl, trivial⟩)
        ·
          rintro x9 v5 nn
          show Tr _ _ _ ⟨[(0, .optr 0 0 0 0), (2, .int .i64 i3), (3, .sl (params4.map eI64)), (5, .optr 5 v5 0 0), (9, .int .i64 r5.1), (10, .int .i64 (f2.Slots.length : Int)), (11, .int .i64 r6.1), (36, .bool x9)], [(0, some (0, ⟨false, true, 2, 80, [.agg [.sl (r6.2.list.map eU8), .int .i64 r6.2.at_]]⟩)), (5, some (v5, ⟨false, true, 3, 27, [.agg [.int .i64 f2.Params, .sl (f2.Slots.map eSlot), .sl (f2.Code.map eInstr)]]⟩))], _⟩ (draw_Codes_body_j3 r6 f2 r5 params4 i3 x9)
          unfold draw_Codes_body_j3
          refine tr_cond (c := x9) rfl ?_ ?_
          ·
            refine tr_seq ?_
            refine tr_reg ?_
            refine trO_mv rfl rfl ?_
            refine trO_mv rfl rfl ?_
            refine trO_mv rfl rfl ?_
            refine trO_bind fun r10 hr10 => ?_
            refine trO_call_val (r6.2, (f2.Slots.length : Int)) rfl rfl rfl draw_Codes_Next_de rfl rfl (by simp) rfl hr10 ?_
            refine trO_bld (cs := [.int .i64 15, .int .i64 r5.1, .int .i64 r10.1, .int .i64 0, .int .u64 0]) (ps := [(0, 1, .int .i64 15), (1, 1, .int .i64 r5.1), (2, 1, .int .i64 r10.1)]) rfl rfl rfl rfl ?_
            refine trO_bldS ([(TInstr.mk 15 r5.1 r10.1 0 0)] : List TInstr) eInstr rfl rfl rfl (by simp) rfl rfl rfl ?_
            refine trO_asg_own (l := ([(TInstr.mk 15 r5.1 r10.1 0 0)] : List TInstr)) (en := eInstr) rfl rfl rfl rfl ?_
            refine trO_nil ?_
            refine trX_seq ?_
            refine tr_ret ?_
            refine trX_bcut_ret ?_
            exact ret_row (b := (([(TInstr.mk 15 r5.1 r10.1 0 0)] : List TInstr), r10.2)) rfl (by first | (simp; done) | (simp; omega)) rfl rfl (by first | (simp; done) | (simp; omega)) rfl (by first | (simp; done) | (simp; omega)) (congrArg D.sl (take_len_map' _ _ rfl)) rfl
          ·
            refine tr_seq_cut (E := fun (s : Bool) (g : Nat) => [(0, .optr 0 0 0 0), (2, .int .i64 i3), (3, .sl (params4.map eI64)), (5, .optr 5 g 0 0), (9, .int .i64 r5.1), (10, .int .i64 (f2.Slots.length : Int)), (11, .int .i64 r6.1), (49, .bool s)]) (O := fun s g => [(0, some (0, ⟨false, true, 2, 80, [.agg [.sl (r6.2.list.map eU8), .int .i64 r6.2.at_]]⟩)), (5, some (g, ⟨false, true, 3, 27, [.agg [.int .i64 f2.Params, .sl (f2.Slots.map eSlot), .sl (f2.Code.map eInstr)]]⟩))]) (j := fun s => draw_Codes_body_j4 r6 f2 r5 params4 i3 s) ?_ ?_
            ·
              refine tr_reg ?_
              refine trO_mv rfl rfl ?_
              refine trO_bin (v := .bool (decide (r6.1 < 9))) rfl rfl rfl rfl rfl ?_
              refine trO_mv rfl rfl ?_
              refine trO_split 52 (b := (decide (r6.1 < 9))) rfl ?_ ?_
              ·
                refine trO_mv rfl rfl ?_
                refine trO_bin (v := .bool (decide ((f2.Slots.length : Int) > 0))) rfl rfl rfl rfl rfl ?_
                refine trO_pick_true rfl rfl rfl rfl ?_
                refine trO_asg rfl rfl ?_
                refine trO_nil ?_
                exact trX_cut (s := (decide ((f2.Slots.length : Int) > 0))) _ (has_exact ⟨rfl, rfl, rfl, rfl, rfl, rfl, rfl, rfl, trivial⟩ ⟨rfl, rfl, trivial⟩)
              ·
                refine trO_off rfl ?_
                refine trO_off rfl ?_
                refine trO_pick_false rfl rfl rfl rfl ?_
                refine trO_asg rfl rfl ?_
                refine trO_nil ?_
                exact trX_cut (s := false) _ (has_exact ⟨rfl, rfl, rfl, rfl, rfl, rfl, rfl, rfl, trivial⟩ ⟨rfl, rfl, trivial⟩)
            ·
              rintro x11 v5 nn
              show Tr _ _ _ ⟨[(0, .optr 0 0 0 0), (2, .int .i64 i3), (3, .sl (params4.map eI64)), (5, .optr 5 v5 0 0), (9, .int .i64 r5.1), (10, .int .i64 (f2.Slots.length : Int)), (11, .int .i64 r6.1), (49, .bool x11)], [(0, some (0, ⟨false, true, 2, 80, [.agg [.sl (r6.2.list.map eU8), .int .i64 r6.2.at_]]⟩)), (5, some (v5, ⟨false, true, 3, 27, [.agg [.int .i64 f2.Params, .sl (f2.Slots.map eSlot), .sl (f2.Code.map eInstr)]]⟩))], _⟩ (draw_Codes_body_j4 r6 f2 r5 params4 i3 x11)
              unfold draw_Codes_body_j4
              refine tr_cond (c := x11) rfl ?_ ?_
              ·
                refine tr_seq ?_
                refine tr_reg ?_
                refine trO_mv rfl rfl ?_
                refine trO_mv rfl rfl ?_
                refine trO_bind fun r12 hr12 => ?_
                refine trO_call_val (r6.2, (f2.Slots.length : Int)) rfl rfl rfl draw_Codes_Next_de rfl rfl (by simp) rfl hr12 ?_
                refine trO_asg rfl rfl ?_
                refine trO_nil ?_
                refine trX_seq ?_
                refine tr_seq ?_
                refine tr_reg ?_
                refine trO_mv rfl rfl ?_
                refine trO_ld_obj (v := .agg [.int .i64 f2.Params, .sl (f2.Slots.map eSlot), .sl (f2.Code.map eInstr)]) (z := .agg [.int .i64 f2.Params, .sl (f2.Slots.map eSlot), .sl (f2.Code.map eInstr)]) rfl rfl rfl rfl rfl rfl ?_
                refine trO_mv rfl rfl ?_
                refine trO_bind fun r13 hr13 => ?_
                refine trO_call_val (r12.2, f2, r12.1) rfl rfl rfl draw_Codes_like_de rfl rfl (by simp) rfl hr13 ?_
                refine trO_mv rfl rfl ?_
                refine trO_bld (cs := [.int .i64 17, .int .i64 r13.1, .int .i64 r12.1, .int .i64 0, .int .u64 0]) (ps := [(0, 1, .int .i64 17), (1, 1, .int .i64 r13.1), (2, 1, .int .i64 r12.1)]) rfl rfl rfl rfl ?_
                refine trO_bldS ([(TInstr.mk 17 r13.1 r12.1 0 0)] : List TInstr) eInstr rfl rfl rfl (by simp) rfl rfl rfl ?_
                refine trO_asg_own (l := ([(TInstr.mk 17 r13.1 r12.1 0 0)] : List TInstr)) (en := eInstr) rfl rfl rfl rfl ?_
                refine trO_nil ?_
                refine trX_seq ?_
                refine tr_ret ?_
                refine trX_bcut_ret ?_
                exact ret_row (b := (([(TInstr.mk 17 r13.1 r12.1 0 0)] : List TInstr), r13.2)) rfl (by first | (simp; done) | (simp; omega)) rfl rfl (by first | (simp; done) | (simp; omega)) rfl (by first | (simp; done) | (simp; omega)) (congrArg D.sl (take_len_map' _ _ rfl)) rfl
              ·
                refine tr_seq ?_
                refine tr_reg ?_
                refine trO_mv rfl rfl ?_
                refine trO_bin (v := .bool (decide (r6.1 < 11))) rfl rfl rfl rfl rfl ?_
                refine trO_asg rfl rfl ?_
                refine trO_nil ?_
                refine trX_seq ?_
                refine tr_cond (c := (decide (r6.1 < 11))) rfl ?_ ?_
                ·
                  refine tr_seq ?_
                  refine tr_reg ?_
                  refine trO_mv rfl rfl ?_
                  refine trO_mv rfl rfl ?_
                  refine trO_bind fun r14 hr14 => ?_
                  refine trO_call_val r6.2 rfl rfl rfl draw_Codes_Word_de rfl rfl (by simp) rfl hr14 ?_
                  refine trO_bld (cs := [.int .i64 0, .int .i64 r5.1, .int .i64 0, .int .i64 0, .int .u64 r14.1]) (ps := [(0, 1, .int .i64 0), (1, 1, .int .i64 r5.1), (4, 1, .int .u64 r14.1)]) rfl rfl rfl rfl ?_
                  refine trO_bldS ([(TInstr.mk 0 r5.1 0 0 r14.1)] : List TInstr) eInstr rfl rfl rfl (by simp) rfl rfl rfl ?_
                  refine trO_asg_own (l := ([(TInstr.mk 0 r5.1 0 0 r14.1)] : List TInstr)) (en := eInstr) rfl rfl rfl rfl ?_
                  refine trO_nil ?_
                  refine trX_seq ?_
                  refine tr_ret ?_
                  refine trX_bcut_ret ?_
                  exact ret_row (b := (([(TInstr.mk 0 r5.1 0 0 r14.1)] : List TInstr), r14.2)) rfl (by first | (simp; done) | (simp; omega)) rfl rfl (by first | (simp; done) | (simp; omega)) rfl (by first | (simp; done) | (simp; omega)) (congrArg D.sl (take_len_map' _ _ rfl)) rfl
                ·
                  refine tr_seq ?_
                  refine tr_reg ?_
                  refine trO_mv rfl rfl ?_
                  refine trO_bin (v := .bool (decide (r6.1 < 13))) rfl rfl rfl rfl rfl ?_
                  refine trO_asg rfl rfl ?_
                  refine trO_nil ?_
                  refine trX_seq ?_
                  refine tr_cond (c := (decide (r6.1 < 13))) rfl ?_ ?_
                  ·
                    refine tr_seq ?_
                    refine tr_reg ?_
                    refine trO_mv rfl rfl ?_
                    refine trO_bind fun r15 hr15 => ?_
                    refine trO_call_val (r6.2, 10) rfl rfl rfl draw_Codes_Next_de rfl rfl (by simp) rfl hr15 ?_
                    refine trO_bin (v := .int .i64 (IntKind.i64.wrap (2 + r15.1))) rfl rfl rfl rfl rfl ?_
                    refine trO_mv rfl rfl ?_
                    refine trO_mv rfl rfl ?_
                    refine trO_bind fun r16 hr16 => ?_
                    refine trO_call_val (r15.2, 4) rfl rfl rfl draw_Codes_Next_de rfl rfl (by simp) rfl hr16 ?_
                    refine trO_mv rfl rfl ?_
                    refine trO_bind fun r17 hr17 => ?_
                    refine trO_call_val (r16.2, 8) rfl rfl rfl draw_Codes_Next_de rfl rfl (by simp) rfl hr17 ?_
                    refine trO_bld (cs := [.int .i64 (IntKind.i64.wrap (2 + r15.1)), .int .i64 r5.1, .int .i64 r16.1, .int .i64 r17.1, .int .u64 0]) (ps := [(0, 1, .int .i64 (IntKind.i64.wrap (2 + r15.1))), (1, 1, .int .i64 r5.1), (2, 1, .int .i64 r16.1), (3, 1, .int .i64 r17.1)]) rfl rfl rfl rfl ?_
                    refine trO_bldS ([(TInstr.mk (IntKind.i64.wrap (2 + r15.1)) r5.1 r16.1 r17.1 0)] : List TInstr) eInstr rfl rfl rfl (by simp) rfl rfl rfl ?_
                    refine trO_asg_own (l := ([(TInstr.mk (IntKind.i64.wrap (2 + r15.1)) r5.1 r16.1 r17.1 0)] : List TInstr)) (en := eInstr) rfl rfl rfl rfl ?_
                    refine trO_nil ?_
                    refine trX_seq ?_
                    refine tr_ret ?_
                    refine trX_bcut_ret ?_
                    exact ret_row (b := (([(TInstr.mk (IntKind.i64.wrap (2 + r15.1)) r5.1 r16.1 r17.1 0)] : List TInstr), r17.2)) rfl (by first | (simp; done) | (simp; omega)) rfl rfl (by first | (simp; done) | (simp; omega)) rfl (by first | (simp; done) | (simp; omega)) (congrArg D.sl (take_len_map' _ _ rfl)) rfl
                  ·
                    refine tr_seq ?_
                    refine tr_reg ?_
                    refine trO_mv rfl rfl ?_
                    refine trO_bin (v := .bool (decide (r6.1 < 15))) rfl rfl rfl rfl rfl ?_
                    refine trO_asg rfl rfl ?_
                    refine trO_nil ?_
                    refine trX_seq ?_
                    refine tr_cond (c := (decide (r6.1 < 15))) rfl ?_ ?_
                    ·
                      refine tr_seq ?_
                      refine tr_reg ?_
                      refine trO_mv rfl rfl ?_
                      refine trO_bld (cs := [.int .i64 14, .int .i64 r5.1, .int .i64 0, .int .i64 0, .int .u64 0]) (ps := [(0, 1, .int .i64 14), (1, 1, .int .i64 r5.1)]) rfl rfl rfl rfl ?_
                      refine trO_bldS ([(TInstr.mk 14 r5.1 0 0 0)] : List TInstr) eInstr rfl rfl rfl (by simp) rfl rfl rfl ?_
                      refine trO_asg_own (l := ([(TInstr.mk 14 r5.1 0 0 0)] : List TInstr)) (en := eInstr) rfl rfl rfl rfl ?_
                      refine trO_nil ?_
                      refine trX_seq ?_
                      refine tr_ret ?_
                      refine trX_bcut_ret ?_
                      exact ret_row (b := (([(TInstr.mk 14 r5.1 0 0 0)] : List TInstr), r6.2)) rfl (by first | (simp; done) | (simp; omega)) rfl rfl (by first | (simp; done) | (simp; omega)) rfl (by first | (simp; done) | (simp; omega)) (congrArg D.sl (take_len_map' _ _ rfl)) rfl
                    ·
                      refine tr_seq ?_
                      refine tr_reg ?_
                      refine trO_mv rfl rfl ?_
                      refine trO_bin (v := .bool (r6.1 == 15)) rfl rfl rfl rfl rfl ?_
                      refine trO_asg rfl rfl ?_
                      refine trO_nil ?_
                      refine trX_seq ?_
                      refine tr_cond (c := (r6.1 == 15)) rfl ?_ ?_
                      ·
                        refine tr_seq ?_
                        refine tr_reg ?_
                        refine trO_bldS ([13, 12, 1] : List Int) eI64 rfl rfl rfl (by simp) rfl rfl rfl ?_
                        refine trO_mv rfl rfl ?_
                        refine trO_bind fun r18 hr18 => ?_
                        refine trO_call_val (r6.2, 3) rfl rfl rfl draw_Codes_Next_de rfl rfl (by simp) rfl hr18 ?_
                        refine trO_chk fun hq => ?_
                        refine trO_ixA_own (l := ([13, 12, 1] : List Int)) (en := eI64) rfl rfl rfl rfl rfl hq ?_
                        refine trO_bind fun x_e19 hx_e19 => ?_
                        refine trO_ld_obj (v := .int .i64 x_e19) (z := eI64 x_e19) rfl rfl rfl (map_get hx_e19) rfl rfl ?_
                        refine trO_mv rfl rfl ?_
                        refine trO_bld (cs := [.int .i64 x_e19, .int .i64 r5.1, .int .i64 0, .int .i64 0, .int .u64 0]) (ps := [(0, 1, .int .i64 x_e19), (1, 1, .int .i64 r5.1)]) rfl rfl rfl rfl ?_
                        refine trO_bldS ([(TInstr.mk x_e19 r5.1 0 0 0)] : List TInstr) eInstr rfl rfl rfl (by simp) rfl rfl rfl ?_
                        refine trO_asg_own (l := ([(TInstr.mk x_e19 r5.1 0 0 0)] : List TInstr)) (en := eInstr) rfl rfl rfl rfl ?_
                        refine trO_nil ?_
                        refine trX_seq ?_
                        refine tr_ret ?_
                        refine trX_bcut_ret ?_
                        exact ret_row (b := (([(TInstr.mk x_e19 r5.1 0 0 0)] : List TInstr), r18.2)) rfl (by first | (simp; done) | (simp; omega)) rfl rfl (by first | (simp; done) | (simp; omega)) rfl (by first | (simp; done) | (simp; omega)) (congrArg D.sl (take_len_map' _ _ rfl)) rfl
                      ·
                        refine tr_seq_cut (E := fun (s : Bool) (g : Nat) => [(0, .optr 0 0 0 0), (2, .int .i64 i3), (3, .sl (params4.map eI64)), (5, .optr 5 g 0 0), (9, .int .i64 r5.1), (11, .int .i64 r6.1), (104, .bool s)]) (O := fun s g => [(0, some (0, ⟨false, true, 2, 80, [.agg [.sl (r6.2.list.map eU8), .int .i64 r6.2.at_]]⟩)), (5, some (g, ⟨false, true, 3, 27, [.agg [.int .i64 f2.Params, .sl (f2.Slots.map eSlot), .sl (f2.Code.map eInstr)]]⟩))]) (j := fun s => draw_Codes_body_j5 r6 f2 r5 params4 i3 s) ?_ ?_
                        ·
                          refine tr_reg ?_
                          refine trO_mv rfl rfl ?_
                          refine trO_bin (v := .bool (r6.1 == 16)) rfl rfl rfl rfl rfl ?_
                          refine trO_mv rfl rfl ?_
                          refine trO_split 107 (b := (r6.1 == 16)) rfl ?_ ?_
                          ·
                            refine trO_fldA rfl rfl ?_
                            refine trO_ld_obj (v := .int .i64 f2.Params) (z := .agg [.int .i64 f2.Params, .sl (f2.Slots.map eSlot), .sl (f2.Code.map eInstr)]) rfl rfl rfl rfl rfl rfl ?_
                            refine trO_bin (v := .bool (decide (f2.Params > 0))) rfl rfl rfl rfl rfl ?_
                            refine trO_pick_true rfl rfl rfl rfl ?_
                            refine trO_asg rfl rfl ?_
                            refine trO_nil ?_
                            exact trX_cut (s := (decide (f2.Params > 0))) _ (has_exact ⟨rfl, rfl, rfl, rfl, rfl, rfl, rfl, trivial⟩ ⟨rfl, rfl, trivial⟩)
                          ·
                            refine trO_off rfl ?_
                            refine trO_off rfl ?_
                            refine trO_off rfl ?_
                            refine trO_pick_false rfl rfl rfl rfl ?_
                            refine trO_asg rfl rfl ?_
                            refine trO_nil ?_
                            exact trX_cut (s := false) _ (has_exact ⟨rfl, rfl, rfl, rfl, rfl, rfl, rfl, trivial⟩ ⟨rfl, rfl, trivial⟩)
                        ·
                          rintro x20 v5 nn
                          show Tr _ _ _ ⟨[(0, .optr 0 0 0 0), (2, .int .i64 i3), (3, .sl (params4.map eI64)), (5, .optr 5 v5 0 0), (9, .int .i64 r5.1), (11, .int .i64 r6.1), (104, .bool x20)], [(0, some (0, ⟨false, true, 2, 80, [.agg [.sl (r6.2.list.map eU8), .int .i64 r6.2.at_]]⟩)), (5, some (v5, ⟨false, true, 3, 27, [.agg [.int .i64 f2.Params, .sl (f2.Slots.map eSlot), .sl (f2.Code.map eInstr)]]⟩))], _⟩ (draw_Codes_body_j5 r6 f2 r5 params4 i3 x20)
                          unfold draw_Codes_body_j5
                          refine tr_cond (c := x20) rfl ?_ ?_
                          ·
                            refine tr_seq ?_
                            refine tr_reg ?_
                            refine trO_mv rfl rfl ?_
                            refine trO_mv rfl rfl ?_
                            refine trO_fldA rfl rfl ?_
                            refine trO_ld_obj (v := .int .i64 f2.Params) (z := .agg [.int .i64 f2.Params, .sl (f2.Slots.map eSlot), .sl (f2.Code.map eInstr)]) rfl rfl rfl rfl rfl rfl ?_
                            refine trO_bind fun r21 hr21 => ?_
                            refine trO_call_val (r6.2, f2.Params) rfl rfl rfl draw_Codes_Next_de rfl rfl (by simp) rfl hr21 ?_
                            refine trO_bld (cs := [.int .i64 19, .int .i64 r5.1, .int .i64 r21.1, .int .i64 0, .int .u64 0]) (ps := [(0, 1, .int .i64 19), (1, 1, .int .i64 r5.1), (2, 1, .int .i64 r21.1)]) rfl rfl rfl rfl ?_
                            refine trO_bldS ([(TInstr.mk 19 r5.1 r21.1 0 0)] : List TInstr) eInstr rfl rfl rfl (by simp) rfl rfl rfl ?_
                            refine trO_asg_own (l := ([(TInstr.mk 19 r5.1 r21.1 0 0)] : List TInstr)) (en := eInstr) rfl rfl rfl rfl ?_
                            refine trO_nil ?_
                            refine trX_seq ?_
                            refine tr_ret ?_
                            refine trX_bcut_ret ?_
                            exact ret_row (b := (([(TInstr.mk 19 r5.1 r21.1 0 0)] : List TInstr), r21.2)) rfl (by first | (simp; done) | (simp; omega)) rfl rfl (by first | (simp; done) | (simp; omega)) rfl (by first | (simp; done) | (simp; omega)) (congrArg D.sl (take_len_map' _ _ rfl)) rfl
                          ·
                            refine tr_seq_cut (E := fun (s : Bool) (g : Unit) => [(0, .optr 0 0 0 0), (2, .int .i64 i3), (3, .sl (params4.map eI64)), (9, .int .i64 r5.1), (119, .bool s)]) (O := fun s g => [(0, some (0, ⟨false, true, 2, 80, [.agg [.sl (r6.2.list.map eU8), .int .i64 r6.2.at_]]⟩))]) (j := fun s => draw_Codes_body_j6 r6 params4 i3 r5 s) ?_ ?_
                            ·
                              refine tr_reg ?_
                              refine trO_mv rfl rfl ?_
                              refine trO_bin (v := .bool (decide (r6.1 ≥ 17))) rfl rfl rfl rfl rfl ?_
                              refine trO_mv rfl rfl ?_
                              refine trO_split 122 (b := (decide (r6.1 ≥ 17))) rfl ?_ ?_
                              ·
                                refine trO_mv rfl rfl ?_
                                refine trO_bin (v := .int .i64 (IntKind.i64.wrap (i3 + 1))) rfl rfl rfl rfl rfl ?_
                                refine trO_mv rfl rfl ?_
                                refine trO_len_sl rfl rfl ?_
                                refine trO_bin (v := .bool (decide ((IntKind.i64.wrap (i3 + 1)) < (params4.length : Int)))) rfl rfl rfl rfl rfl ?_
                                refine trO_pick_true rfl rfl rfl rfl ?_
                                refine trO_asg rfl rfl ?_
                                refine trO_nil ?_
                                exact trX_cut (s := (decide ((IntKind.i64.wrap (i3 + 1)) < (params4.length : Int)))) () (has_exact ⟨rfl, rfl, rfl, rfl, rfl, trivial⟩ ⟨rfl, trivial⟩)
                              ·
                                refine trO_off rfl ?_
                                refine trO_off rfl ?_
                                refine trO_off rfl ?_
                                refine trO_off rfl ?_
                                refine trO_off rfl ?_
                                refine trO_pick_false rfl rfl rfl rfl ?_
                                refine trO_asg rfl rfl ?_
                                refine trO_nil ?_
                                exact trX_cut (s := false) () (has_exact ⟨rfl, rfl, rfl, rfl, rfl, trivial⟩ ⟨rfl, trivial⟩)
                            ·
                              rintro x22 ⟨⟩ nn
                              show Tr _ _ _ ⟨[(0, .optr 0 0 0 0), (2, .int .i64 i3), (3, .sl (params4.map eI64)), (9, .int .i64 r5.1), (119, .bool x22)], [(0, some (0, ⟨false, true, 2, 80, [.agg [.sl (r6.2.list.map eU8), .int .i64 r6.2.at_]]⟩))], _⟩ (draw_Codes_body_j6 r6 params4 i3 r5 x22)
                              unfold draw_Codes_body_j6
                              refine tr_cond (c := x22) rfl ?_ ?_
                              ·
                                refine tr_seq ?_
                                refine tr_reg ?_
                                refine trO_mv rfl rfl ?_
                                refine trO_bin (v := .int .i64 (IntKind.i64.wrap (i3 + 1))) rfl rfl rfl rfl rfl ?_
                                refine trO_mv rfl rfl ?_
                                refine trO_mv rfl rfl ?_
                                refine trO_len_sl rfl rfl ?_
                                refine trO_mv rfl rfl ?_
                                refine trO_bin (v := .int .i64 (IntKind.i64.wrap ((params4.length : Int) - i3))) rfl rfl rfl rfl rfl ?_
                                refine trO_bin (v := .int .i64 (IntKind.i64.wrap ((IntKind.i64.wrap ((params4.length : Int) - i3)) - 1))) rfl rfl rfl rfl rfl ?_
                                refine trO_bind fun r23 hr23 => ?_
                                refine trO_call_val (r6.2, IntKind.i64.wrap ((IntKind.i64.wrap ((params4.length : Int) - i3)) - 1)) rfl rfl rfl draw_Codes_Next_de rfl rfl (by simp) rfl hr23 ?_
                                refine trO_bin (v := .int .i64 (IntKind.i64.wrap ((IntKind.i64.wrap (i3 + 1)) + r23.1))) rfl rfl rfl rfl rfl ?_
                                refine trO_asg rfl rfl ?_
                                refine trO_nil ?_
                                refine trX_seq ?_
                                refine tr_seq ?_
                                refine tr_reg ?_
                                refine trO_asg_nil (α := TInstr) rfl eInstr rfl ?_
                                refine trO_nil ?_
                                refine trX_seq ?_
                                refine tr_seq ?_
                                refine tr_seq ?_
                                refine tr_reg ?_
                                refine trO_asg rfl rfl ?_
                                refine trO_nil ?_
                                refine trX_seq ?_
                                refine tr_block ?_
                                refine tr_loop (E := fun (s : (List Int) × Int × (List TInstr) × Int) (g : Nat) => [(0, .optr 0 0 0 0), (3, .sl (params4.map eI64)), (13, .int .i64 (IntKind.i64.wrap ((IntKind.i64.wrap (i3 + 1)) + r23.1))), (14, .osl 14 g 0 s.2.2.1.length), (15, .int .i64 s.2.2.2)]) (O := fun s g => [(0, some (0, ⟨false, true, 2, 80, [.agg [.sl (s.1.map eU8), .int .i64 s.2.1]]⟩)), (14, some (g, ⟨false, false, 5, 52, s.2.2.1.map eInstr⟩))]) (body := fun s => draw_Codes_body_b7 params4 i3 r23 s.1 s.2.1 s.2.2.1 s.2.2.2) (s := (r23.2.list, r23.2.at_, ([] : List TInstr), 0)) _ (has_exact ⟨rfl, rfl, rfl, rfl, rfl, trivial⟩ ⟨rfl, rfl, trivial⟩) ?_
                                rintro ⟨c24, c25, out26, a27⟩ v14 nn
                                show Tr _ _ _ ⟨[(0, .optr 0 0 0 0), (3, .sl (params4.map eI64)), (13, .int .i64 (IntKind.i64.wrap ((IntKind.i64.wrap (i3 + 1)) + r23.1))), (14, .osl 14 v14 0 out26.length), (15, .int .i64 a27)], [(0, some (0, ⟨false, true, 2, 80, [.agg [.sl (c24.map eU8), .int .i64 c25]]⟩)), (14, some (v14, ⟨false, false, 5, 52, out26.map eInstr⟩))], _⟩ (draw_Codes_body_b7 params4 i3 r23 c24 c25 out26 a27)
                                unfold draw_Codes_body_b7
                                refine tr_seq ?_
                                refine tr_seq ?_
                                refine tr_reg ?_
                                refine trO_mv rfl rfl ?_
                                refine trO_mv rfl rfl ?_
                                refine trO_mv rfl rfl ?_
                                refine trO_bind fun x_x28 hx_x28 => ?_
                                refine trO_ixA_sl (en := eI64) rfl rfl rfl hx_x28 rfl ?_
                                refine trO_ld_f (v := .int .i64 x_x28) rfl rfl rfl rfl ?_
                                refine trO_bin (v := .bool (decide (a27 < x_x28))) rfl rfl rfl rfl rfl ?_
                                refine trO_nil ?_
                                refine trX_seq ?_
                                refine tr_cond (c := (decide (a27 < x_x28))) rfl ?_ ?_
                                ·
                                  refine tr_skip ?_
                                  refine trX_seq ?_
                                  refine tr_seq ?_
                                  refine tr_block ?_
                                  refine tr_seq ?_
                                  refine tr_reg ?_
                                  refine trO_mv rfl rfl ?_
                                  refine trO_bind fun r29 hr29 => ?_
                                  refine trO_call_val ((Tdraw_Codes.mk c24 c25), 8) rfl rfl rfl draw_Codes_Next_de rfl rfl (by simp) rfl hr29 ?_
                                  refine trO_bin (v := .bool (decide (r29.1 < 7))) rfl rfl rfl rfl rfl ?_
                                  refine trO_nil ?_
                                  refine trX_seq ?_
                                  refine tr_cond (c := (decide (r29.1 < 7))) rfl ?_ ?_
                                  ·
                                    refine tr_reg ?_
                                    refine trO_mv rfl rfl ?_
                                    refine trO_mv rfl rfl ?_
                                    refine trO_mv rfl rfl ?_
                                    refine trO_bind fun r30 hr30 => ?_
                                    refine trO_call_val (r29.2, 4) rfl rfl rfl draw_Codes_Next_de rfl rfl (by simp) rfl hr30 ?_
                                    refine trO_bld (cs := [.int .i64 18, .int .i64 a27, .int .i64 r30.1, .int .i64 0, .int .u64 0]) (ps := [(0, 1, .int .i64 18), (1, 1, .int .i64 a27), (2, 1, .int .i64 r30.1)]) rfl rfl rfl rfl ?_
                                    refine trO_bldS ([(TInstr.mk 18 a27 r30.1 0 0)] : List TInstr) eInstr rfl rfl rfl (by simp) rfl rfl rfl ?_
                                    refine trO_chk fun hq => ?_
                                    refine trO_app (out26) (([(TInstr.mk 18 a27 r30.1 0 0)] : List TInstr)) eInstr rfl rfl rfl rfl rfl rfl rfl (by simp) (take_drop0_map' _ _ rfl) rfl rfl (by simp) (take_len_map' _ _ rfl) (fun _ => rfl) rfl hq ?_
                                    refine trO_asg_own (l := out26 ++ ([(TInstr.mk 18 a27 r30.1 0 0)] : List TInstr)) (en := eInstr) rfl rfl rfl rfl ?_
                                    refine trO_nil ?_
                                    refine trX_blk_normal ?_
                                    refine trX_seq ?_
                                    refine tr_reg ?_
                                    refine trO_mv rfl rfl ?_
                                    refine trO_bin (v := .int .i64 (IntKind.i64.wrap (a27 + 1))) rfl rfl rfl rfl rfl ?_
                                    refine trO_asg rfl rfl ?_
                                    refine trO_nil ?_
                                    exact trX_loop (s := (r30.2.list, r30.2.at_, out26 ++ ([(TInstr.mk 18 a27 r30.1 0 0)] : List TInstr), IntKind.i64.wrap (a27 + 1))) _ (has_exact ⟨rfl, rfl, rfl, rfl, rfl, trivial⟩ ⟨rfl, rfl, trivial⟩)
                                  ·
                                    refine tr_skip ?_
                                    refine trX_blk_normal ?_
                                    refine trX_seq ?_
                                    refine tr_reg ?_
                                    refine trO_mv rfl rfl ?_
                                    refine trO_bin (v := .int .i64 (IntKind.i64.wrap (a27 + 1))) rfl rfl rfl rfl rfl ?_
                                    refine trO_asg rfl rfl ?_
                                    refine trO_nil ?_
                                    exact trX_loop (s := (r29.2.list, r29.2.at_, out26, IntKind.i64.wrap (a27 + 1))) _ (has_exact ⟨rfl, rfl, rfl, rfl, rfl, trivial⟩ ⟨rfl, rfl, trivial⟩)
                                ·
                                  refine tr_exit ?_
                                  refine trX_seq_exit ?_
                                  refine trX_loop_exit ?_
                                  refine trX_blk_here ?_
                                  refine trX_seq ?_
                                  refine tr_seq ?_
                                  refine tr_reg ?_
                                  refine trO_mv rfl rfl ?_
                                  refine trO_mv rfl rfl ?_
                                  refine trO_bld (cs := [.int .i64 22, .int .i64 (IntKind.i64.wrap ((IntKind.i64.wrap (i3 + 1)) + r23.1)), .int .i64 0, .int .i64 0, .int .u64 0]) (ps := [(0, 1, .int .i64 22), (1, 1, .int .i64 (IntKind.i64.wrap ((IntKind.i64.wrap (i3 + 1)) + r23.1)))]) rfl rfl rfl rfl ?_
                                  refine trO_bldS ([(TInstr.mk 22 (IntKind.i64.wrap ((IntKind.i64.wrap (i3 + 1)) + r23.1)) 0 0 0)] : List TInstr) eInstr rfl rfl rfl (by simp) rfl rfl rfl ?_
                                  refine trO_chk fun hq => ?_
                                  refine trO_app (out26) (([(TInstr.mk 22 (IntKind.i64.wrap ((IntKind.i64.wrap (i3 + 1)) + r23.1)) 0 0 0)] : List TInstr)) eInstr rfl rfl rfl rfl rfl rfl rfl (by simp) (take_drop0_map' _ _ rfl) rfl rfl (by simp) (take_len_map' _ _ rfl) (fun _ => rfl) rfl hq ?_
                                  refine trO_asg_own (l := out26 ++ ([(TInstr.mk 22 (IntKind.i64.wrap ((IntKind.i64.wrap (i3 + 1)) + r23.1)) 0 0 0)] : List TInstr)) (en := eInstr) rfl rfl rfl rfl ?_
                                  refine trO_nil ?_
                                  refine trX_seq ?_
                                  refine tr_ret ?_
                                  refine trX_bcut_ret ?_
                                  exact ret_row (b := (out26 ++ ([(TInstr.mk 22 (IntKind.i64.wrap ((IntKind.i64.wrap (i3 + 1)) + r23.1)) 0 0 0)] : List TInstr), (Tdraw_Codes.mk c24 c25))) rfl (by first | (simp; done) | (simp; omega)) rfl rfl (by first | (simp; done) | (simp; omega)) rfl (by first | (simp; done) | (simp; omega)) (congrArg D.sl (take_len_map' _ _ rfl)) rfl
                              ·
                                refine tr_skip ?_
                                exact trX_bcut_normal (s := ()) () (has_exact ⟨rfl, trivial⟩ ⟨rfl, trivial⟩)
  ·
    rintro ⟨⟩ ⟨⟩ nn
    show Tr _ _ _ ⟨[(9, .int .i64 r5.1)], [(0, some (0, ⟨false, true, 2, 80, [.agg [.sl (r6.2.list.map eU8), .int .i64 r6.2.at_]]⟩))], _⟩ (draw_Codes_body_j1 r5 r6)
    unfold draw_Codes_body_j1
    refine tr_seq ?_
    refine tr_reg ?_
    refine trO_mv rfl rfl ?_
    refine trO_bld (cs := [.int .i64 14, .int .i64 r5.1, .int .i64 0, .int .i64 0, .int .u64 0]) (ps := [(0, 1, .int .i64 14), (1, 1, .int .i64 r5.1)]) rfl rfl rfl rfl ?_
    refine trO_bldS ([(TInstr.mk 14 r5.1 0 0 0)] : List TInstr) eInstr rfl rfl rfl (by simp) rfl rfl rfl ?_
    refine trO_asg_own (l := ([(TInstr.mk 14 r5.1 0 0 0)] : List TInstr)) (en := eInstr) rfl rfl rfl rfl ?_
    refine trO_nil ?_
    refine trX_seq ?_
    refine tr_ret ?_
    exact ret_row (b := (([(TInstr.mk 14 r5.1 0 0 0)] : List TInstr), r6.2)) rfl (by first | (simp; done) | (simp; omega)) rfl rfl (by first | (simp; done) | (simp; omega)) rfl (by first | (simp; done) | (simp; omega)) (congrArg D.sl (take_len_map' _ _ rfl)) rfl

end Go.Proofs.Ytlphpepmbcbmiaa
