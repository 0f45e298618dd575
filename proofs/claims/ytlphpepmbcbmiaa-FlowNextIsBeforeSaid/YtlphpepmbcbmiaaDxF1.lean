/-
  Programs on typed data, and the proofs that the code does what they say; written by a program (dx.py).
-/
import Derived.Test.YtlphpepmbcbmiaaProg
import Derived.Test.YtlphpepmbcbmiaaDx6
import Derived.Test.YtlphpepmbcbmiaaDy1
import Derived.KernelRfl
import Derived.Test.YtlphpepmbcbmiaaSh
import Derived.Test.YtlphpepmbcbmiaaDxP
namespace Go.Proofs.Ytlphpepmbcbmiaa
open Go Go.Dw Go.Proofs
set_option maxRecDepth 100000
def dc40 : DCode := (.seq (.reg [⟨(some 2), (.asg (.c (.bool false)) none), none, []⟩] false) (.seq (.reg [⟨(some 3), (.mv (.t 0)), none, []⟩, ⟨(some 4), (.bin .eql (.t 3) (.c (.int .i64 20))), none, []⟩, ⟨(some 5), (.mv (.t 4)), none, []⟩, ⟨(some 6), (.mv (.t 0)), (some ⟨5, false⟩), []⟩, ⟨(some 7), (.bin .eql (.t 6) (.c (.int .i64 23))), (some ⟨5, false⟩), []⟩, ⟨(some 8), (.pick (.t 5) (.c (.bool true)) (.t 7)), none, []⟩, ⟨(some 9), (.mv (.t 8)), none, []⟩, ⟨(some 10), (.mv (.t 0)), (some ⟨9, false⟩), []⟩, ⟨(some 11), (.bin .eql (.t 10) (.c (.int .i64 24))), (some ⟨9, false⟩), []⟩, ⟨(some 12), (.pick (.t 9) (.c (.bool true)) (.t 11)), none, []⟩, ⟨(some 2), (.asg (.t 12) none), none, []⟩] false) .ret))
theorem dc40_c : (Try.f40.body.bind (cCode Try.prog Try.f40.ntmps)) = some dc40 := by kernel_rfl
theorem dc40_r : Try.f40.results.toList.mapM (cRes Try.prog) = some [(.t 2)] := by kernel_rfl
def sir_Terminator_enc (a : Int) : List D := [.int .i64 a]
def sir_Terminator_dec (ds : List D) : Int := uI (ds.getD 0 .top)
theorem sir_Terminator_de (a : Int) : sir_Terminator_dec (sir_Terminator_enc a) = a := by simp [sir_Terminator_dec, sir_Terminator_enc, uI, uBo, uS]
def sir_Terminator_R (b : Bool) : D := .bool b
def sir_Terminator_E (_b : Bool) : List D := []
noncomputable def sir_Terminator_S : Dw.Spec := fSpec [] .ground sir_Terminator_enc sir_Terminator_dec (fun a => sir_Terminator a) sir_Terminator_R sir_Terminator_E
set_option maxHeartbeats 4000000 in
theorem sir_Terminator_ok : SpecOk Try.prog 40 sir_Terminator_S := by
  refine fn_ok (specs_nil) Try.func40 (by decide) dc40_c dc40_r (np := 1) (by decide) sir_Terminator_de (fun _ => rfl) (fun _ => rfl) (by decide) ?_
  intro op1
  show TrE (specs []) dc40 (kRet [] .ground [(.t 2)] sir_Terminator_R sir_Terminator_E) ⟨[(0, .int .i64 op1)], [], 262144⟩ (sir_Terminator op1)
  refine tr_ent ?_
  unfold dc40 sir_Terminator
  refine tr_seq ?_
  refine tr_reg ?_
  refine trO_asg rfl rfl ?_
  refine trO_nil ?_
  refine trX_seq ?_
  refine tr_seq ?_
  refine tr_reg ?_
  refine trO_mv rfl rfl ?_
  refine trO_bin (v := .bool (op1 == 20)) rfl rfl rfl rfl rfl ?_
  refine trO_mv rfl rfl ?_
  refine trO_split 5 (b := (op1 == 20)) rfl ?_ ?_
  ·
    refine trO_off rfl ?_
    refine trO_off rfl ?_
    refine trO_pick_true rfl rfl rfl rfl ?_
    refine trO_mv rfl rfl ?_
    refine trO_off rfl ?_
    refine trO_off rfl ?_
    refine trO_pick_true rfl rfl rfl rfl ?_
    refine trO_asg rfl rfl ?_
    refine trO_nil ?_
    refine trX_seq ?_
    refine tr_ret ?_
    exact ret_ground (b := true) rfl (by first | (simp; done) | (simp; omega)) rfl rfl (by first | (simp; done) | (simp; omega)) rfl
  ·
    refine trO_mv rfl rfl ?_
    refine trO_bin (v := .bool (op1 == 23)) rfl rfl rfl rfl rfl ?_
    refine trO_pick_false rfl rfl rfl rfl ?_
    refine trO_mv rfl rfl ?_
    refine trO_split 9 (b := (op1 == 23)) rfl ?_ ?_
    ·
      refine trO_off rfl ?_
      refine trO_off rfl ?_
      refine trO_pick_true rfl rfl rfl rfl ?_
      refine trO_asg rfl rfl ?_
      refine trO_nil ?_
      refine trX_seq ?_
      refine tr_ret ?_
      exact ret_ground (b := true) rfl (by first | (simp; done) | (simp; omega)) rfl rfl (by first | (simp; done) | (simp; omega)) rfl
    ·
      refine trO_mv rfl rfl ?_
      refine trO_bin (v := .bool (op1 == 24)) rfl rfl rfl rfl rfl ?_
      refine trO_pick_false rfl rfl rfl rfl ?_
      refine trO_asg rfl rfl ?_
      refine trO_nil ?_
      refine trX_seq ?_
      refine tr_ret ?_
      exact ret_ground (b := (op1 == 24)) rfl (by first | (simp; done) | (simp; omega)) rfl rfl (by first | (simp; done) | (simp; omega)) rfl

def dc15 : DCode := (.seq (.reg [⟨(some 2), (.box (.t 0) 3 27), none, []⟩, ⟨(some 4), (.asg (.c .nils) (some ⟨1, 3⟩)), none, []⟩] false) (.seq (.seq (.reg [⟨(some 7), (.mv (.t 1)), none, []⟩, ⟨(some 8), (.bin .lss (.t 7) (.c (.int .i64 0))), none, []⟩, ⟨(some 9), (.mv (.t 8)), none, []⟩, ⟨(some 10), (.mv (.t 1)), (some ⟨9, false⟩), []⟩, ⟨(some 11), (.fldA 2 (.t 2)), (some ⟨9, false⟩), []⟩, ⟨(some 12), (.ld 1 false (.t 11)), (some ⟨9, false⟩), []⟩, ⟨(some 13), (.len false (.t 12)), (some ⟨9, false⟩), []⟩, ⟨(some 14), (.bin .geq (.t 10) (.t 13)), (some ⟨9, false⟩), []⟩, ⟨(some 15), (.pick (.t 9) (.c (.bool true)) (.t 14)), none, []⟩] false) (.cond (.t 15) (.seq (.reg [⟨(some 4), (.asg (.c .nils) (some ⟨1, 3⟩)), none, []⟩] false) .ret) .skip)) (.seq (.reg [⟨(some 5), (.asg (.c .nils) (some ⟨1, 3⟩)), none, []⟩] false) (.seq (.reg [⟨(some 16), (.fldA 2 (.t 2)), none, []⟩, ⟨(some 17), (.ld 1 false (.t 16)), none, []⟩, ⟨(some 18), (.mv (.t 1)), none, []⟩, ⟨(some 19), (.ixA 5 (.t 17) (.t 18)), none, []⟩, ⟨(some 20), (.ld 5 true (.t 19)), none, []⟩, ⟨(some 6), (.new (.agg [(.int .i64 0), (.int .i64 0), (.int .i64 0), (.int .i64 0), (.int .u64 0)]) 5 52), none, []⟩, ⟨none, (.st 5 (.t 6) (.t 20)), none, []⟩] false) (.seq (.seq (.reg [⟨(some 21), (.fldA 0 (.t 6)), none, []⟩, ⟨(some 22), (.ld 1 false (.t 21)), none, []⟩, ⟨(some 23), (.call (.c (.clo 40 [])) [(.t 22)]), none, []⟩, ⟨(some 24), (.un .not (.t 23)), none, []⟩] false) (.cond (.t 24) (.reg [⟨(some 25), (.mv (.t 5)), none, []⟩, ⟨(some 26), (.mv (.t 1)), none, []⟩, ⟨(some 27), (.bin .add (.t 26) (.c (.int .i64 1))), none, []⟩, ⟨(some 28), (.bldS 1 3 (.int .i64 0) 1 [⟨0, (.t 27)⟩]), none, []⟩, ⟨(some 29), (.app 1 3 8 (.t 25) (.t 28)), none, []⟩, ⟨(some 5), (.asg (.t 29) (some ⟨1, 3⟩)), none, []⟩] false) .skip)) (.seq (.seq (.reg [⟨(some 30), (.fldA 0 (.t 6)), none, []⟩, ⟨(some 31), (.ld 1 false (.t 30)), none, []⟩] false) (.block 0 (.seq (.reg [⟨(some 33), (.bin .eql (.t 31) (.c (.int .i64 20))), none, []⟩, ⟨(some 32), (.asg (.t 33) none), none, []⟩] false) (.cond (.t 32) (.reg [⟨(some 34), (.mv (.t 5)), none, []⟩, ⟨(some 35), (.fldA 1 (.t 6)), none, []⟩, ⟨(some 36), (.ld 1 false (.t 35)), none, []⟩, ⟨(some 37), (.bldS 1 3 (.int .i64 0) 1 [⟨0, (.t 36)⟩]), none, []⟩, ⟨(some 38), (.app 1 3 8 (.t 34) (.t 37)), none, []⟩, ⟨(some 5), (.asg (.t 38) (some ⟨1, 3⟩)), none, []⟩] false) (.seq (.reg [⟨(some 40), (.bin .eql (.t 31) (.c (.int .i64 21))), none, []⟩, ⟨(some 39), (.asg (.t 40) none), none, []⟩] false) (.cond (.t 39) (.reg [⟨(some 41), (.mv (.t 5)), none, []⟩, ⟨(some 42), (.fldA 2 (.t 6)), none, []⟩, ⟨(some 43), (.ld 1 false (.t 42)), none, []⟩, ⟨(some 44), (.bldS 1 3 (.int .i64 0) 1 [⟨0, (.t 43)⟩]), none, []⟩, ⟨(some 45), (.app 1 3 8 (.t 41) (.t 44)), none, []⟩, ⟨(some 5), (.asg (.t 45) (some ⟨1, 3⟩)), none, []⟩] false) .skip)))))) (.seq (.reg [⟨(some 46), (.mv (.t 5)), none, []⟩, ⟨(some 47), (.call (.c (.clo 41 [])) [(.t 46)]), none, []⟩] false) (.seq (.reg [⟨(some 48), (.mv (.t 5)), none, []⟩, ⟨(some 49), (.call (.c (.clo 42 [])) [(.t 48)]), none, []⟩, ⟨(some 4), (.asg (.t 49) (some ⟨1, 3⟩)), none, []⟩] false) .ret))))))))
theorem dc15_c : (Try.f15.body.bind (cCode Try.prog Try.f15.ntmps)) = some dc15 := by kernel_rfl
theorem dc15_r : Try.f15.results.toList.mapM (cRes Try.prog) = some [(.t 4)] := by kernel_rfl
def flow_Next_enc (a : TFunc × Int) : List D := [eFunc a.1, .int .i64 a.2]
def flow_Next_dec (ds : List D) : TFunc × Int := (uFunc (ds.getD 0 .top), uI (ds.getD 1 .top))
theorem flow_Next_de (a : TFunc × Int) : flow_Next_dec (flow_Next_enc a) = a := by simp [flow_Next_dec, flow_Next_enc, uI, uBo, uS]
def flow_Next_R (b : (List Int)) : D := .sl (b.map eI64)
def flow_Next_E (_b : (List Int)) : List D := []
noncomputable def flow_Next_S : Dw.Spec := fSpec [] (.row 1 3) flow_Next_enc flow_Next_dec (fun a => flow_Next a.1 a.2) flow_Next_R flow_Next_E
set_option maxHeartbeats 4000000 in
theorem flow_Next_ok : SpecOk Try.prog 15 flow_Next_S := by
  refine fn_ok (specs_ok (l := [(40, sir_Terminator_S), (41, slices_Sort_int_int_S), (42, slices_Compact_int_int_S)]) (by simp [sir_Terminator_ok, slices_Sort_int_int_ok, slices_Compact_int_int_ok])) Try.func15 (by decide) dc15_c dc15_r (np := 2) (by decide) flow_Next_de (fun _ => rfl) (fun _ => rfl) (by decide) ?_
  rintro ⟨f1, k2⟩
  show TrE (specs [(40, sir_Terminator_S), (41, slices_Sort_int_int_S), (42, slices_Compact_int_int_S)]) dc15 (kRet [] (.row 1 3) [(.t 4)] flow_Next_R flow_Next_E) ⟨[(0, .agg [.int .i64 f1.Params, .sl (f1.Slots.map eSlot), .sl (f1.Code.map eInstr)]), (1, .int .i64 k2)], [], 262144⟩ (flow_Next f1 k2)
  refine tr_ent ?_
  unfold dc15 flow_Next
  refine tr_seq ?_
  refine tr_reg ?_
  refine trO_box rfl rfl rfl rfl rfl ?_
  refine trO_asg_nil (α := Int) rfl eI64 rfl ?_
  refine trO_nil ?_
  refine trX_seq ?_
  refine tr_seq_cut (E := fun (s : Unit) (g : Nat) => [(1, .int .i64 k2), (2, .optr 2 g 0 0)]) (O := fun s g => [(2, some (g, ⟨false, true, 3, 27, [.agg [.int .i64 f1.Params, .sl (f1.Slots.map eSlot), .sl (f1.Code.map eInstr)]]⟩))]) (j := fun s => flow_Next_j1 f1 k2) ?_ ?_
  ·
    refine tr_seq ?_
    refine tr_reg ?_
    refine trO_mv rfl rfl ?_
    refine trO_bin (v := .bool (decide (k2 < 0))) rfl rfl rfl rfl rfl ?_
    refine trO_mv rfl rfl ?_
    refine trO_split 9 (b := (decide (k2 < 0))) rfl ?_ ?_
    ·
      refine trO_off rfl ?_
      refine trO_off rfl ?_
      refine trO_off rfl ?_
      refine trO_off rfl ?_
      refine trO_off rfl ?_
      refine trO_pick_true rfl rfl rfl rfl ?_
      refine trO_nil ?_
      refine trX_seq ?_
      refine tr_cond_true rfl ?_
      refine tr_seq ?_
      refine tr_reg ?_
      refine trO_asg_nil (α := Int) rfl eI64 rfl ?_
      refine trO_nil ?_
      refine trX_seq ?_
      refine tr_ret ?_
      refine trX_cut_ret ?_
      exact ret_row (b := ([] : List Int)) rfl (by first | (simp; done) | (simp; omega)) rfl rfl (by first | (simp; done) | (simp; omega)) rfl (by first | (simp; done) | (simp; omega)) (congrArg D.sl (take_len_map' _ _ rfl)) rfl
    ·
      refine trO_mv rfl rfl ?_
      refine trO_fldA rfl rfl ?_
      refine trO_ld_obj (v := .sl (f1.Code.map eInstr)) (z := .agg [.int .i64 f1.Params, .sl (f1.Slots.map eSlot), .sl (f1.Code.map eInstr)]) rfl rfl rfl rfl rfl rfl ?_
      refine trO_len_sl rfl rfl ?_
      refine trO_bin (v := .bool (decide (k2 ≥ (f1.Code.length : Int)))) rfl rfl rfl rfl rfl ?_
      refine trO_pick_false rfl rfl rfl rfl ?_
      refine trO_nil ?_
      refine trX_seq ?_
      refine tr_cond (c := (decide (k2 ≥ (f1.Code.length : Int)))) rfl ?_ ?_
      ·
        refine tr_seq ?_
        refine tr_reg ?_
        refine trO_asg_nil (α := Int) rfl eI64 rfl ?_
        refine trO_nil ?_
        refine trX_seq ?_
        refine tr_ret ?_
        refine trX_cut_ret ?_
        exact ret_row (b := ([] : List Int)) rfl (by first | (simp; done) | (simp; omega)) rfl rfl (by first | (simp; done) | (simp; omega)) rfl (by first | (simp; done) | (simp; omega)) (congrArg D.sl (take_len_map' _ _ rfl)) rfl
      ·
        refine tr_skip ?_
        exact trX_cut (s := ()) _ ((has_exact ⟨rfl, rfl, trivial⟩ ⟨rfl, trivial⟩))
  ·
    rintro ⟨⟩ v2 nn
    show Tr _ _ _ ⟨[(1, .int .i64 k2), (2, .optr 2 v2 0 0)], [(2, some (v2, ⟨false, true, 3, 27, [.agg [.int .i64 f1.Params, .sl (f1.Slots.map eSlot), .sl (f1.Code.map eInstr)]]⟩))], _⟩ (flow_Next_j1 f1 k2)
    unfold flow_Next_j1
    refine tr_seq ?_
    refine tr_reg ?_
    refine trO_asg_nil (α := Int) rfl eI64 rfl ?_
    refine trO_nil ?_
    refine trX_seq ?_
    refine tr_seq ?_
    refine tr_reg ?_
    refine trO_fldA rfl rfl ?_
    refine trO_ld_obj (v := .sl (f1.Code.map eInstr)) (z := .agg [.int .i64 f1.Params, .sl (f1.Slots.map eSlot), .sl (f1.Code.map eInstr)]) rfl rfl rfl rfl rfl rfl ?_
    refine trO_mv rfl rfl ?_
    refine trO_bind fun x_x3 hx_x3 => ?_
    refine trO_ixA_sl (en := eInstr) rfl rfl rfl hx_x3 rfl ?_
    refine trO_ld_f (v := .agg [.int .i64 x_x3.Op, .int .i64 x_x3.A, .int .i64 x_x3.B, .int .i64 x_x3.C, .int .u64 x_x3.Imm]) rfl rfl rfl rfl ?_
    refine trO_new rfl ?_
    refine trO_st_var (z' := .agg [.int .i64 x_x3.Op, .int .i64 x_x3.A, .int .i64 x_x3.B, .int .i64 x_x3.C, .int .u64 x_x3.Imm]) rfl rfl rfl rfl rfl rfl rfl rfl rfl ?_
    refine trO_nil ?_
    refine trX_seq ?_
    refine tr_seq_cut (E := fun (s : (List Int)) (g : Nat × Nat) => [(5, .osl 5 g.1 0 s.length), (6, .optr 6 g.2 0 0)]) (O := fun s g => [(5, some (g.1, ⟨false, false, 1, 3, s.map eI64⟩)), (6, some (g.2, ⟨false, true, 5, 52, [.agg [.int .i64 x_x3.Op, .int .i64 x_x3.A, .int .i64 x_x3.B, .int .i64 x_x3.C, .int .u64 x_x3.Imm]]⟩))]) (j := fun s => flow_Next_j2 x_x3 s) ?_ ?_
    ·
      refine tr_seq ?_
      refine tr_reg ?_
      refine trO_fldA rfl rfl ?_
      refine trO_ld_obj (v := .int .i64 x_x3.Op) (z := .agg [.int .i64 x_x3.Op, .int .i64 x_x3.A, .int .i64 x_x3.B, .int .i64 x_x3.C, .int .u64 x_x3.Imm]) rfl rfl rfl rfl rfl rfl ?_
      refine trO_bind fun r5 hr5 => ?_
      refine trO_call_ground x_x3.Op rfl rfl rfl sir_Terminator_de rfl rfl (by simp) rfl hr5 rfl ?_
      refine trO_un (w := .bool (!r5)) rfl rfl rfl rfl trivial ?_
      refine trO_nil ?_
      refine trX_seq ?_
      refine tr_cond (c := (!r5)) rfl ?_ ?_
      ·
        refine tr_reg ?_
        refine trO_mv rfl rfl ?_
        refine trO_mv rfl rfl ?_
        refine trO_bin (v := .int .i64 (IntKind.i64.wrap (k2 + 1))) rfl rfl rfl rfl rfl ?_
        refine trO_bldS ([IntKind.i64.wrap (k2 + 1)] : List Int) eI64 rfl rfl rfl (by simp) rfl rfl rfl ?_
        refine trO_chk fun hq => ?_
        refine trO_app (([] : List Int)) (([IntKind.i64.wrap (k2 + 1)] : List Int)) eI64 rfl rfl rfl rfl rfl rfl rfl (by simp) (take_drop0_map' _ _ rfl) rfl rfl (by simp) (take_len_map' _ _ rfl) (fun _ => rfl) rfl hq ?_
        refine trO_asg_own (l := ([] : List Int) ++ ([IntKind.i64.wrap (k2 + 1)] : List Int)) (en := eI64) rfl rfl rfl rfl ?_
        refine trO_nil ?_
        exact trX_cut (s := ([] : List Int) ++ ([IntKind.i64.wrap (k2 + 1)] : List Int)) (_, _) ((has_exact ⟨rfl, rfl, trivial⟩ ⟨rfl, rfl, trivial⟩))
      ·
        refine tr_skip ?_
        exact trX_cut (s := ([] : List Int)) (_, _) ((has_exact ⟨rfl, rfl, trivial⟩ ⟨rfl, rfl, trivial⟩))
    ·
      rintro l4 ⟨v5, v6⟩ nn
      show Tr _ _ _ ⟨[(5, .osl 5 v5 0 l4.length), (6, .optr 6 v6 0 0)], [(5, some (v5, ⟨false, false, 1, 3, l4.map eI64⟩)), (6, some (v6, ⟨false, true, 5, 52, [.agg [.int .i64 x_x3.Op, .int .i64 x_x3.A, .int .i64 x_x3.B, .int .i64 x_x3.C, .int .u64 x_x3.Imm]]⟩))], _⟩ (flow_Next_j2 x_x3 l4)
      unfold flow_Next_j2
      refine tr_seq ?_
      refine tr_seq ?_
      refine tr_reg ?_
      refine trO_fldA rfl rfl ?_
      refine trO_ld_obj (v := .int .i64 x_x3.Op) (z := .agg [.int .i64 x_x3.Op, .int .i64 x_x3.A, .int .i64 x_x3.B, .int .i64 x_x3.C, .int .u64 x_x3.Imm]) rfl rfl rfl rfl rfl rfl ?_
      refine trO_nil ?_
      refine trX_seq ?_
      refine tr_block ?_
      refine tr_seq ?_
      refine tr_reg ?_
      refine trO_bin (v := .bool (x_x3.Op == 20)) rfl rfl rfl rfl rfl ?_
      refine trO_asg rfl rfl ?_
      refine trO_nil ?_
      refine trX_seq ?_
      refine tr_cond (c := (x_x3.Op == 20)) rfl ?_ ?_
      ·
        refine tr_reg ?_
        refine trO_mv rfl rfl ?_
        refine trO_fldA rfl rfl ?_
        refine trO_ld_obj (v := .int .i64 x_x3.A) (z := .agg [.int .i64 x_x3.Op, .int .i64 x_x3.A, .int .i64 x_x3.B, .int .i64 x_x3.C, .int .u64 x_x3.Imm]) rfl rfl rfl rfl rfl rfl ?_
        refine trO_bldS ([x_x3.A] : List Int) eI64 rfl rfl rfl (by simp) rfl rfl rfl ?_
        refine trO_chk fun hq => ?_
        refine trO_app (l4) (([x_x3.A] : List Int)) eI64 rfl rfl rfl rfl rfl rfl rfl (by simp) (take_drop0_map' _ _ rfl) rfl rfl (by simp) (take_len_map' _ _ rfl) (fun _ => rfl) rfl hq ?_
        refine trO_asg_own (l := l4 ++ ([x_x3.A] : List Int)) (en := eI64) rfl rfl rfl rfl ?_
        refine trO_nil ?_
        refine trX_blk_normal ?_
        refine trX_seq ?_
        refine tr_seq ?_
        refine tr_reg ?_
        refine trO_mv rfl rfl ?_
        refine trO_chk fun hq => ?_
        refine trO_inpl_d (l := l4 ++ ([x_x3.A] : List Int)) (l' := sortI (l4 ++ ([x_x3.A] : List Int))) rfl rfl rfl rfl rfl rfl rfl hq rfl ?_
        refine trO_nil ?_
        refine trX_seq ?_
        refine tr_seq ?_
        refine tr_reg ?_
        refine trO_mv rfl rfl ?_
        refine trO_chk fun hq => ?_
        refine trO_inpl_cut (l := sortI (l4 ++ ([x_x3.A] : List Int))) (l' := Lib.compact (sortI (l4 ++ ([x_x3.A] : List Int)))) rfl rfl rfl rfl rfl (by simp) rfl hq (compactIn_take _) rfl ?_
        refine trO_asg_own (l := Lib.compact (sortI (l4 ++ ([x_x3.A] : List Int)))) (en := eI64) rfl rfl rfl rfl ?_
        refine trO_nil ?_
        refine trX_seq ?_
        refine tr_ret ?_
        exact ret_row (b := Lib.compact (sortI (l4 ++ ([x_x3.A] : List Int)))) rfl (by first | (simp; done) | (simp; omega)) rfl rfl (by first | (simp; done) | (simp; omega)) rfl (by first | (simp; done) | (simp; omega)) (congrArg D.sl (take_len_map' _ _ rfl)) rfl
      ·
        refine tr_seq ?_
        refine tr_reg ?_
        refine trO_bin (v := .bool (x_x3.Op == 21)) rfl rfl rfl rfl rfl ?_
        refine trO_asg rfl rfl ?_
        refine trO_nil ?_
        refine trX_seq ?_
        refine tr_cond (c := (x_x3.Op == 21)) rfl ?_ ?_
        ·
          refine tr_reg ?_
          refine trO_mv rfl rfl ?_
          refine trO_fldA rfl rfl ?_
          refine trO_ld_obj (v := .int .i64 x_x3.B) (z := .agg [.int .i64 x_x3.Op, .int .i64 x_x3.A, .int .i64 x_x3.B, .int .i64 x_x3.C, .int .u64 x_x3.Imm]) rfl rfl rfl rfl rfl rfl ?_
          refine trO_bldS ([x_x3.B] : List Int) eI64 rfl rfl rfl (by simp) rfl rfl rfl ?_
          refine trO_chk fun hq => ?_
          refine trO_app (l4) (([x_x3.B] : List Int)) eI64 rfl rfl rfl rfl rfl rfl rfl (by simp) (take_drop0_map' _ _ rfl) rfl rfl (by simp) (take_len_map' _ _ rfl) (fun _ => rfl) rfl hq ?_
          refine trO_asg_own (l := l4 ++ ([x_x3.B] : List Int)) (en := eI64) rfl rfl rfl rfl ?_
          refine trO_nil ?_
          refine trX_blk_normal ?_
          refine trX_seq ?_
          refine tr_seq ?_
          refine tr_reg ?_
          refine trO_mv rfl rfl ?_
          refine trO_chk fun hq => ?_
          refine trO_inpl_d (l := l4 ++ ([x_x3.B] : List Int)) (l' := sortI (l4 ++ ([x_x3.B] : List Int))) rfl rfl rfl rfl rfl rfl rfl hq rfl ?_
          refine trO_nil ?_
          refine trX_seq ?_
          refine tr_seq ?_
          refine tr_reg ?_
          refine trO_mv rfl rfl ?_
          refine trO_chk fun hq => ?_
          refine trO_inpl_cut (l := sortI (l4 ++ ([x_x3.B] : List Int))) (l' := Lib.compact (sortI (l4 ++ ([x_x3.B] : List Int)))) rfl rfl rfl rfl rfl (by simp) rfl hq (compactIn_take _) rfl ?_
          refine trO_asg_own (l := Lib.compact (sortI (l4 ++ ([x_x3.B] : List Int)))) (en := eI64) rfl rfl rfl rfl ?_
          refine trO_nil ?_
          refine trX_seq ?_
          refine tr_ret ?_
          exact ret_row (b := Lib.compact (sortI (l4 ++ ([x_x3.B] : List Int)))) rfl (by first | (simp; done) | (simp; omega)) rfl rfl (by first | (simp; done) | (simp; omega)) rfl (by first | (simp; done) | (simp; omega)) (congrArg D.sl (take_len_map' _ _ rfl)) rfl
        ·
          refine tr_skip ?_
          refine trX_blk_normal ?_
          refine trX_seq ?_
          refine tr_seq ?_
          refine tr_reg ?_
          refine trO_mv rfl rfl ?_
          refine trO_chk fun hq => ?_
          refine trO_inpl_d (l := l4) (l' := sortI l4) rfl rfl rfl rfl rfl rfl rfl hq rfl ?_
          refine trO_nil ?_
          refine trX_seq ?_
          refine tr_seq ?_
          refine tr_reg ?_
          refine trO_mv rfl rfl ?_
          refine trO_chk fun hq => ?_
          refine trO_inpl_cut (l := sortI l4) (l' := Lib.compact (sortI l4)) rfl rfl rfl rfl rfl (by simp) rfl hq (compactIn_take _) rfl ?_
          refine trO_asg_own (l := Lib.compact (sortI l4)) (en := eI64) rfl rfl rfl rfl ?_
          refine trO_nil ?_
          refine trX_seq ?_
          refine tr_ret ?_
          exact ret_row (b := Lib.compact (sortI l4)) rfl (by first | (simp; done) | (simp; omega)) rfl rfl (by first | (simp; done) | (simp; omega)) rfl (by first | (simp; done) | (simp; omega)) (congrArg D.sl (take_len_map' _ _ rfl)) rfl

def dc12 : DCode := (.seq (.reg [⟨(some 0), (.asg (.c (.bool false)) none), none, []⟩] false) (.seq (.reg [⟨(some 2), (.bld [(.int .i64 0), (.int .i64 0), (.int .i64 0), (.int .i64 0), (.int .u64 0)] [⟨0, ⟨1, (.c (.int .i64 20))⟩⟩, ⟨1, ⟨1, (.c (.int .i64 1))⟩⟩]), none, []⟩, ⟨(some 3), (.bld [(.int .i64 0), (.int .i64 0), (.int .i64 0), (.int .i64 0), (.int .u64 0)] [⟨0, ⟨1, (.c (.int .i64 23))⟩⟩]), none, []⟩, ⟨(some 4), (.bldS 5 52 (.agg [(.int .i64 0), (.int .i64 0), (.int .i64 0), (.int .i64 0), (.int .u64 0)]) 2 [⟨0, (.t 2)⟩, ⟨1, (.t 3)⟩]), none, []⟩, ⟨(some 5), (.bld [(.int .i64 0), .nils, .nils] [⟨2, ⟨1, (.t 4)⟩⟩]), none, []⟩, ⟨(some 6), (.call (.c (.clo 15 [])) [(.t 5), (.c (.int .i64 0))]), none, []⟩, ⟨(some 1), (.asg (.t 6) (some ⟨1, 3⟩)), none, []⟩] false) (.seq (.reg [⟨(some 7), (.mv (.t 1)), none, []⟩, ⟨(some 8), (.len false (.t 7)), none, []⟩, ⟨(some 9), (.bin .eql (.t 8) (.c (.int .i64 1))), none, []⟩, ⟨(some 10), (.mv (.t 9)), none, []⟩, ⟨(some 11), (.mv (.t 1)), (some ⟨10, true⟩), []⟩, ⟨(some 12), (.ixA 1 (.t 11) (.c (.int .i64 0))), (some ⟨10, true⟩), []⟩, ⟨(some 13), (.ld 1 false (.t 12)), (some ⟨10, true⟩), []⟩, ⟨(some 14), (.bin .eql (.t 13) (.c (.int .i64 1))), (some ⟨10, true⟩), []⟩, ⟨(some 15), (.pick (.t 10) (.t 14) (.c (.bool false))), none, []⟩, ⟨(some 0), (.asg (.t 15) none), none, []⟩] false) .ret)))
theorem dc12_c : (Try.f12.body.bind (cCode Try.prog Try.f12.ntmps)) = some dc12 := by kernel_rfl
theorem dc12_r : Try.f12.results.toList.mapM (cRes Try.prog) = some [(.t 0)] := by kernel_rfl
def law13_awake_enc (a : Unit) : List D := []
def law13_awake_dec (ds : List D) : Unit := ()
theorem law13_awake_de (a : Unit) : law13_awake_dec (law13_awake_enc a) = a := by simp [law13_awake_dec, law13_awake_enc, uI, uBo, uS]
def law13_awake_R (b : Bool) : D := .bool b
def law13_awake_E (_b : Bool) : List D := []
noncomputable def law13_awake_S : Dw.Spec := fSpec [] .ground law13_awake_enc law13_awake_dec (fun a => law13_awake) law13_awake_R law13_awake_E
set_option maxHeartbeats 4000000 in
theorem law13_awake_ok : SpecOk Try.prog 12 law13_awake_S := by
  refine fn_ok (specs_ok (l := [(15, flow_Next_S)]) (by simp [flow_Next_ok])) Try.func12 (by decide) dc12_c dc12_r (np := 0) (by decide) law13_awake_de (fun _ => rfl) (fun _ => rfl) (by decide) ?_
  intro _
  show TrE (specs [(15, flow_Next_S)]) dc12 (kRet [] .ground [(.t 0)] law13_awake_R law13_awake_E) ⟨[], [], 262144⟩ (law13_awake)
  refine tr_ent ?_
  unfold dc12 law13_awake
  refine tr_seq ?_
  refine tr_reg ?_
  refine trO_asg rfl rfl ?_
  refine trO_nil ?_
  refine trX_seq ?_
  refine tr_seq ?_
  refine tr_reg ?_
  refine trO_bld (cs := [.int .i64 20, .int .i64 1, .int .i64 0, .int .i64 0, .int .u64 0]) (ps := [(0, 1, .int .i64 20), (1, 1, .int .i64 1)]) rfl rfl rfl rfl ?_
  refine trO_bld (cs := [.int .i64 23, .int .i64 0, .int .i64 0, .int .i64 0, .int .u64 0]) (ps := [(0, 1, .int .i64 23)]) rfl rfl rfl rfl ?_
  refine trO_bldS ([(TInstr.mk 20 1 0 0 0), (TInstr.mk 23 0 0 0 0)] : List TInstr) eInstr rfl rfl rfl (by simp) rfl rfl rfl ?_
  refine trO_bld (cs := [.int .i64 0, .nils, .osl 4 _ 0 (([(TInstr.mk 20 1 0 0 0), (TInstr.mk 23 0 0 0 0)] : List TInstr).length)]) (ps := [(2, 1, .osl 4 _ 0 (([(TInstr.mk 20 1 0 0 0), (TInstr.mk 23 0 0 0 0)] : List TInstr).length))]) rfl rfl rfl rfl ?_
  refine trO_bind fun r1 hr1 => ?_
  refine trO_call_row (l := r1) (en := eI64) ((TFunc.mk 0 ([]) ([(TInstr.mk 20 1 0 0 0), (TInstr.mk 23 0 0 0 0)] : List TInstr)), 0) rfl rfl rfl flow_Next_de rfl rfl (by simp) (by first | rfl | (simp only [take_drop0_map, take_sub_map]; rfl) | simp [flow_Next_enc, eFunc]) hr1 rfl ?_
  refine trO_asg_own (l := r1) (en := eI64) rfl rfl rfl rfl ?_
  refine trO_nil ?_
  refine trX_seq ?_
  refine tr_seq ?_
  refine tr_reg ?_
  refine trO_mv rfl rfl ?_
  refine trO_len_own rfl rfl ?_
  refine trO_bin (v := .bool ((r1.length : Int) == 1)) rfl rfl rfl rfl rfl ?_
  refine trO_mv rfl rfl ?_
  refine trO_split 10 (b := ((r1.length : Int) == 1)) rfl ?_ ?_
  ·
    refine trO_mv rfl rfl ?_
    refine trO_chk fun hq => ?_
    refine trO_ixA_own (l := r1) (en := eI64) rfl rfl rfl rfl rfl hq ?_
    refine trO_bind fun l_e2 hl_e2 => ?_
    refine trO_ld_obj (v := .int .i64 l_e2) (z := eI64 l_e2) rfl rfl rfl (map_get hl_e2) rfl rfl ?_
    refine trO_bin (v := .bool (l_e2 == 1)) rfl rfl rfl rfl rfl ?_
    refine trO_pick_true rfl rfl rfl rfl ?_
    refine trO_asg rfl rfl ?_
    refine trO_nil ?_
    refine trX_seq ?_
    refine tr_ret ?_
    exact ret_ground (b := (l_e2 == 1)) rfl (by first | (simp; done) | (simp; omega)) rfl rfl (by first | (simp; done) | (simp; omega)) rfl
  ·
    refine trO_off rfl ?_
    refine trO_off rfl ?_
    refine trO_off rfl ?_
    refine trO_off rfl ?_
    refine trO_pick_false rfl rfl rfl rfl ?_
    refine trO_asg rfl rfl ?_
    refine trO_nil ?_
    refine trX_seq ?_
    refine tr_ret ?_
    exact ret_ground (b := false) rfl (by first | (simp; done) | (simp; omega)) rfl rfl (by first | (simp; done) | (simp; omega)) rfl

def dc37 : DCode := (.seq (.reg [⟨(some 4), (.asg (.c .top) none), none, []⟩] false) (.seq (.reg [⟨(some 5), (.mv (.t 0)), none, []⟩, ⟨(some 6), (.mv (.t 0)), none, []⟩, ⟨(some 7), (.len false (.t 6)), none, []⟩, ⟨(some 8), (.mv (.t 1)), none, []⟩, ⟨(some 9), (.min [(.t 7), (.t 8)]), none, []⟩, ⟨(some 10), (.slc 1 (.t 5) none (some (.t 9))), none, []⟩, ⟨(some 11), (.bld [.nils, (.int .i64 0)] [⟨0, ⟨1, (.t 10)⟩⟩]), none, []⟩, ⟨(some 12), (.box (.t 11) 2 80), none, []⟩, ⟨(some 4), (.asg (.t 12) none), none, []⟩] false) .ret))
theorem dc37_c : (Try.f37.body.bind (cCode Try.prog Try.f37.ntmps)) = some dc37 := by kernel_rfl
theorem dc37_r : Try.f37.results.toList.mapM (cRes Try.prog) = some [(.t 4)] := by kernel_rfl
def draw_New_enc (a : (List Int) × Int) : List D := [.sl (a.1.map eU8), .int .i64 a.2]
def draw_New_dec (ds : List D) : (List Int) × Int := ((uL uI) (ds.getD 0 .top), uI (ds.getD 1 .top))
theorem draw_New_de (a : (List Int) × Int) : draw_New_dec (draw_New_enc a) = a := by simp [draw_New_dec, draw_New_enc, uI, uBo, uS, uL_e (u := uI) (en := eU8) (fun _ => rfl)]
def draw_New_R (b : Tdraw_Codes) : D := edraw_Codes b
def draw_New_E (_b : Tdraw_Codes) : List D := []
noncomputable def draw_New_S : Dw.Spec := fSpec [] (.ptr 2 80) draw_New_enc draw_New_dec (fun a => draw_New a.1 a.2) draw_New_R draw_New_E
set_option maxHeartbeats 4000000 in
theorem draw_New_ok : SpecOk Try.prog 37 draw_New_S := by
  refine fn_ok (specs_nil) Try.func37 (by decide) dc37_c dc37_r (np := 2) (by decide) draw_New_de (fun _ => rfl) (fun _ => rfl) (by decide) ?_
  rintro ⟨list1, limit2⟩
  show TrE (specs []) dc37 (kRet [] (.ptr 2 80) [(.t 4)] draw_New_R draw_New_E) ⟨[(0, .sl (list1.map eU8)), (1, .int .i64 limit2)], [], 262144⟩ (draw_New list1 limit2)
  refine tr_ent ?_
  unfold dc37 draw_New
  refine tr_seq ?_
  refine tr_reg ?_
  refine trO_asg rfl rfl ?_
  refine trO_nil ?_
  refine trX_seq ?_
  refine tr_seq ?_
  refine tr_reg ?_
  refine trO_mv rfl rfl ?_
  refine trO_mv rfl rfl ?_
  refine trO_len_sl rfl rfl ?_
  refine trO_mv rfl rfl ?_
  refine trO_min rfl rfl rfl ?_
  refine trO_chk fun hq => ?_
  refine trO_slc_sl_hi (l := list1) (en := eU8) rfl rfl rfl (fun _ => rfl) rfl hq ?_
  refine trO_bld (cs := [.sl ((list1.take (minI (list1.length : Int) limit2).toNat).map eU8), .int .i64 0]) (ps := [(0, 1, .sl ((list1.take (minI (list1.length : Int) limit2).toNat).map eU8))]) rfl rfl rfl rfl ?_
  refine trO_box rfl rfl rfl rfl rfl ?_
  refine trO_asg rfl rfl ?_
  refine trO_nil ?_
  refine trX_seq ?_
  refine tr_ret ?_
  exact ret_ptr (b := (Tdraw_Codes.mk (list1.take (minI (list1.length : Int) limit2).toNat) 0)) rfl (by first | (simp; done) | (simp; omega)) rfl (by first | (simp; done) | (simp; omega)) rfl rfl (by first | (simp; done) | (simp; omega)) rfl

def dc56 : DCode := (.seq (.reg [⟨(some 2), (.asg (.c (.bool false)) none), none, []⟩] false) (.seq (.reg [⟨(some 3), (.mv (.t 0)), none, []⟩, ⟨(some 4), (.nilck (.t 3)), none, [0]⟩, ⟨(some 5), (.fldA 1 (.t 4)), none, [1]⟩, ⟨(some 6), (.ld 1 false (.t 5)), none, [2]⟩, ⟨(some 7), (.mv (.t 0)), none, []⟩, ⟨(some 8), (.nilck (.t 7)), none, [4]⟩, ⟨(some 9), (.fldA 0 (.t 8)), none, [5]⟩, ⟨(some 10), (.ld 1 false (.t 9)), none, [6]⟩, ⟨(some 11), (.len false (.t 10)), none, [7]⟩, ⟨(some 12), (.bin .lss (.t 6) (.t 11)), none, [3, 8]⟩, ⟨(some 2), (.asg (.t 12) none), none, [9, 0, 1, 2, 3, 4, 5, 6, 7, 8, 9]⟩] true) .ret))
theorem dc56_c : (Try.f56.body.bind (cCode Try.prog Try.f56.ntmps)) = some dc56 := by kernel_rfl
theorem dc56_r : Try.f56.results.toList.mapM (cRes Try.prog) = some [(.t 2)] := by kernel_rfl
def draw_Codes_Left_enc (a : Tdraw_Codes) : List D := [edraw_Codes a]
def draw_Codes_Left_dec (ds : List D) : Tdraw_Codes := udraw_Codes (ds.getD 0 .top)
theorem draw_Codes_Left_de (a : Tdraw_Codes) : draw_Codes_Left_dec (draw_Codes_Left_enc a) = a := by simp [draw_Codes_Left_dec, draw_Codes_Left_enc, uI, uBo, uS]
def draw_Codes_Left_R (b : Bool × Tdraw_Codes) : D := .bool b.1
def draw_Codes_Left_E (b : Bool × Tdraw_Codes) : List D := [edraw_Codes b.2]
noncomputable def draw_Codes_Left_S : Dw.Spec := fSpec [(0, (2, 80))] .val draw_Codes_Left_enc draw_Codes_Left_dec (fun a => draw_Codes_Left a) draw_Codes_Left_R draw_Codes_Left_E
set_option maxHeartbeats 4000000 in
theorem draw_Codes_Left_ok : SpecOk Try.prog 56 draw_Codes_Left_S := by
  refine fn_ok (specs_nil) Try.func56 (by decide) dc56_c dc56_r (np := 1) (by decide) draw_Codes_Left_de (fun _ => rfl) (fun _ => rfl) (by decide) ?_
  intro c1
  show TrE (specs []) dc56 (kRet [(0, (2, 80))] .val [(.t 2)] draw_Codes_Left_R draw_Codes_Left_E) ⟨[(0, .optr 8192 0 0 0)], [(8192, some (0, ⟨false, true, 2, 80, [.agg [.sl (c1.list.map eU8), .int .i64 c1.at_]]⟩))], 262144⟩ (draw_Codes_Left c1)
  refine tr_ent ?_
  unfold dc56 draw_Codes_Left
  refine tr_seq ?_
  refine tr_reg ?_
  refine trO_asg rfl rfl ?_
  refine trO_nil ?_
  refine trX_seq ?_
  refine tr_seq ?_
  refine tr_reg ?_
  refine trO_mv rfl rfl ?_
  refine trO_nilck rfl rfl rfl ?_
  refine trO_fldA rfl rfl ?_
  refine trO_ld_obj (v := .int .i64 c1.at_) (z := .agg [.sl (c1.list.map eU8), .int .i64 c1.at_]) rfl rfl rfl rfl rfl rfl ?_
  refine trO_mv rfl rfl ?_
  refine trO_nilck rfl rfl rfl ?_
  refine trO_fldA rfl rfl ?_
  refine trO_ld_obj (v := .sl (c1.list.map eU8)) (z := .agg [.sl (c1.list.map eU8), .int .i64 c1.at_]) rfl rfl rfl rfl rfl rfl ?_
  refine trO_len_sl rfl rfl ?_
  refine trO_bin (v := .bool (decide (c1.at_ < (c1.list.length : Int)))) rfl rfl rfl rfl rfl ?_
  refine trO_asg rfl rfl ?_
  refine trO_nil_draw (by kernel_rfl) ?_
  refine trX_seq ?_
  refine tr_ret ?_
  exact ret_val (b := ((decide (c1.at_ < (c1.list.length : Int))), c1)) rfl (by first | (simp; done) | (simp; omega)) rfl rfl (by first | (simp; done) | (simp; omega)) rfl

def dc39 : DCode := (.seq (.reg [⟨(some 4), (.asg (.c (.int .i64 0)) none), none, []⟩] false) (.seq (.seq (.reg [⟨(some 6), (.mv (.t 0)), none, []⟩, ⟨(some 7), (.call (.c (.clo 56 [])) [(.t 6)]), none, []⟩, ⟨(some 8), (.un .not (.t 7)), none, []⟩, ⟨(some 9), (.mv (.t 8)), none, []⟩, ⟨(some 10), (.mv (.t 1)), (some ⟨9, false⟩), []⟩, ⟨(some 11), (.bin .lss (.t 10) (.c (.int .i64 1))), (some ⟨9, false⟩), []⟩, ⟨(some 12), (.pick (.t 9) (.c (.bool true)) (.t 11)), none, []⟩] false) (.cond (.t 12) (.seq (.reg [⟨(some 4), (.asg (.c (.int .i64 0)) none), none, []⟩] false) .ret) .skip)) (.seq (.reg [⟨(some 13), (.mv (.t 0)), none, []⟩, ⟨(some 14), (.nilck (.t 13)), none, [0]⟩, ⟨(some 15), (.fldA 0 (.t 14)), none, [1]⟩, ⟨(some 16), (.ld 1 false (.t 15)), none, [2]⟩, ⟨(some 17), (.mv (.t 0)), none, []⟩, ⟨(some 18), (.nilck (.t 17)), none, [4]⟩, ⟨(some 19), (.fldA 1 (.t 18)), none, [5]⟩, ⟨(some 20), (.ld 1 false (.t 19)), none, [6]⟩, ⟨(some 21), (.ixA 1 (.t 16) (.t 20)), none, [3, 7]⟩, ⟨(some 22), (.ld 1 false (.t 21)), none, [8]⟩, ⟨(some 23), (.cvt .i64 (.t 22)), none, [9]⟩, ⟨(some 5), (.asg (.t 23) none), none, [10, 0, 1, 2, 3, 4, 5, 6, 7, 8, 9, 10]⟩] true) (.seq (.reg [⟨(some 24), (.mv (.t 0)), none, []⟩, ⟨(some 25), (.nilck (.t 24)), none, []⟩, ⟨(some 26), (.fldA 1 (.t 25)), none, []⟩, ⟨(some 27), (.ld 1 false (.t 26)), none, []⟩, ⟨(some 28), (.bin .add (.t 27) (.c (.int .i64 1))), none, []⟩, ⟨(some 29), (.nilck (.t 24)), none, []⟩, ⟨(some 30), (.fldA 1 (.t 29)), none, []⟩, ⟨none, (.st 1 (.t 30) (.t 28)), none, []⟩] false) (.seq (.reg [⟨(some 31), (.mv (.t 5)), none, []⟩, ⟨(some 32), (.mv (.t 1)), none, []⟩, ⟨(some 33), (.bin .mul (.t 31) (.t 32)), none, []⟩, ⟨(some 34), (.bin .quo (.t 33) (.c (.int .i64 256))), none, []⟩, ⟨(some 4), (.asg (.t 34) none), none, []⟩] false) .ret)))))
theorem dc39_c : (Try.f39.body.bind (cCode Try.prog Try.f39.ntmps)) = some dc39 := by kernel_rfl
theorem dc39_r : Try.f39.results.toList.mapM (cRes Try.prog) = some [(.t 4)] := by kernel_rfl
def draw_Codes_Next_enc (a : Tdraw_Codes × Int) : List D := [edraw_Codes a.1, .int .i64 a.2]
def draw_Codes_Next_dec (ds : List D) : Tdraw_Codes × Int := (udraw_Codes (ds.getD 0 .top), uI (ds.getD 1 .top))
theorem draw_Codes_Next_de (a : Tdraw_Codes × Int) : draw_Codes_Next_dec (draw_Codes_Next_enc a) = a := by simp [draw_Codes_Next_dec, draw_Codes_Next_enc, uI, uBo, uS]
def draw_Codes_Next_R (b : Int × Tdraw_Codes) : D := .int .i64 b.1
def draw_Codes_Next_E (b : Int × Tdraw_Codes) : List D := [edraw_Codes b.2]
noncomputable def draw_Codes_Next_S : Dw.Spec := fSpec [(0, (2, 80))] .val draw_Codes_Next_enc draw_Codes_Next_dec (fun a => draw_Codes_Next a.1 a.2) draw_Codes_Next_R draw_Codes_Next_E
set_option maxHeartbeats 4000000 in
theorem draw_Codes_Next_ok : SpecOk Try.prog 39 draw_Codes_Next_S := by
  refine fn_ok (specs_ok (l := [(56, draw_Codes_Left_S)]) (by simp [draw_Codes_Left_ok])) Try.func39 (by decide) dc39_c dc39_r (np := 2) (by decide) draw_Codes_Next_de (fun _ => rfl) (fun _ => rfl) (by decide) ?_
  rintro ⟨c1, n2⟩
  show TrE (specs [(56, draw_Codes_Left_S)]) dc39 (kRet [(0, (2, 80))] .val [(.t 4)] draw_Codes_Next_R draw_Codes_Next_E) ⟨[(0, .optr 8192 0 0 0), (1, .int .i64 n2)], [(8192, some (0, ⟨false, true, 2, 80, [.agg [.sl (c1.list.map eU8), .int .i64 c1.at_]]⟩))], 262144⟩ (draw_Codes_Next c1 n2)
  refine tr_ent ?_
  unfold dc39 draw_Codes_Next
  refine tr_seq ?_
  refine tr_reg ?_
  refine trO_asg rfl rfl ?_
  refine trO_nil ?_
  refine trX_seq ?_
  refine tr_seq_cut (E := fun (s : (List Int) × Int) (g : Unit) => [(0, .optr 8192 0 0 0), (1, .int .i64 n2)]) (O := fun s g => [(8192, some (0, ⟨false, true, 2, 80, [.agg [.sl (s.1.map eU8), .int .i64 s.2]]⟩))]) (j := fun s => draw_Codes_Next_j1 n2 s.1 s.2) ?_ ?_
  ·
    refine tr_seq ?_
    refine tr_reg ?_
    refine trO_mv rfl rfl ?_
    refine trO_bind fun r5 hr5 => ?_
    refine trO_call_val c1 rfl rfl rfl draw_Codes_Left_de rfl rfl (by simp) rfl hr5 ?_
    refine trO_un (w := .bool (!r5.1)) rfl rfl rfl rfl trivial ?_
    refine trO_mv rfl rfl ?_
    refine trO_split 9 (b := (!r5.1)) rfl ?_ ?_
    ·
      refine trO_off rfl ?_
      refine trO_off rfl ?_
      refine trO_pick_true rfl rfl rfl rfl ?_
      refine trO_nil ?_
      refine trX_seq ?_
      refine tr_cond_true rfl ?_
      refine tr_seq ?_
      refine tr_reg ?_
      refine trO_asg rfl rfl ?_
      refine trO_nil ?_
      refine trX_seq ?_
      refine tr_ret ?_
      refine trX_cut_ret ?_
      exact ret_val (b := (0, r5.2)) rfl (by first | (simp; done) | (simp; omega)) rfl rfl (by first | (simp; done) | (simp; omega)) rfl
    ·
      refine trO_mv rfl rfl ?_
      refine trO_bin (v := .bool (decide (n2 < 1))) rfl rfl rfl rfl rfl ?_
      refine trO_pick_false rfl rfl rfl rfl ?_
      refine trO_nil ?_
      refine trX_seq ?_
      refine tr_cond (c := (decide (n2 < 1))) rfl ?_ ?_
      ·
        refine tr_seq ?_
        refine tr_reg ?_
        refine trO_asg rfl rfl ?_
        refine trO_nil ?_
        refine trX_seq ?_
        refine tr_ret ?_
        refine trX_cut_ret ?_
        exact ret_val (b := (0, r5.2)) rfl (by first | (simp; done) | (simp; omega)) rfl rfl (by first | (simp; done) | (simp; omega)) rfl
      ·
        refine tr_skip ?_
        exact trX_cut (s := (r5.2.list, r5.2.at_)) () ((has_exact ⟨rfl, rfl, trivial⟩ ⟨rfl, trivial⟩))
  ·
    rintro ⟨c3, c4⟩ ⟨⟩ nn
    show Tr _ _ _ ⟨[(0, .optr 8192 0 0 0), (1, .int .i64 n2)], [(8192, some (0, ⟨false, true, 2, 80, [.agg [.sl (c3.map eU8), .int .i64 c4]]⟩))], _⟩ (draw_Codes_Next_j1 n2 c3 c4)
    unfold draw_Codes_Next_j1
    refine tr_seq ?_
    refine tr_reg ?_
    refine trO_mv rfl rfl ?_
    refine trO_nilck rfl rfl rfl ?_
    refine trO_fldA rfl rfl ?_
    refine trO_ld_obj (v := .sl (c3.map eU8)) (z := .agg [.sl (c3.map eU8), .int .i64 c4]) rfl rfl rfl rfl rfl rfl ?_
    refine trO_mv rfl rfl ?_
    refine trO_nilck rfl rfl rfl ?_
    refine trO_fldA rfl rfl ?_
    refine trO_ld_obj (v := .int .i64 c4) (z := .agg [.sl (c3.map eU8), .int .i64 c4]) rfl rfl rfl rfl rfl rfl ?_
    refine trO_bind fun x_x6 hx_x6 => ?_
    refine trO_ixA_sl (en := eU8) rfl rfl rfl hx_x6 rfl ?_
    refine trO_ld_f (v := .int .u8 x_x6) rfl rfl rfl rfl ?_
    refine trO_cvt rfl rfl ?_
    refine trO_asg rfl rfl ?_
    refine trO_nil_draw (by kernel_rfl) ?_
    refine trX_seq ?_
    refine tr_seq ?_
    refine tr_reg ?_
    refine trO_mv rfl rfl ?_
    refine trO_nilck rfl rfl rfl ?_
    refine trO_fldA rfl rfl ?_
    refine trO_ld_obj (v := .int .i64 c4) (z := .agg [.sl (c3.map eU8), .int .i64 c4]) rfl rfl rfl rfl rfl rfl ?_
    refine trO_bin (v := .int .i64 (IntKind.i64.wrap (c4 + 1))) rfl rfl rfl rfl rfl ?_
    refine trO_nilck rfl rfl rfl ?_
    refine trO_fldA rfl rfl ?_
    refine trO_st_rich (i := 0) (es' := [.agg [.sl (c3.map eU8), .int .i64 (IntKind.i64.wrap (c4 + 1))]]) rfl rfl rfl rfl rfl rfl rfl (by first | trivial | (simp; done) | (simp; omega)) rfl rfl rfl rfl rfl rfl ?_
    refine trO_nil ?_
    refine trX_seq ?_
    refine tr_seq ?_
    refine tr_reg ?_
    refine trO_mv rfl rfl ?_
    refine trO_mv rfl rfl ?_
    refine trO_bin (v := .int .i64 (IntKind.i64.wrap ((IntKind.i64.wrap (x_x6)) * n2))) rfl rfl rfl rfl rfl ?_
    refine trO_bin (v := .int .i64 (IntKind.i64.wrap ((IntKind.i64.wrap ((IntKind.i64.wrap (x_x6)) * n2)).tdiv 256))) rfl rfl rfl rfl ⟨rfl, (by decide)⟩ ?_
    refine trO_asg rfl rfl ?_
    refine trO_nil ?_
    refine trX_seq ?_
    refine tr_ret ?_
    exact ret_val (b := (IntKind.i64.wrap ((IntKind.i64.wrap ((IntKind.i64.wrap (x_x6)) * n2)).tdiv 256), (Tdraw_Codes.mk c3 (IntKind.i64.wrap (c4 + 1))))) rfl (by first | (simp; done) | (simp; omega)) rfl rfl (by first | (simp; done) | (simp; omega)) rfl

def dc77 : DCode := (.seq (.reg [⟨(some 2), (.new (.agg [(.int .i64 0), (.int .i64 0)]) 2 109), none, []⟩] false) (.seq (.reg [⟨(some 3), (.bldS 1 3 (.int .i64 0) 7 [⟨0, (.c (.int .i64 8))⟩, ⟨1, (.c (.int .i64 4))⟩, ⟨2, (.c (.int .i64 8))⟩, ⟨3, (.c (.int .i64 1))⟩, ⟨4, (.c (.int .i64 2))⟩, ⟨5, (.c (.int .i64 16))⟩, ⟨6, (.c (.int .i64 8))⟩]), none, []⟩, ⟨(some 4), (.mv (.t 0)), none, []⟩, ⟨(some 5), (.call (.c (.clo 39 [])) [(.t 4), (.c (.int .i64 7))]), none, [1]⟩, ⟨(some 6), (.ixA 1 (.t 3) (.t 5)), none, [0, 2]⟩, ⟨(some 7), (.ld 1 false (.t 6)), none, [3]⟩, ⟨(some 8), (.bldS 1 3 (.int .i64 0) 8 [⟨0, (.c (.int .i64 8))⟩, ⟨1, (.c (.int .i64 4))⟩, ⟨2, (.c (.int .i64 1))⟩, ⟨3, (.c (.int .i64 8))⟩, ⟨4, (.c (.int .i64 16))⟩, ⟨5, (.c (.int .i64 2))⟩, ⟨6, (.c (.int .i64 32))⟩, ⟨7, (.c (.int .i64 64))⟩]), none, []⟩, ⟨(some 9), (.mv (.t 0)), none, []⟩, ⟨(some 10), (.call (.c (.clo 39 [])) [(.t 9), (.c (.int .i64 8))]), none, [6, 2]⟩, ⟨(some 11), (.ixA 1 (.t 8) (.t 10)), none, [5, 7]⟩, ⟨(some 12), (.ld 1 false (.t 11)), none, [8]⟩, ⟨(some 13), (.bld [(.int .i64 0), (.int .i64 0)] [⟨0, ⟨1, (.t 7)⟩⟩, ⟨1, ⟨1, (.t 12)⟩⟩]), none, [4, 9]⟩, ⟨none, (.st 2 (.t 2) (.t 13)), none, [10, 7, 0, 1, 2, 3, 4, 5, 6, 7, 8, 9, 10]⟩] true) .ret))
theorem dc77_c : (Try.f77.body.bind (cCode Try.prog Try.f77.ntmps)) = some dc77 := by kernel_rfl
theorem dc77_r : Try.f77.results.toList.mapM (cRes Try.prog) = some [(.c 2 2 true)] := by kernel_rfl
def draw_Codes_Slot_enc (a : Tdraw_Codes) : List D := [edraw_Codes a]
def draw_Codes_Slot_dec (ds : List D) : Tdraw_Codes := udraw_Codes (ds.getD 0 .top)
theorem draw_Codes_Slot_de (a : Tdraw_Codes) : draw_Codes_Slot_dec (draw_Codes_Slot_enc a) = a := by simp [draw_Codes_Slot_dec, draw_Codes_Slot_enc, uI, uBo, uS]
def draw_Codes_Slot_R (b : TSlot × Tdraw_Codes) : D := eSlot b.1
def draw_Codes_Slot_E (b : TSlot × Tdraw_Codes) : List D := [edraw_Codes b.2]
noncomputable def draw_Codes_Slot_S : Dw.Spec := fSpec [(0, (2, 80))] .val draw_Codes_Slot_enc draw_Codes_Slot_dec (fun a => draw_Codes_Slot a) draw_Codes_Slot_R draw_Codes_Slot_E
set_option maxHeartbeats 4000000 in
theorem draw_Codes_Slot_ok : SpecOk Try.prog 77 draw_Codes_Slot_S := by
  refine fn_ok (specs_ok (l := [(39, draw_Codes_Next_S)]) (by simp [draw_Codes_Next_ok])) Try.func77 (by decide) dc77_c dc77_r (np := 1) (by decide) draw_Codes_Slot_de (fun _ => rfl) (fun _ => rfl) (by decide) ?_
  intro c1
  show TrE (specs [(39, draw_Codes_Next_S)]) dc77 (kRet [(0, (2, 80))] .val [(.c 2 2 true)] draw_Codes_Slot_R draw_Codes_Slot_E) ⟨[(0, .optr 8192 0 0 0)], [(8192, some (0, ⟨false, true, 2, 80, [.agg [.sl (c1.list.map eU8), .int .i64 c1.at_]]⟩))], 262144⟩ (draw_Codes_Slot c1)
  refine tr_ent ?_
  unfold dc77 draw_Codes_Slot
  refine tr_seq ?_
  refine tr_reg ?_
  refine trO_new rfl ?_
  refine trO_nil ?_
  refine trX_seq ?_
  refine tr_seq ?_
  refine tr_reg ?_
  refine trO_bldS ([8, 4, 8, 1, 2, 16, 8] : List Int) eI64 rfl rfl rfl (by simp) rfl rfl rfl ?_
  refine trO_mv rfl rfl ?_
  refine trO_bind fun r2 hr2 => ?_
  refine trO_call_val (c1, 7) rfl rfl rfl draw_Codes_Next_de rfl rfl (by simp) rfl hr2 ?_
  refine trO_chk fun hq => ?_
  refine trO_ixA_own (l := ([8, 4, 8, 1, 2, 16, 8] : List Int)) (en := eI64) rfl rfl rfl rfl rfl hq ?_
  refine trO_bind fun x_e3 hx_e3 => ?_
  refine trO_ld_obj (v := .int .i64 x_e3) (z := eI64 x_e3) rfl rfl rfl (map_get hx_e3) rfl rfl ?_
  refine trO_bldS ([8, 4, 1, 8, 16, 2, 32, 64] : List Int) eI64 rfl rfl rfl (by simp) rfl rfl rfl ?_
  refine trO_mv rfl rfl ?_
  refine trO_bind fun r4 hr4 => ?_
  refine trO_call_val (r2.2, 8) rfl rfl rfl draw_Codes_Next_de rfl rfl (by simp) rfl hr4 ?_
  refine trO_chk fun hq => ?_
  refine trO_ixA_own (l := ([8, 4, 1, 8, 16, 2, 32, 64] : List Int)) (en := eI64) rfl rfl rfl rfl rfl hq ?_
  refine trO_bind fun x_e5 hx_e5 => ?_
  refine trO_ld_obj (v := .int .i64 x_e5) (z := eI64 x_e5) rfl rfl rfl (map_get hx_e5) rfl rfl ?_
  refine trO_bld (cs := [.int .i64 x_e3, .int .i64 x_e5]) (ps := [(0, 1, .int .i64 x_e3), (1, 1, .int .i64 x_e5)]) rfl rfl rfl rfl ?_
  refine trO_st_var (z' := .agg [.int .i64 x_e3, .int .i64 x_e5]) rfl rfl rfl rfl rfl rfl rfl rfl rfl ?_
  refine trO_nil_draw (by kernel_rfl) ?_
  refine trX_seq ?_
  refine tr_ret ?_
  exact ret_val (b := ((TSlot.mk x_e3 x_e5), r4.2)) rfl (by first | (simp; done) | (simp; omega)) rfl rfl (by first | (simp; done) | (simp; omega)) rfl

def dc61 : DCode := (.seq (.reg [⟨(some 4), (.asg (.c .nils) (some ⟨2, 109⟩)), none, []⟩] false) (.seq (.reg [⟨(some 5), (.asg (.c .nils) (some ⟨2, 109⟩)), none, []⟩] false) (.seq (.seq (.reg [⟨(some 7), (.mv (.t 0)), none, []⟩, ⟨(some 8), (.mv (.t 1)), none, []⟩, ⟨(some 9), (.bin .add (.t 8) (.c (.int .i64 1))), none, []⟩, ⟨(some 10), (.call (.c (.clo 39 [])) [(.t 7), (.t 9)]), none, []⟩, ⟨(some 6), (.asg (.t 10) none), none, []⟩] false) (.block 0 (.loop (.seq (.seq (.reg [⟨(some 11), (.mv (.t 6)), none, []⟩, ⟨(some 12), (.bin .gtr (.t 11) (.c (.int .i64 0))), none, []⟩] false) (.cond (.t 12) .skip (.exit 0))) (.seq (.block 1 (.reg [⟨(some 15), (.mv (.t 5)), none, []⟩, ⟨(some 16), (.mv (.t 0)), none, []⟩, ⟨(some 17), (.call (.c (.clo 77 [])) [(.t 16)]), none, []⟩, ⟨(some 18), (.bldS 2 109 (.agg [(.int .i64 0), (.int .i64 0)]) 1 [⟨0, (.t 17)⟩]), none, []⟩, ⟨(some 19), (.app 2 109 16 (.t 15) (.t 18)), none, []⟩, ⟨(some 5), (.asg (.t 19) (some ⟨2, 109⟩)), none, []⟩] false)) (.reg [⟨(some 13), (.mv (.t 6)), none, []⟩, ⟨(some 14), (.bin .sub (.t 13) (.c (.int .i64 1))), none, []⟩, ⟨(some 6), (.asg (.t 14) none), none, []⟩] false)))))) (.seq (.reg [⟨(some 20), (.mv (.t 5)), none, []⟩, ⟨(some 4), (.asg (.t 20) (some ⟨2, 109⟩)), none, []⟩] false) .ret))))
theorem dc61_c : (Try.f61.body.bind (cCode Try.prog Try.f61.ntmps)) = some dc61 := by kernel_rfl
theorem dc61_r : Try.f61.results.toList.mapM (cRes Try.prog) = some [(.t 4)] := by kernel_rfl
def draw_Codes_Slots_enc (a : Tdraw_Codes × Int) : List D := [edraw_Codes a.1, .int .i64 a.2]
def draw_Codes_Slots_dec (ds : List D) : Tdraw_Codes × Int := (udraw_Codes (ds.getD 0 .top), uI (ds.getD 1 .top))
theorem draw_Codes_Slots_de (a : Tdraw_Codes × Int) : draw_Codes_Slots_dec (draw_Codes_Slots_enc a) = a := by simp [draw_Codes_Slots_dec, draw_Codes_Slots_enc, uI, uBo, uS]
def draw_Codes_Slots_R (b : (List TSlot) × Tdraw_Codes) : D := .sl (b.1.map eSlot)
def draw_Codes_Slots_E (b : (List TSlot) × Tdraw_Codes) : List D := [edraw_Codes b.2]
noncomputable def draw_Codes_Slots_S : Dw.Spec := fSpec [(0, (2, 80))] (.row 2 109) draw_Codes_Slots_enc draw_Codes_Slots_dec (fun a => draw_Codes_Slots a.1 a.2) draw_Codes_Slots_R draw_Codes_Slots_E
set_option maxHeartbeats 4000000 in
theorem draw_Codes_Slots_ok : SpecOk Try.prog 61 draw_Codes_Slots_S := by
  refine fn_ok (specs_ok (l := [(39, draw_Codes_Next_S), (77, draw_Codes_Slot_S)]) (by simp [draw_Codes_Next_ok, draw_Codes_Slot_ok])) Try.func61 (by decide) dc61_c dc61_r (np := 2) (by decide) draw_Codes_Slots_de (fun _ => rfl) (fun _ => rfl) (by decide) ?_
  rintro ⟨c1, most2⟩
  show TrE (specs [(39, draw_Codes_Next_S), (77, draw_Codes_Slot_S)]) dc61 (kRet [(0, (2, 80))] (.row 2 109) [(.t 4)] draw_Codes_Slots_R draw_Codes_Slots_E) ⟨[(0, .optr 8192 0 0 0), (1, .int .i64 most2)], [(8192, some (0, ⟨false, true, 2, 80, [.agg [.sl (c1.list.map eU8), .int .i64 c1.at_]]⟩))], 262144⟩ (draw_Codes_Slots c1 most2)
  refine tr_ent ?_
  unfold dc61 draw_Codes_Slots
  refine tr_seq ?_
  refine tr_reg ?_
  refine trO_asg_nil (α := TSlot) rfl eSlot rfl ?_
  refine trO_nil ?_
  refine trX_seq ?_
  refine tr_seq ?_
  refine tr_reg ?_
  refine trO_asg_nil (α := TSlot) rfl eSlot rfl ?_
  refine trO_nil ?_
  refine trX_seq ?_
  refine tr_seq ?_
  refine tr_seq ?_
  refine tr_reg ?_
  refine trO_mv rfl rfl ?_
  refine trO_mv rfl rfl ?_
  refine trO_bin (v := .int .i64 (IntKind.i64.wrap (most2 + 1))) rfl rfl rfl rfl rfl ?_
  refine trO_bind fun r3 hr3 => ?_
  refine trO_call_val (c1, IntKind.i64.wrap (most2 + 1)) rfl rfl rfl draw_Codes_Next_de rfl rfl (by simp) rfl hr3 ?_
  refine trO_asg rfl rfl ?_
  refine trO_nil ?_
  refine trX_seq ?_
  refine tr_block ?_
  refine tr_loop (E := fun (s : (List Int) × Int × (List TSlot) × Int) (g : Nat) => [(0, .optr 8192 0 0 0), (5, .osl 5 g 0 s.2.2.1.length), (6, .int .i64 s.2.2.2)]) (O := fun s g => [(5, some (g, ⟨false, false, 2, 109, s.2.2.1.map eSlot⟩)), (8192, some (0, ⟨false, true, 2, 80, [.agg [.sl (s.1.map eU8), .int .i64 s.2.1]]⟩))]) (body := fun s => draw_Codes_Slots_b1 s.1 s.2.1 s.2.2.1 s.2.2.2) (s := (r3.2.list, r3.2.at_, ([] : List TSlot), r3.1)) _ ((has_exact ⟨rfl, rfl, rfl, trivial⟩ ⟨rfl, rfl, trivial⟩)) ?_
  rintro ⟨c4, c5, l6, n7⟩ v5 nn
  show Tr _ _ _ ⟨[(0, .optr 8192 0 0 0), (5, .osl 5 v5 0 l6.length), (6, .int .i64 n7)], [(5, some (v5, ⟨false, false, 2, 109, l6.map eSlot⟩)), (8192, some (0, ⟨false, true, 2, 80, [.agg [.sl (c4.map eU8), .int .i64 c5]]⟩))], _⟩ (draw_Codes_Slots_b1 c4 c5 l6 n7)
  unfold draw_Codes_Slots_b1
  refine tr_seq ?_
  refine tr_seq ?_
  refine tr_reg ?_
  refine trO_mv rfl rfl ?_
  refine trO_bin (v := .bool (decide (n7 > 0))) rfl rfl rfl rfl rfl ?_
  refine trO_nil ?_
  refine trX_seq ?_
  refine tr_cond (c := (decide (n7 > 0))) rfl ?_ ?_
  ·
    refine tr_skip ?_
    refine trX_seq ?_
    refine tr_seq ?_
    refine tr_block ?_
    refine tr_reg ?_
    refine trO_mv rfl rfl ?_
    refine trO_mv rfl rfl ?_
    refine trO_bind fun r8 hr8 => ?_
    refine trO_call_val (Tdraw_Codes.mk c4 c5) rfl rfl rfl draw_Codes_Slot_de rfl rfl (by simp) rfl hr8 ?_
    refine trO_bldS ([r8.1] : List TSlot) eSlot rfl rfl rfl (by simp) rfl rfl rfl ?_
    refine trO_chk fun hq => ?_
    refine trO_app (l6) (([r8.1] : List TSlot)) eSlot rfl rfl rfl rfl rfl rfl rfl (by simp) (take_drop0_map' _ _ rfl) rfl rfl (by simp) (take_len_map' _ _ rfl) (fun _ => rfl) rfl hq ?_
    refine trO_asg_own (l := l6 ++ ([r8.1] : List TSlot)) (en := eSlot) rfl rfl rfl rfl ?_
    refine trO_nil ?_
    refine trX_blk_normal ?_
    refine trX_seq ?_
    refine tr_reg ?_
    refine trO_mv rfl rfl ?_
    refine trO_bin (v := .int .i64 (IntKind.i64.wrap (n7 - 1))) rfl rfl rfl rfl rfl ?_
    refine trO_asg rfl rfl ?_
    refine trO_nil ?_
    exact trX_loop (s := (r8.2.list, r8.2.at_, l6 ++ ([r8.1] : List TSlot), IntKind.i64.wrap (n7 - 1))) _ ((has_exact ⟨rfl, rfl, rfl, trivial⟩ ⟨rfl, rfl, trivial⟩))
  ·
    refine tr_exit ?_
    refine trX_seq_exit ?_
    refine trX_loop_exit ?_
    refine trX_blk_here ?_
    refine trX_seq ?_
    refine tr_seq ?_
    refine tr_reg ?_
    refine trO_mv rfl rfl ?_
    refine trO_asg_own (l := l6) (en := eSlot) rfl rfl rfl rfl ?_
    refine trO_nil ?_
    refine trX_seq ?_
    refine tr_ret ?_
    exact ret_row (b := (l6, (Tdraw_Codes.mk c4 c5))) rfl (by first | (simp; done) | (simp; omega)) rfl rfl (by first | (simp; done) | (simp; omega)) rfl (by first | (simp; done) | (simp; omega)) (congrArg D.sl (take_len_map' _ _ rfl)) rfl

def dc63 : DCode := (.seq (.reg [⟨(some 2), (.asg (.c (.int .u64 0)) none), none, []⟩] false) (.seq (.seq (.reg [⟨(some 3), (.mv (.t 0)), none, []⟩, ⟨(some 4), (.call (.c (.clo 39 [])) [(.t 3), (.c (.int .i64 6))]), none, []⟩] false) (.block 0 (.seq (.reg [⟨(some 6), (.bin .eql (.t 4) (.c (.int .i64 0))), none, []⟩, ⟨(some 5), (.asg (.t 6) none), none, []⟩] false) (.cond (.t 5) (.seq (.reg [⟨(some 7), (.mv (.t 0)), none, []⟩, ⟨(some 8), (.call (.c (.clo 39 [])) [(.t 7), (.c (.int .i64 3))]), none, []⟩, ⟨(some 9), (.cvt .u64 (.t 8)), none, []⟩, ⟨(some 10), (.bin .sub (.c (.int .u64 18446744073709551615)) (.t 9)), none, []⟩, ⟨(some 2), (.asg (.t 10) none), none, []⟩] false) .ret) (.seq (.reg [⟨(some 12), (.bin .eql (.t 4) (.c (.int .i64 1))), none, []⟩, ⟨(some 11), (.asg (.t 12) none), none, []⟩] false) (.cond (.t 11) (.seq (.reg [⟨(some 13), (.mv (.t 0)), none, []⟩, ⟨(some 14), (.call (.c (.clo 39 [])) [(.t 13), (.c (.int .i64 64))]), none, []⟩, ⟨(some 15), (.bin .shl (.c (.int .u64 1)) (.t 14)), none, []⟩, ⟨(some 2), (.asg (.t 15) none), none, []⟩] false) .ret) (.seq (.reg [⟨(some 17), (.bin .eql (.t 4) (.c (.int .i64 2))), none, []⟩, ⟨(some 16), (.asg (.t 17) none), none, []⟩] false) (.cond (.t 16) (.seq (.reg [⟨(some 2), (.asg (.c (.int .u64 0)) none), none, []⟩] false) .ret) .skip)))))))) (.seq (.reg [⟨(some 18), (.mv (.t 0)), none, []⟩, ⟨(some 19), (.call (.c (.clo 39 [])) [(.t 18), (.c (.int .i64 256))]), none, []⟩, ⟨(some 20), (.cvt .u64 (.t 19)), none, []⟩, ⟨(some 2), (.asg (.t 20) none), none, []⟩] false) .ret)))
theorem dc63_c : (Try.f63.body.bind (cCode Try.prog Try.f63.ntmps)) = some dc63 := by kernel_rfl
theorem dc63_r : Try.f63.results.toList.mapM (cRes Try.prog) = some [(.t 2)] := by kernel_rfl
def draw_Codes_Word_enc (a : Tdraw_Codes) : List D := [edraw_Codes a]
def draw_Codes_Word_dec (ds : List D) : Tdraw_Codes := udraw_Codes (ds.getD 0 .top)
theorem draw_Codes_Word_de (a : Tdraw_Codes) : draw_Codes_Word_dec (draw_Codes_Word_enc a) = a := by simp [draw_Codes_Word_dec, draw_Codes_Word_enc, uI, uBo, uS]
def draw_Codes_Word_R (b : Int × Tdraw_Codes) : D := .int .u64 b.1
def draw_Codes_Word_E (b : Int × Tdraw_Codes) : List D := [edraw_Codes b.2]
noncomputable def draw_Codes_Word_S : Dw.Spec := fSpec [(0, (2, 80))] .val draw_Codes_Word_enc draw_Codes_Word_dec (fun a => draw_Codes_Word a) draw_Codes_Word_R draw_Codes_Word_E
set_option maxHeartbeats 4000000 in
theorem draw_Codes_Word_ok : SpecOk Try.prog 63 draw_Codes_Word_S := by
  refine fn_ok (specs_ok (l := [(39, draw_Codes_Next_S)]) (by simp [draw_Codes_Next_ok])) Try.func63 (by decide) dc63_c dc63_r (np := 1) (by decide) draw_Codes_Word_de (fun _ => rfl) (fun _ => rfl) (by decide) ?_
  intro c1
  show TrE (specs [(39, draw_Codes_Next_S)]) dc63 (kRet [(0, (2, 80))] .val [(.t 2)] draw_Codes_Word_R draw_Codes_Word_E) ⟨[(0, .optr 8192 0 0 0)], [(8192, some (0, ⟨false, true, 2, 80, [.agg [.sl (c1.list.map eU8), .int .i64 c1.at_]]⟩))], 262144⟩ (draw_Codes_Word c1)
  refine tr_ent ?_
  unfold dc63 draw_Codes_Word
  refine tr_seq ?_
  refine tr_reg ?_
  refine trO_asg rfl rfl ?_
  refine trO_nil ?_
  refine trX_seq ?_
  refine tr_seq ?_
  refine tr_seq ?_
  refine tr_reg ?_
  refine trO_mv rfl rfl ?_
  refine trO_bind fun r2 hr2 => ?_
  refine trO_call_val (c1, 6) rfl rfl rfl draw_Codes_Next_de rfl rfl (by simp) rfl hr2 ?_
  refine trO_nil ?_
  refine trX_seq ?_
  refine tr_block ?_
  refine tr_seq ?_
  refine tr_reg ?_
  refine trO_bin (v := .bool (r2.1 == 0)) rfl rfl rfl rfl rfl ?_
  refine trO_asg rfl rfl ?_
  refine trO_nil ?_
  refine trX_seq ?_
  refine tr_cond (c := (r2.1 == 0)) rfl ?_ ?_
  ·
    refine tr_seq ?_
    refine tr_reg ?_
    refine trO_mv rfl rfl ?_
    refine trO_bind fun r3 hr3 => ?_
    refine trO_call_val (r2.2, 3) rfl rfl rfl draw_Codes_Next_de rfl rfl (by simp) rfl hr3 ?_
    refine trO_cvt rfl rfl ?_
    refine trO_bin (v := .int .u64 (IntKind.u64.wrap (18446744073709551615 - (IntKind.u64.wrap (r3.1))))) rfl rfl rfl rfl rfl ?_
    refine trO_asg rfl rfl ?_
    refine trO_nil ?_
    refine trX_seq ?_
    refine tr_ret ?_
    refine trX_blk_ret ?_
    refine trX_seq_ret ?_
    exact ret_val (b := (IntKind.u64.wrap (18446744073709551615 - (IntKind.u64.wrap (r3.1))), r3.2)) rfl (by first | (simp; done) | (simp; omega)) rfl rfl (by first | (simp; done) | (simp; omega)) rfl
  ·
    refine tr_seq ?_
    refine tr_reg ?_
    refine trO_bin (v := .bool (r2.1 == 1)) rfl rfl rfl rfl rfl ?_
    refine trO_asg rfl rfl ?_
    refine trO_nil ?_
    refine trX_seq ?_
    refine tr_cond (c := (r2.1 == 1)) rfl ?_ ?_
    ·
      refine tr_seq ?_
      refine tr_reg ?_
      refine trO_mv rfl rfl ?_
      refine trO_bind fun r4 hr4 => ?_
      refine trO_call_val (r2.2, 64) rfl rfl rfl draw_Codes_Next_de rfl rfl (by simp) rfl hr4 ?_
      refine trO_chk fun hq => ?_
      refine trO_bin (v := .int .u64 (IntKind.u64.wrap (1 * 2 ^ (Nat.min r4.1.toNat IntKind.u64.bits)))) rfl rfl rfl rfl hq ?_
      refine trO_asg rfl rfl ?_
      refine trO_nil ?_
      refine trX_seq ?_
      refine tr_ret ?_
      refine trX_blk_ret ?_
      refine trX_seq_ret ?_
      exact ret_val (b := (IntKind.u64.wrap (1 * 2 ^ (Nat.min r4.1.toNat IntKind.u64.bits)), r4.2)) rfl (by first | (simp; done) | (simp; omega)) rfl rfl (by first | (simp; done) | (simp; omega)) rfl
    ·
      refine tr_seq ?_
      refine tr_reg ?_
      refine trO_bin (v := .bool (r2.1 == 2)) rfl rfl rfl rfl rfl ?_
      refine trO_asg rfl rfl ?_
      refine trO_nil ?_
      refine trX_seq ?_
      refine tr_cond (c := (r2.1 == 2)) rfl ?_ ?_
      ·
        refine tr_seq ?_
        refine tr_reg ?_
        refine trO_asg rfl rfl ?_
        refine trO_nil ?_
        refine trX_seq ?_
        refine tr_ret ?_
        refine trX_blk_ret ?_
        refine trX_seq_ret ?_
        exact ret_val (b := (0, r2.2)) rfl (by first | (simp; done) | (simp; omega)) rfl rfl (by first | (simp; done) | (simp; omega)) rfl
      ·
        refine tr_skip ?_
        refine trX_blk_normal ?_
        refine trX_seq ?_
        refine tr_seq ?_
        refine tr_reg ?_
        refine trO_mv rfl rfl ?_
        refine trO_bind fun r5 hr5 => ?_
        refine trO_call_val (r2.2, 256) rfl rfl rfl draw_Codes_Next_de rfl rfl (by simp) rfl hr5 ?_
        refine trO_cvt rfl rfl ?_
        refine trO_asg rfl rfl ?_
        refine trO_nil ?_
        refine trX_seq ?_
        refine tr_ret ?_
        exact ret_val (b := (IntKind.u64.wrap (r5.1), r5.2)) rfl (by first | (simp; done) | (simp; omega)) rfl rfl (by first | (simp; done) | (simp; omega)) rfl

def dc78 : DCode := (.seq (.reg [⟨(some 4), (.box (.t 1) 3 27), none, []⟩, ⟨(some 6), (.asg (.c (.int .i64 0)) none), none, []⟩] false) (.seq (.reg [⟨(some 7), (.asg (.c .nils) (some ⟨1, 3⟩)), none, []⟩] false) (.seq (.seq (.reg [⟨(some 8), (.asg (.c (.int .i64 0)) none), none, []⟩] false) (.block 0 (.loop (.seq (.seq (.reg [⟨(some 9), (.mv (.t 8)), none, []⟩, ⟨(some 10), (.fldA 1 (.t 4)), none, []⟩, ⟨(some 11), (.ld 1 false (.t 10)), none, []⟩, ⟨(some 12), (.len false (.t 11)), none, []⟩, ⟨(some 13), (.bin .lss (.t 9) (.t 12)), none, []⟩] false) (.cond (.t 13) .skip (.exit 0))) (.seq (.block 1 (.seq (.reg [⟨(some 16), (.fldA 1 (.t 4)), none, []⟩, ⟨(some 17), (.ld 1 false (.t 16)), none, [0]⟩, ⟨(some 18), (.mv (.t 8)), none, []⟩, ⟨(some 19), (.ixA 2 (.t 17) (.t 18)), none, [1, 2]⟩, ⟨(some 20), (.fldA 0 (.t 19)), none, [3]⟩, ⟨(some 21), (.ld 1 false (.t 20)), none, [4]⟩, ⟨(some 22), (.fldA 1 (.t 4)), none, []⟩, ⟨(some 23), (.ld 1 false (.t 22)), none, [6]⟩, ⟨(some 24), (.mv (.t 2)), none, []⟩, ⟨(some 25), (.ixA 2 (.t 23) (.t 24)), none, [7, 8]⟩, ⟨(some 26), (.fldA 0 (.t 25)), none, [9]⟩, ⟨(some 27), (.ld 1 false (.t 26)), none, [10]⟩, ⟨(some 28), (.bin .eql (.t 21) (.t 27)), none, [5, 11]⟩] true) (.cond (.t 28) (.reg [⟨(some 29), (.mv (.t 7)), none, []⟩, ⟨(some 30), (.mv (.t 8)), none, []⟩, ⟨(some 31), (.bldS 1 3 (.int .i64 0) 1 [⟨0, (.t 30)⟩]), none, []⟩, ⟨(some 32), (.app 1 3 8 (.t 29) (.t 31)), none, []⟩, ⟨(some 7), (.asg (.t 32) (some ⟨1, 3⟩)), none, []⟩] false) .skip))) (.reg [⟨(some 14), (.mv (.t 8)), none, []⟩, ⟨(some 15), (.bin .add (.t 14) (.c (.int .i64 1))), none, []⟩, ⟨(some 8), (.asg (.t 15) none), none, []⟩] false)))))) (.seq (.reg [⟨(some 33), (.mv (.t 7)), none, []⟩, ⟨(some 34), (.mv (.t 0)), none, []⟩, ⟨(some 35), (.mv (.t 7)), none, []⟩, ⟨(some 36), (.len false (.t 35)), none, []⟩, ⟨(some 37), (.call (.c (.clo 39 [])) [(.t 34), (.t 36)]), none, []⟩, ⟨(some 38), (.ixA 1 (.t 33) (.t 37)), none, []⟩, ⟨(some 39), (.ld 1 false (.t 38)), none, []⟩, ⟨(some 6), (.asg (.t 39) none), none, []⟩] false) .ret))))
theorem dc78_c : (Try.f78.body.bind (cCode Try.prog Try.f78.ntmps)) = some dc78 := by kernel_rfl
theorem dc78_r : Try.f78.results.toList.mapM (cRes Try.prog) = some [(.t 6)] := by kernel_rfl
def draw_Codes_like_enc (a : Tdraw_Codes × TFunc × Int) : List D := [edraw_Codes a.1, eFunc a.2.1, .int .i64 a.2.2]
def draw_Codes_like_dec (ds : List D) : Tdraw_Codes × TFunc × Int := (udraw_Codes (ds.getD 0 .top), uFunc (ds.getD 1 .top), uI (ds.getD 2 .top))
theorem draw_Codes_like_de (a : Tdraw_Codes × TFunc × Int) : draw_Codes_like_dec (draw_Codes_like_enc a) = a := by simp [draw_Codes_like_dec, draw_Codes_like_enc, uI, uBo, uS]
def draw_Codes_like_R (b : Int × Tdraw_Codes) : D := .int .i64 b.1
def draw_Codes_like_E (b : Int × Tdraw_Codes) : List D := [edraw_Codes b.2]
noncomputable def draw_Codes_like_S : Dw.Spec := fSpec [(0, (2, 80))] .val draw_Codes_like_enc draw_Codes_like_dec (fun a => draw_Codes_like a.1 a.2.1 a.2.2) draw_Codes_like_R draw_Codes_like_E
set_option maxHeartbeats 4000000 in
theorem draw_Codes_like_ok : SpecOk Try.prog 78 draw_Codes_like_S := by
  refine fn_ok (specs_ok (l := [(39, draw_Codes_Next_S)]) (by simp [draw_Codes_Next_ok])) Try.func78 (by decide) dc78_c dc78_r (np := 3) (by decide) draw_Codes_like_de (fun _ => rfl) (fun _ => rfl) (by decide) ?_
  rintro ⟨c1, f2, s3⟩
  show TrE (specs [(39, draw_Codes_Next_S)]) dc78 (kRet [(0, (2, 80))] .val [(.t 6)] draw_Codes_like_R draw_Codes_like_E) ⟨[(0, .optr 8192 0 0 0), (1, .agg [.int .i64 f2.Params, .sl (f2.Slots.map eSlot), .sl (f2.Code.map eInstr)]), (2, .int .i64 s3)], [(8192, some (0, ⟨false, true, 2, 80, [.agg [.sl (c1.list.map eU8), .int .i64 c1.at_]]⟩))], 262144⟩ (draw_Codes_like c1 f2 s3)
  refine tr_ent ?_
  unfold dc78 draw_Codes_like
  refine tr_seq ?_
  refine tr_reg ?_
  refine trO_box rfl rfl rfl rfl rfl ?_
  refine trO_asg rfl rfl ?_
  refine trO_nil ?_
  refine trX_seq ?_
  refine tr_seq ?_
  refine tr_reg ?_
  refine trO_asg_nil (α := Int) rfl eI64 rfl ?_
  refine trO_nil ?_
  refine trX_seq ?_
  refine tr_seq ?_
  refine tr_seq ?_
  refine tr_reg ?_
  refine trO_asg rfl rfl ?_
  refine trO_nil ?_
  refine trX_seq ?_
  refine tr_block ?_
  refine tr_loop (E := fun (s : (List Int) × Int) (g : Nat × Nat) => [(0, .optr 8192 0 0 0), (2, .int .i64 s3), (4, .optr 4 g.1 0 0), (7, .osl 7 g.2 0 s.1.length), (8, .int .i64 s.2)]) (O := fun s g => [(4, some (g.1, ⟨false, true, 3, 27, [.agg [.int .i64 f2.Params, .sl (f2.Slots.map eSlot), .sl (f2.Code.map eInstr)]]⟩)), (7, some (g.2, ⟨false, false, 1, 3, s.1.map eI64⟩)), (8192, some (0, ⟨false, true, 2, 80, [.agg [.sl (c1.list.map eU8), .int .i64 c1.at_]]⟩))]) (body := fun s => draw_Codes_like_b1 f2 s3 c1 s.1 s.2) (s := (([] : List Int), 0)) (_, _) ((has_exact ⟨rfl, rfl, rfl, rfl, rfl, trivial⟩ ⟨rfl, rfl, rfl, trivial⟩)) ?_
  rintro ⟨l4, k5⟩ ⟨v4, v7⟩ nn
  show Tr _ _ _ ⟨[(0, .optr 8192 0 0 0), (2, .int .i64 s3), (4, .optr 4 v4 0 0), (7, .osl 7 v7 0 l4.length), (8, .int .i64 k5)], [(4, some (v4, ⟨false, true, 3, 27, [.agg [.int .i64 f2.Params, .sl (f2.Slots.map eSlot), .sl (f2.Code.map eInstr)]]⟩)), (7, some (v7, ⟨false, false, 1, 3, l4.map eI64⟩)), (8192, some (0, ⟨false, true, 2, 80, [.agg [.sl (c1.list.map eU8), .int .i64 c1.at_]]⟩))], _⟩ (draw_Codes_like_b1 f2 s3 c1 l4 k5)
  unfold draw_Codes_like_b1
  refine tr_seq ?_
  refine tr_seq ?_
  refine tr_reg ?_
  refine trO_mv rfl rfl ?_
  refine trO_fldA rfl rfl ?_
  refine trO_ld_obj (v := .sl (f2.Slots.map eSlot)) (z := .agg [.int .i64 f2.Params, .sl (f2.Slots.map eSlot), .sl (f2.Code.map eInstr)]) rfl rfl rfl rfl rfl rfl ?_
  refine trO_len_sl rfl rfl ?_
  refine trO_bin (v := .bool (decide (k5 < (f2.Slots.length : Int)))) rfl rfl rfl rfl rfl ?_
  refine trO_nil ?_
  refine trX_seq ?_
  refine tr_cond (c := (decide (k5 < (f2.Slots.length : Int)))) rfl ?_ ?_
  ·
    refine tr_skip ?_
    refine trX_seq ?_
    refine tr_seq ?_
    refine tr_block ?_
    refine tr_seq ?_
    refine tr_reg ?_
    refine trO_fldA rfl rfl ?_
    refine trO_ld_obj (v := .sl (f2.Slots.map eSlot)) (z := .agg [.int .i64 f2.Params, .sl (f2.Slots.map eSlot), .sl (f2.Code.map eInstr)]) rfl rfl rfl rfl rfl rfl ?_
    refine trO_mv rfl rfl ?_
    refine trO_bind fun x_x6 hx_x6 => ?_
    refine trO_ixA_sl (en := eSlot) rfl rfl rfl hx_x6 rfl ?_
    refine trO_fldA_f rfl rfl ?_
    refine trO_ld_f (v := .int .i64 x_x6.Size) rfl rfl rfl rfl ?_
    refine trO_fldA rfl rfl ?_
    refine trO_ld_obj (v := .sl (f2.Slots.map eSlot)) (z := .agg [.int .i64 f2.Params, .sl (f2.Slots.map eSlot), .sl (f2.Code.map eInstr)]) rfl rfl rfl rfl rfl rfl ?_
    refine trO_mv rfl rfl ?_
    refine trO_bind fun x_x7 hx_x7 => ?_
    refine trO_ixA_sl (en := eSlot) rfl rfl rfl hx_x7 rfl ?_
    refine trO_fldA_f rfl rfl ?_
    refine trO_ld_f (v := .int .i64 x_x7.Size) rfl rfl rfl rfl ?_
    refine trO_bin (v := .bool (x_x6.Size == x_x7.Size)) rfl rfl rfl rfl rfl ?_
    refine trO_nil_draw (by kernel_rfl) ?_
    refine trX_seq ?_
    refine tr_cond (c := (x_x6.Size == x_x7.Size)) rfl ?_ ?_
    ·
      refine tr_reg ?_
      refine trO_mv rfl rfl ?_
      refine trO_mv rfl rfl ?_
      refine trO_bldS ([k5] : List Int) eI64 rfl rfl rfl (by simp) rfl rfl rfl ?_
      refine trO_chk fun hq => ?_
      refine trO_app (l4) (([k5] : List Int)) eI64 rfl rfl rfl rfl rfl rfl rfl (by simp) (take_drop0_map' _ _ rfl) rfl rfl (by simp) (take_len_map' _ _ rfl) (fun _ => rfl) rfl hq ?_
      refine trO_asg_own (l := l4 ++ ([k5] : List Int)) (en := eI64) rfl rfl rfl rfl ?_
      refine trO_nil ?_
      refine trX_blk_normal ?_
      refine trX_seq ?_
      refine tr_reg ?_
      refine trO_mv rfl rfl ?_
      refine trO_bin (v := .int .i64 (IntKind.i64.wrap (k5 + 1))) rfl rfl rfl rfl rfl ?_
      refine trO_asg rfl rfl ?_
      refine trO_nil ?_
      exact trX_loop (s := (l4 ++ ([k5] : List Int), IntKind.i64.wrap (k5 + 1))) (_, _) ((has_exact ⟨rfl, rfl, rfl, rfl, rfl, trivial⟩ ⟨rfl, rfl, rfl, trivial⟩))
    ·
      refine tr_skip ?_
      refine trX_blk_normal ?_
      refine trX_seq ?_
      refine tr_reg ?_
      refine trO_mv rfl rfl ?_
      refine trO_bin (v := .int .i64 (IntKind.i64.wrap (k5 + 1))) rfl rfl rfl rfl rfl ?_
      refine trO_asg rfl rfl ?_
      refine trO_nil ?_
      exact trX_loop (s := (l4, IntKind.i64.wrap (k5 + 1))) (_, _) ((has_exact ⟨rfl, rfl, rfl, rfl, rfl, trivial⟩ ⟨rfl, rfl, rfl, trivial⟩))
  ·
    refine tr_exit ?_
    refine trX_seq_exit ?_
    refine trX_loop_exit ?_
    refine trX_blk_here ?_
    refine trX_seq ?_
    refine tr_seq ?_
    refine tr_reg ?_
    refine trO_mv rfl rfl ?_
    refine trO_mv rfl rfl ?_
    refine trO_mv rfl rfl ?_
    refine trO_len_own rfl rfl ?_
    refine trO_bind fun r8 hr8 => ?_
    refine trO_call_val (c1, (l4.length : Int)) rfl rfl rfl draw_Codes_Next_de rfl rfl (by simp) rfl hr8 ?_
    refine trO_chk fun hq => ?_
    refine trO_ixA_own (l := l4) (en := eI64) rfl rfl rfl rfl rfl hq ?_
    refine trO_bind fun l_e9 hl_e9 => ?_
    refine trO_ld_obj (v := .int .i64 l_e9) (z := eI64 l_e9) rfl rfl rfl (map_get hl_e9) rfl rfl ?_
    refine trO_asg rfl rfl ?_
    refine trO_nil ?_
    refine trX_seq ?_
    refine tr_ret ?_
    exact ret_val (b := (l_e9, r8.2)) rfl (by first | (simp; done) | (simp; omega)) rfl rfl (by first | (simp; done) | (simp; omega)) rfl

end Go.Proofs.Ytlphpepmbcbmiaa
