/-
  Programs on typed data, and the proofs that the code does what they say; written by a program (dx.py).
-/
import Derived.Test.YtihomlbcppfngaaProg
import Derived.Test.YtihomlbcppfngaaDx4
import Derived.KernelRfl
import Derived.Test.YtihomlbcppfngaaDxP
namespace Go.Proofs.Ytihomlbcppfngaa
open Go Go.Dw Go.Proofs
set_option maxRecDepth 100000
def dc40 : DCode := (.seq (.reg [⟨(some 1), (.box (.t 0) 3 62), none, []⟩, ⟨(some 2), (.asg (.c (.int .i64 0)) none), none, []⟩] false) (.seq (.seq (.reg [⟨(some 3), (.fldA 2 (.t 1)), none, []⟩, ⟨(some 4), (.ld 1 false (.t 3)), none, []⟩, ⟨(some 5), (.bin .neq (.t 4) (.c (.int .i64 0))), none, []⟩] false) (.cond (.t 5) (.seq (.reg [⟨(some 2), (.asg (.c (.int .i64 1)) none), none, []⟩] false) .ret) .skip)) (.seq (.reg [⟨(some 2), (.asg (.c (.int .i64 0)) none), none, []⟩] false) .ret)))
theorem dc40_c : (Try.f40.body.bind (cCode Try.prog Try.f40.ntmps)) = some dc40 := by kernel_rfl
theorem dc40_r : Try.f40.results.toList.mapM (cRes Try.prog) = some [(.t 2)] := by kernel_rfl
def batch_compare_1_enc (a : TResult) : List D := [eResult a]
def batch_compare_1_dec (ds : List D) : TResult := uResult (ds.getD 0 .top)
theorem batch_compare_1_de (a : TResult) : batch_compare_1_dec (batch_compare_1_enc a) = a := by simp [batch_compare_1_dec, batch_compare_1_enc, uI, uBo, uS]
def batch_compare_1_R (b : Int) : D := .int .i64 b
def batch_compare_1_E (_b : Int) : List D := []
noncomputable def batch_compare_1_S : Dw.Spec := fSpec [] .ground batch_compare_1_enc batch_compare_1_dec (fun a => batch_compare_1 a) batch_compare_1_R batch_compare_1_E
set_option maxHeartbeats 4000000 in
theorem batch_compare_1_ok : SpecOk Try.prog 40 batch_compare_1_S := by
  refine fn_ok (specs_nil) Try.func40 (by decide) dc40_c dc40_r (np := 1) (by decide) batch_compare_1_de (fun _ => rfl) ?_
  intro r1
  show Tr (specs []) dc40 (kRet [] .ground [(.t 2)] 1 batch_compare_1_R batch_compare_1_E) ⟨[(0, .agg [.sl (r1.Bytes.map eU8), .int .i64 r1.Bound, .int .i64 r1.Err])], [], 1⟩ (batch_compare_1 r1)
  unfold dc40 batch_compare_1
  refine tr_seq ?_
  refine tr_reg ?_
  refine trO_box rfl rfl rfl rfl rfl ?_
  refine trO_asg rfl rfl ?_
  refine trO_nil ?_
  refine trX_seq ?_
  refine tr_seq ?_
  refine tr_seq ?_
  refine tr_reg ?_
  refine trO_fldA rfl rfl ?_
  refine trO_ld_obj (v := .int .i64 r1.Err) (z := .agg [.sl (r1.Bytes.map eU8), .int .i64 r1.Bound, .int .i64 r1.Err]) rfl rfl rfl rfl rfl rfl ?_
  refine trO_bin (v := .bool (r1.Err != 0)) rfl rfl rfl rfl rfl ?_
  refine trO_nil ?_
  refine trX_seq ?_
  refine tr_cond (c := (r1.Err != 0)) rfl ?_ ?_
  ·
    refine tr_seq ?_
    refine tr_reg ?_
    refine trO_asg rfl rfl ?_
    refine trO_nil ?_
    refine trX_seq ?_
    refine tr_ret ?_
    refine trX_seq_ret ?_
    exact ret_ground (b := 1) rfl (by first | (simp; done) | (simp; omega)) rfl rfl (by first | (simp; done) | (simp; omega)) rfl
  ·
    refine tr_skip ?_
    refine trX_seq ?_
    refine tr_seq ?_
    refine tr_reg ?_
    refine trO_asg rfl rfl ?_
    refine trO_nil ?_
    refine trX_seq ?_
    refine tr_ret ?_
    exact ret_ground (b := 0) rfl (by first | (simp; done) | (simp; omega)) rfl rfl (by first | (simp; done) | (simp; omega)) rfl

def dc41 : DCode := (.seq (.reg [⟨(some 2), (.asg (.c (.int .i64 0)) none), none, []⟩] false) (.seq (.reg [⟨(some 3), (.asg (.c (.int .i64 0)) none), none, []⟩] false) (.seq (.seq (.reg [⟨(some 6), (.mv (.t 0)), none, []⟩, ⟨(some 7), (.len false (.t 6)), none, []⟩, ⟨(some 8), (.mv (.c (.int .i64 0))), none, []⟩] false) (.block 0 (.loop (.seq (.reg [⟨(some 9), (.bin .lss (.t 8) (.t 7)), none, []⟩] false) (.seq (.cond (.t 9) .skip (.exit 0)) (.seq (.block 1 (.seq (.reg [⟨(some 10), (.ixA 1 (.t 6) (.t 8)), none, []⟩, ⟨(some 11), (.ld 1 false (.t 10)), none, []⟩, ⟨(some 5), (.asg (.t 11) none), none, []⟩] false) (.seq (.reg [⟨(some 12), (.mv (.t 5)), none, []⟩, ⟨(some 13), (.mv (.t 3)), none, []⟩, ⟨(some 14), (.bin .neq (.t 12) (.t 13)), none, []⟩] false) (.cond (.t 14) (.seq (.reg [⟨(some 15), (.mv (.t 5)), none, []⟩, ⟨(some 2), (.asg (.t 15) none), none, []⟩] false) .ret) .skip)))) (.reg [⟨(some 16), (.bin .add (.t 8) (.c (.int .i64 1))), none, []⟩, ⟨(some 8), (.mv (.t 16)), none, []⟩] false))))))) (.seq (.reg [⟨(some 17), (.mv (.t 3)), none, []⟩, ⟨(some 2), (.asg (.t 17) none), none, []⟩] false) .ret))))
theorem dc41_c : (Try.f41.body.bind (cCode Try.prog Try.f41.ntmps)) = some dc41 := by kernel_rfl
theorem dc41_r : Try.f41.results.toList.mapM (cRes Try.prog) = some [(.t 2)] := by kernel_rfl
def cmp_Or_int_enc (a : (List Int)) : List D := [.sl (a.map eI64)]
def cmp_Or_int_dec (ds : List D) : (List Int) := (uL uI) (ds.getD 0 .top)
theorem cmp_Or_int_de (a : (List Int)) : cmp_Or_int_dec (cmp_Or_int_enc a) = a := by simp [cmp_Or_int_dec, cmp_Or_int_enc, uI, uBo, uS, uL_e (u := uI) (en := eI64) (fun _ => rfl)]
def cmp_Or_int_R (b : Int) : D := .int .i64 b
def cmp_Or_int_E (_b : Int) : List D := []
noncomputable def cmp_Or_int_S : Dw.Spec := fSpec [] .ground cmp_Or_int_enc cmp_Or_int_dec (fun a => cmp_Or_int a) cmp_Or_int_R cmp_Or_int_E
set_option maxHeartbeats 4000000 in
theorem cmp_Or_int_ok : SpecOk Try.prog 41 cmp_Or_int_S := by
  refine fn_ok (specs_nil) Try.func41 (by decide) dc41_c dc41_r (np := 1) (by decide) cmp_Or_int_de (fun _ => rfl) ?_
  intro vals1
  show Tr (specs []) dc41 (kRet [] .ground [(.t 2)] 1 cmp_Or_int_R cmp_Or_int_E) ⟨[(0, .sl (vals1.map eI64))], [], 1⟩ (cmp_Or_int vals1)
  unfold dc41 cmp_Or_int
  refine tr_seq ?_
  refine tr_reg ?_
  refine trO_asg rfl rfl ?_
  refine trO_nil ?_
  refine trX_seq ?_
  refine tr_seq ?_
  refine tr_reg ?_
  refine trO_asg rfl rfl ?_
  refine trO_nil ?_
  refine trX_seq ?_
  refine tr_seq ?_
  refine tr_seq ?_
  refine tr_reg ?_
  refine trO_mv rfl rfl ?_
  refine trO_len_sl rfl rfl ?_
  refine trO_mv rfl rfl ?_
  refine trO_nil ?_
  refine trX_seq ?_
  refine tr_block ?_
  refine tr_loop (E := fun (s : Int) (g : Unit) => [(3, .int .i64 0), (6, .sl (vals1.map eI64)), (7, .int .i64 (vals1.length : Int)), (8, .int .i64 s)]) (O := fun s g => []) (body := fun s => cmp_Or_int_b1 vals1 s) (s := 0) () (has_exact ⟨rfl, rfl, rfl, rfl, trivial⟩ trivial) ?_
  rintro x2 ⟨⟩ nn
  show Tr _ _ _ ⟨[(3, .int .i64 0), (6, .sl (vals1.map eI64)), (7, .int .i64 (vals1.length : Int)), (8, .int .i64 x2)], [], _⟩ (cmp_Or_int_b1 vals1 x2)
  unfold cmp_Or_int_b1
  refine tr_seq ?_
  refine tr_reg ?_
  refine trO_bin (v := .bool (decide (x2 < (vals1.length : Int)))) rfl rfl rfl rfl rfl ?_
  refine trO_nil ?_
  refine trX_seq ?_
  refine tr_seq ?_
  refine tr_cond (c := (decide (x2 < (vals1.length : Int)))) rfl ?_ ?_
  ·
    refine tr_skip ?_
    refine trX_seq ?_
    refine tr_seq ?_
    refine tr_block ?_
    refine tr_seq ?_
    refine tr_reg ?_
    refine trO_bind fun x_x3 hx_x3 => ?_
    refine trO_ixA_sl (en := eI64) rfl rfl rfl hx_x3 rfl ?_
    refine trO_ld_f (v := .int .i64 x_x3) rfl rfl rfl rfl ?_
    refine trO_asg rfl rfl ?_
    refine trO_nil ?_
    refine trX_seq ?_
    refine tr_seq ?_
    refine tr_reg ?_
    refine trO_mv rfl rfl ?_
    refine trO_mv rfl rfl ?_
    refine trO_bin (v := .bool (x_x3 != 0)) rfl rfl rfl rfl rfl ?_
    refine trO_nil ?_
    refine trX_seq ?_
    refine tr_cond (c := (x_x3 != 0)) rfl ?_ ?_
    ·
      refine tr_seq ?_
      refine tr_reg ?_
      refine trO_mv rfl rfl ?_
      refine trO_asg rfl rfl ?_
      refine trO_nil ?_
      refine trX_seq ?_
      refine tr_ret ?_
      refine trX_blk_ret ?_
      refine trX_seq_ret ?_
      refine trX_loop_ret ?_
      refine trX_blk_ret ?_
      refine trX_seq_ret ?_
      exact ret_ground (b := x_x3) rfl (by first | (simp; done) | (simp; omega)) rfl rfl (by first | (simp; done) | (simp; omega)) rfl
    ·
      refine tr_skip ?_
      refine trX_blk_normal ?_
      refine trX_seq ?_
      refine tr_reg ?_
      refine trO_bin (v := .int .i64 (IntKind.i64.wrap (x2 + 1))) rfl rfl rfl rfl rfl ?_
      refine trO_mv rfl rfl ?_
      refine trO_nil ?_
      exact trX_loop (s := IntKind.i64.wrap (x2 + 1)) () (has_exact ⟨rfl, rfl, rfl, rfl, trivial⟩ trivial)
  ·
    refine tr_exit ?_
    refine trX_seq_exit ?_
    refine trX_loop_exit ?_
    refine trX_blk_here ?_
    refine trX_seq ?_
    refine tr_seq ?_
    refine tr_reg ?_
    refine trO_mv rfl rfl ?_
    refine trO_asg rfl rfl ?_
    refine trO_nil ?_
    refine trX_seq ?_
    refine tr_ret ?_
    exact ret_ground (b := 0) rfl (by first | (simp; done) | (simp; omega)) rfl rfl (by first | (simp; done) | (simp; omega)) rfl

def dc52 : DCode := (.seq (.reg [⟨(some 2), (.asg (.c (.bool false)) none), none, []⟩] false) (.seq (.reg [⟨(some 3), (.mv (.t 0)), none, []⟩, ⟨(some 4), (.mv (.t 0)), none, []⟩, ⟨(some 5), (.bin .neq (.t 3) (.t 4)), none, []⟩, ⟨(some 2), (.asg (.t 5) none), none, []⟩] false) .ret))
theorem dc52_c : (Try.f52.body.bind (cCode Try.prog Try.f52.ntmps)) = some dc52 := by kernel_rfl
theorem dc52_r : Try.f52.results.toList.mapM (cRes Try.prog) = some [(.t 2)] := by kernel_rfl
def cmp_isNaN_int_enc (a : Int) : List D := [.int .i64 a]
def cmp_isNaN_int_dec (ds : List D) : Int := uI (ds.getD 0 .top)
theorem cmp_isNaN_int_de (a : Int) : cmp_isNaN_int_dec (cmp_isNaN_int_enc a) = a := by simp [cmp_isNaN_int_dec, cmp_isNaN_int_enc, uI, uBo, uS]
def cmp_isNaN_int_R (b : Bool) : D := .bool b
def cmp_isNaN_int_E (_b : Bool) : List D := []
noncomputable def cmp_isNaN_int_S : Dw.Spec := fSpec [] .ground cmp_isNaN_int_enc cmp_isNaN_int_dec (fun a => cmp_isNaN_int a) cmp_isNaN_int_R cmp_isNaN_int_E
set_option maxHeartbeats 4000000 in
theorem cmp_isNaN_int_ok : SpecOk Try.prog 52 cmp_isNaN_int_S := by
  refine fn_ok (specs_nil) Try.func52 (by decide) dc52_c dc52_r (np := 1) (by decide) cmp_isNaN_int_de (fun _ => rfl) ?_
  intro x1
  show Tr (specs []) dc52 (kRet [] .ground [(.t 2)] 1 cmp_isNaN_int_R cmp_isNaN_int_E) ⟨[(0, .int .i64 x1)], [], 1⟩ (cmp_isNaN_int x1)
  unfold dc52 cmp_isNaN_int
  refine tr_seq ?_
  refine tr_reg ?_
  refine trO_asg rfl rfl ?_
  refine trO_nil ?_
  refine trX_seq ?_
  refine tr_seq ?_
  refine tr_reg ?_
  refine trO_mv rfl rfl ?_
  refine trO_mv rfl rfl ?_
  refine trO_bin (v := .bool (x1 != x1)) rfl rfl rfl rfl rfl ?_
  refine trO_asg rfl rfl ?_
  refine trO_nil ?_
  refine trX_seq ?_
  refine tr_ret ?_
  exact ret_ground (b := (x1 != x1)) rfl (by first | (simp; done) | (simp; omega)) rfl rfl (by first | (simp; done) | (simp; omega)) rfl

def dc42 : DCode := (.seq (.reg [⟨(some 4), (.asg (.c (.int .i64 0)) none), none, []⟩] false) (.seq (.reg [⟨(some 7), (.mv (.t 0)), none, []⟩, ⟨(some 8), (.call (.c (.clo 52 [])) [(.t 7)]), none, []⟩, ⟨(some 5), (.asg (.t 8) none), none, []⟩] false) (.seq (.reg [⟨(some 9), (.mv (.t 1)), none, []⟩, ⟨(some 10), (.call (.c (.clo 52 [])) [(.t 9)]), none, []⟩, ⟨(some 6), (.asg (.t 10) none), none, []⟩] false) (.seq (.seq (.reg [⟨(some 11), (.mv (.t 5)), none, []⟩] false) (.cond (.t 11) (.seq (.seq (.reg [⟨(some 12), (.mv (.t 6)), none, []⟩] false) (.cond (.t 12) (.seq (.reg [⟨(some 4), (.asg (.c (.int .i64 0)) none), none, []⟩] false) .ret) .skip)) (.seq (.reg [⟨(some 4), (.asg (.c (.int .i64 (-1))) none), none, []⟩] false) .ret)) .skip)) (.seq (.seq (.reg [⟨(some 13), (.mv (.t 6)), none, []⟩] false) (.cond (.t 13) (.seq (.reg [⟨(some 4), (.asg (.c (.int .i64 1)) none), none, []⟩] false) .ret) .skip)) (.seq (.seq (.reg [⟨(some 14), (.mv (.t 0)), none, []⟩, ⟨(some 15), (.mv (.t 1)), none, []⟩, ⟨(some 16), (.bin .lss (.t 14) (.t 15)), none, []⟩] false) (.cond (.t 16) (.seq (.reg [⟨(some 4), (.asg (.c (.int .i64 (-1))) none), none, []⟩] false) .ret) .skip)) (.seq (.seq (.reg [⟨(some 17), (.mv (.t 0)), none, []⟩, ⟨(some 18), (.mv (.t 1)), none, []⟩, ⟨(some 19), (.bin .gtr (.t 17) (.t 18)), none, []⟩] false) (.cond (.t 19) (.seq (.reg [⟨(some 4), (.asg (.c (.int .i64 1)) none), none, []⟩] false) .ret) .skip)) (.seq (.reg [⟨(some 4), (.asg (.c (.int .i64 0)) none), none, []⟩] false) .ret))))))))
theorem dc42_c : (Try.f42.body.bind (cCode Try.prog Try.f42.ntmps)) = some dc42 := by kernel_rfl
theorem dc42_r : Try.f42.results.toList.mapM (cRes Try.prog) = some [(.t 4)] := by kernel_rfl
def cmp_Compare_int_enc (a : Int × Int) : List D := [.int .i64 a.1, .int .i64 a.2]
def cmp_Compare_int_dec (ds : List D) : Int × Int := (uI (ds.getD 0 .top), uI (ds.getD 1 .top))
theorem cmp_Compare_int_de (a : Int × Int) : cmp_Compare_int_dec (cmp_Compare_int_enc a) = a := by simp [cmp_Compare_int_dec, cmp_Compare_int_enc, uI, uBo, uS]
def cmp_Compare_int_R (b : Int) : D := .int .i64 b
def cmp_Compare_int_E (_b : Int) : List D := []
noncomputable def cmp_Compare_int_S : Dw.Spec := fSpec [] .ground cmp_Compare_int_enc cmp_Compare_int_dec (fun a => cmp_Compare_int a.1 a.2) cmp_Compare_int_R cmp_Compare_int_E
set_option maxHeartbeats 4000000 in
theorem cmp_Compare_int_ok : SpecOk Try.prog 42 cmp_Compare_int_S := by
  refine fn_ok (specs_ok (l := [(52, cmp_isNaN_int_S)]) (by simp [cmp_isNaN_int_ok])) Try.func42 (by decide) dc42_c dc42_r (np := 2) (by decide) cmp_Compare_int_de (fun _ => rfl) ?_
  rintro ⟨x1, y2⟩
  show Tr (specs [(52, cmp_isNaN_int_S)]) dc42 (kRet [] .ground [(.t 4)] 2 cmp_Compare_int_R cmp_Compare_int_E) ⟨[(0, .int .i64 x1), (1, .int .i64 y2)], [], 2⟩ (cmp_Compare_int x1 y2)
  unfold dc42 cmp_Compare_int
  refine tr_seq ?_
  refine tr_reg ?_
  refine trO_asg rfl rfl ?_
  refine trO_nil ?_
  refine trX_seq ?_
  refine tr_seq ?_
  refine tr_reg ?_
  refine trO_mv rfl rfl ?_
  refine trO_bind fun r3 hr3 => ?_
  refine trO_call_ground x1 rfl rfl rfl cmp_isNaN_int_de rfl rfl (by simp) rfl hr3 rfl ?_
  refine trO_asg rfl rfl ?_
  refine trO_nil ?_
  refine trX_seq ?_
  refine tr_seq ?_
  refine tr_reg ?_
  refine trO_mv rfl rfl ?_
  refine trO_bind fun r4 hr4 => ?_
  refine trO_call_ground y2 rfl rfl rfl cmp_isNaN_int_de rfl rfl (by simp) rfl hr4 rfl ?_
  refine trO_asg rfl rfl ?_
  refine trO_nil ?_
  refine trX_seq ?_
  refine tr_seq ?_
  refine tr_seq ?_
  refine tr_reg ?_
  refine trO_mv rfl rfl ?_
  refine trO_nil ?_
  refine trX_seq ?_
  refine tr_cond (c := r3) rfl ?_ ?_
  ·
    refine tr_seq ?_
    refine tr_seq ?_
    refine tr_reg ?_
    refine trO_mv rfl rfl ?_
    refine trO_nil ?_
    refine trX_seq ?_
    refine tr_cond (c := r4) rfl ?_ ?_
    ·
      refine tr_seq ?_
      refine tr_reg ?_
      refine trO_asg rfl rfl ?_
      refine trO_nil ?_
      refine trX_seq ?_
      refine tr_ret ?_
      refine trX_seq_ret ?_
      refine trX_seq_ret ?_
      exact ret_ground (b := 0) rfl (by first | (simp; done) | (simp; omega)) rfl rfl (by first | (simp; done) | (simp; omega)) rfl
    ·
      refine tr_skip ?_
      refine trX_seq ?_
      refine tr_seq ?_
      refine tr_reg ?_
      refine trO_asg rfl rfl ?_
      refine trO_nil ?_
      refine trX_seq ?_
      refine tr_ret ?_
      refine trX_seq_ret ?_
      exact ret_ground (b := (-1)) rfl (by first | (simp; done) | (simp; omega)) rfl rfl (by first | (simp; done) | (simp; omega)) rfl
  ·
    refine tr_skip ?_
    refine trX_seq ?_
    refine tr_seq ?_
    refine tr_seq ?_
    refine tr_reg ?_
    refine trO_mv rfl rfl ?_
    refine trO_nil ?_
    refine trX_seq ?_
    refine tr_cond (c := r4) rfl ?_ ?_
    ·
      refine tr_seq ?_
      refine tr_reg ?_
      refine trO_asg rfl rfl ?_
      refine trO_nil ?_
      refine trX_seq ?_
      refine tr_ret ?_
      refine trX_seq_ret ?_
      exact ret_ground (b := 1) rfl (by first | (simp; done) | (simp; omega)) rfl rfl (by first | (simp; done) | (simp; omega)) rfl
    ·
      refine tr_skip ?_
      refine trX_seq ?_
      refine tr_seq ?_
      refine tr_seq ?_
      refine tr_reg ?_
      refine trO_mv rfl rfl ?_
      refine trO_mv rfl rfl ?_
      refine trO_bin (v := .bool (decide (x1 < y2))) rfl rfl rfl rfl rfl ?_
      refine trO_nil ?_
      refine trX_seq ?_
      refine tr_cond (c := (decide (x1 < y2))) rfl ?_ ?_
      ·
        refine tr_seq ?_
        refine tr_reg ?_
        refine trO_asg rfl rfl ?_
        refine trO_nil ?_
        refine trX_seq ?_
        refine tr_ret ?_
        refine trX_seq_ret ?_
        exact ret_ground (b := (-1)) rfl (by first | (simp; done) | (simp; omega)) rfl rfl (by first | (simp; done) | (simp; omega)) rfl
      ·
        refine tr_skip ?_
        refine trX_seq ?_
        refine tr_seq ?_
        refine tr_seq ?_
        refine tr_reg ?_
        refine trO_mv rfl rfl ?_
        refine trO_mv rfl rfl ?_
        refine trO_bin (v := .bool (decide (x1 > y2))) rfl rfl rfl rfl rfl ?_
        refine trO_nil ?_
        refine trX_seq ?_
        refine tr_cond (c := (decide (x1 > y2))) rfl ?_ ?_
        ·
          refine tr_seq ?_
          refine tr_reg ?_
          refine trO_asg rfl rfl ?_
          refine trO_nil ?_
          refine trX_seq ?_
          refine tr_ret ?_
          refine trX_seq_ret ?_
          exact ret_ground (b := 1) rfl (by first | (simp; done) | (simp; omega)) rfl rfl (by first | (simp; done) | (simp; omega)) rfl
        ·
          refine tr_skip ?_
          refine trX_seq ?_
          refine tr_seq ?_
          refine tr_reg ?_
          refine trO_asg rfl rfl ?_
          refine trO_nil ?_
          refine trX_seq ?_
          refine tr_ret ?_
          exact ret_ground (b := 0) rfl (by first | (simp; done) | (simp; omega)) rfl rfl (by first | (simp; done) | (simp; omega)) rfl

def dc26 : DCode := (.seq (.reg [⟨(some 2), (.box (.t 0) 3 62), none, []⟩, ⟨(some 3), (.box (.t 1) 3 62), none, []⟩, ⟨(some 4), (.asg (.c (.int .i64 0)) none), none, []⟩] false) (.seq (.reg [⟨(some 5), (.asg (.c (.clo 40 [])) none), none, []⟩] false) (.seq (.reg [⟨(some 6), (.mv (.t 5)), none, []⟩, ⟨(some 7), (.ld 3 true (.t 2)), none, []⟩, ⟨(some 8), (.call (.t 6) [(.t 7)]), none, [0, 1]⟩, ⟨(some 9), (.mv (.t 5)), none, []⟩, ⟨(some 10), (.ld 3 true (.t 3)), none, []⟩, ⟨(some 11), (.call (.t 9) [(.t 10)]), none, [3, 4, 2]⟩, ⟨(some 12), (.call (.c (.clo 42 [])) [(.t 8), (.t 11)]), none, [2, 5, 5]⟩, ⟨(some 13), (.fldA 1 (.t 2)), none, []⟩, ⟨(some 14), (.ld 1 false (.t 13)), none, [7]⟩, ⟨(some 15), (.fldA 1 (.t 3)), none, []⟩, ⟨(some 16), (.ld 1 false (.t 15)), none, [9]⟩, ⟨(some 17), (.call (.c (.clo 42 [])) [(.t 14), (.t 16)]), none, [8, 10, 6]⟩, ⟨(some 18), (.fldA 0 (.t 2)), none, []⟩, ⟨(some 19), (.ld 1 false (.t 18)), none, [12]⟩, ⟨(some 20), (.len false (.t 19)), none, [13]⟩, ⟨(some 21), (.fldA 0 (.t 3)), none, []⟩, ⟨(some 22), (.ld 1 false (.t 21)), none, [15]⟩, ⟨(some 23), (.len false (.t 22)), none, [16]⟩, ⟨(some 24), (.call (.c (.clo 42 [])) [(.t 20), (.t 23)]), none, [14, 17, 11]⟩, ⟨(some 25), (.bldS 1 3 (.int .i64 0) 3 [⟨0, (.t 12)⟩, ⟨1, (.t 17)⟩, ⟨2, (.t 24)⟩]), none, [6, 11, 18]⟩, ⟨(some 26), (.call (.c (.clo 41 [])) [(.t 25)]), none, [19, 18]⟩, ⟨(some 4), (.asg (.t 26) none), none, [20, 20, 0, 1, 2, 3, 4, 5, 6, 7, 8, 9, 10, 11, 12, 13, 14, 15, 16, 17, 18, 19, 20]⟩] true) .ret)))
theorem dc26_c : (Try.f26.body.bind (cCode Try.prog Try.f26.ntmps)) = some dc26 := by kernel_rfl
theorem dc26_r : Try.f26.results.toList.mapM (cRes Try.prog) = some [(.t 4)] := by kernel_rfl
def batch_compare_enc (a : TResult × TResult) : List D := [eResult a.1, eResult a.2]
def batch_compare_dec (ds : List D) : TResult × TResult := (uResult (ds.getD 0 .top), uResult (ds.getD 1 .top))
theorem batch_compare_de (a : TResult × TResult) : batch_compare_dec (batch_compare_enc a) = a := by simp [batch_compare_dec, batch_compare_enc, uI, uBo, uS]
def batch_compare_R (b : Int) : D := .int .i64 b
def batch_compare_E (_b : Int) : List D := []
noncomputable def batch_compare_S : Dw.Spec := fSpec [] .ground batch_compare_enc batch_compare_dec (fun a => batch_compare a.1 a.2) batch_compare_R batch_compare_E
set_option maxHeartbeats 4000000 in
theorem batch_compare_ok : SpecOk Try.prog 26 batch_compare_S := by
  refine fn_ok (specs_ok (l := [(40, batch_compare_1_S), (42, cmp_Compare_int_S), (41, cmp_Or_int_S)]) (by simp [batch_compare_1_ok, cmp_Compare_int_ok, cmp_Or_int_ok])) Try.func26 (by decide) dc26_c dc26_r (np := 2) (by decide) batch_compare_de (fun _ => rfl) ?_
  rintro ⟨a1, b2⟩
  show Tr (specs [(40, batch_compare_1_S), (42, cmp_Compare_int_S), (41, cmp_Or_int_S)]) dc26 (kRet [] .ground [(.t 4)] 2 batch_compare_R batch_compare_E) ⟨[(0, .agg [.sl (a1.Bytes.map eU8), .int .i64 a1.Bound, .int .i64 a1.Err]), (1, .agg [.sl (b2.Bytes.map eU8), .int .i64 b2.Bound, .int .i64 b2.Err])], [], 2⟩ (batch_compare a1 b2)
  unfold dc26 batch_compare
  refine tr_seq ?_
  refine tr_reg ?_
  refine trO_box rfl rfl rfl rfl rfl ?_
  refine trO_box rfl rfl rfl rfl rfl ?_
  refine trO_asg rfl rfl ?_
  refine trO_nil ?_
  refine trX_seq ?_
  refine tr_seq ?_
  refine tr_reg ?_
  refine trO_asg rfl rfl ?_
  refine trO_nil ?_
  refine trX_seq ?_
  refine tr_seq ?_
  refine tr_reg ?_
  refine trO_mv rfl rfl ?_
  refine trO_ld_obj (v := .agg [.sl (a1.Bytes.map eU8), .int .i64 a1.Bound, .int .i64 a1.Err]) (z := .agg [.sl (a1.Bytes.map eU8), .int .i64 a1.Bound, .int .i64 a1.Err]) rfl rfl rfl rfl rfl rfl ?_
  refine trO_bind fun r3 hr3 => ?_
  refine trO_call_ground a1 rfl rfl rfl batch_compare_1_de rfl rfl (by simp) rfl hr3 rfl ?_
  refine trO_mv rfl rfl ?_
  refine trO_ld_obj (v := .agg [.sl (b2.Bytes.map eU8), .int .i64 b2.Bound, .int .i64 b2.Err]) (z := .agg [.sl (b2.Bytes.map eU8), .int .i64 b2.Bound, .int .i64 b2.Err]) rfl rfl rfl rfl rfl rfl ?_
  refine trO_bind fun r4 hr4 => ?_
  refine trO_call_ground b2 rfl rfl rfl batch_compare_1_de rfl rfl (by simp) rfl hr4 rfl ?_
  refine trO_bind fun r5 hr5 => ?_
  refine trO_call_ground (r3, r4) rfl rfl rfl cmp_Compare_int_de rfl rfl (by simp) rfl hr5 rfl ?_
  refine trO_fldA rfl rfl ?_
  refine trO_ld_obj (v := .int .i64 a1.Bound) (z := .agg [.sl (a1.Bytes.map eU8), .int .i64 a1.Bound, .int .i64 a1.Err]) rfl rfl rfl rfl rfl rfl ?_
  refine trO_fldA rfl rfl ?_
  refine trO_ld_obj (v := .int .i64 b2.Bound) (z := .agg [.sl (b2.Bytes.map eU8), .int .i64 b2.Bound, .int .i64 b2.Err]) rfl rfl rfl rfl rfl rfl ?_
  refine trO_bind fun r6 hr6 => ?_
  refine trO_call_ground (a1.Bound, b2.Bound) rfl rfl rfl cmp_Compare_int_de rfl rfl (by simp) rfl hr6 rfl ?_
  refine trO_fldA rfl rfl ?_
  refine trO_ld_obj (v := .sl (a1.Bytes.map eU8)) (z := .agg [.sl (a1.Bytes.map eU8), .int .i64 a1.Bound, .int .i64 a1.Err]) rfl rfl rfl rfl rfl rfl ?_
  refine trO_len_sl rfl rfl ?_
  refine trO_fldA rfl rfl ?_
  refine trO_ld_obj (v := .sl (b2.Bytes.map eU8)) (z := .agg [.sl (b2.Bytes.map eU8), .int .i64 b2.Bound, .int .i64 b2.Err]) rfl rfl rfl rfl rfl rfl ?_
  refine trO_len_sl rfl rfl ?_
  refine trO_bind fun r7 hr7 => ?_
  refine trO_call_ground ((a1.Bytes.length : Int), (b2.Bytes.length : Int)) rfl rfl rfl cmp_Compare_int_de rfl rfl (by simp) rfl hr7 rfl ?_
  refine trO_bldS ([r5, r6, r7] : List Int) eI64 rfl rfl rfl (by simp) rfl rfl rfl ?_
  refine trO_bind fun r8 hr8 => ?_
  refine trO_call_ground ([r5, r6, r7] : List Int) rfl rfl rfl cmp_Or_int_de rfl rfl (by simp) (by first | rfl | (simp only [take_drop0_map, take_sub_map]; rfl) | simp [cmp_Or_int_enc]) hr8 rfl ?_
  refine trO_asg rfl rfl ?_
  refine trO_nil_draw (by kernel_rfl) ?_
  refine trX_seq ?_
  refine tr_ret ?_
  exact ret_ground (b := r8) rfl (by first | (simp; done) | (simp; omega)) rfl rfl (by first | (simp; done) | (simp; omega)) rfl

def dc12 : DCode := (.seq (.reg [⟨(some 4), (.asg (.c .nils) (some ⟨3, 62⟩)), none, []⟩] false) (.seq (.reg [⟨(some 5), (.asg (.c .nils) (some ⟨3, 62⟩)), none, []⟩] false) (.seq (.seq (.reg [⟨(some 7), (.mv (.t 0)), none, []⟩, ⟨(some 8), (.len false (.t 7)), none, []⟩, ⟨(some 9), (.mv (.t 1)), none, []⟩, ⟨(some 10), (.len false (.t 9)), none, []⟩, ⟨(some 11), (.max [(.t 8), (.t 10)]), none, []⟩, ⟨(some 12), (.mv (.c (.int .i64 0))), none, []⟩] false) (.block 0 (.loop (.seq (.reg [⟨(some 13), (.bin .lss (.t 12) (.t 11)), none, []⟩] false) (.seq (.cond (.t 13) .skip (.exit 0)) (.seq (.block 1 (.seq (.reg [⟨(some 14), (.mv (.t 12)), none, []⟩, ⟨(some 6), (.asg (.t 14) none), none, []⟩] false) (.block 2 (.seq (.reg [⟨(some 23), (.mv (.t 6)), none, []⟩, ⟨(some 24), (.mv (.t 1)), none, []⟩, ⟨(some 25), (.len false (.t 24)), none, []⟩, ⟨(some 26), (.bin .geq (.t 23) (.t 25)), none, []⟩, ⟨(some 22), (.asg (.t 26) none), none, []⟩] false) (.cond (.t 22) (.reg [⟨(some 27), (.mv (.t 5)), none, []⟩, ⟨(some 28), (.mv (.t 0)), none, []⟩, ⟨(some 29), (.mv (.t 6)), none, []⟩, ⟨(some 30), (.ixA 3 (.t 28) (.t 29)), none, []⟩, ⟨(some 31), (.ld 3 true (.t 30)), none, []⟩, ⟨(some 32), (.bldS 3 62 (.agg [(.sl []), (.int .i64 0), (.int .i64 0)]) 1 [⟨0, (.t 31)⟩]), none, []⟩, ⟨(some 33), (.app 3 62 40 (.t 27) (.t 32)), none, []⟩, ⟨(some 5), (.asg (.t 33) (some ⟨3, 62⟩)), none, []⟩] false) (.seq (.reg [⟨(some 35), (.mv (.t 6)), none, []⟩, ⟨(some 36), (.mv (.t 0)), none, []⟩, ⟨(some 37), (.len false (.t 36)), none, [1]⟩, ⟨(some 38), (.bin .geq (.t 35) (.t 37)), none, [0, 2]⟩, ⟨(some 39), (.mv (.t 38)), none, [3]⟩, ⟨(some 40), (.mv (.t 1)), (some ⟨39, false⟩), [4]⟩, ⟨(some 41), (.mv (.t 6)), (some ⟨39, false⟩), [4]⟩, ⟨(some 42), (.ixA 3 (.t 40) (.t 41)), (some ⟨39, false⟩), [5, 6, 4]⟩, ⟨(some 43), (.ld 3 true (.t 42)), (some ⟨39, false⟩), [7, 4]⟩, ⟨(some 44), (.mv (.t 0)), (some ⟨39, false⟩), [4]⟩, ⟨(some 45), (.mv (.t 6)), (some ⟨39, false⟩), [4]⟩, ⟨(some 46), (.ixA 3 (.t 44) (.t 45)), (some ⟨39, false⟩), [9, 10, 4]⟩, ⟨(some 47), (.ld 3 true (.t 46)), (some ⟨39, false⟩), [11, 4]⟩, ⟨(some 48), (.call (.c (.clo 26 [])) [(.t 43), (.t 47)]), (some ⟨39, false⟩), [8, 12, 4, 4]⟩, ⟨(some 49), (.bin .lss (.t 48) (.c (.int .i64 0))), (some ⟨39, false⟩), [13, 4]⟩, ⟨(some 50), (.pick (.t 39) (.c (.bool true)) (.t 49)), none, [4, 14]⟩, ⟨(some 34), (.asg (.t 50) none), none, [15, 13]⟩] true) (.cond (.t 34) (.reg [⟨(some 51), (.mv (.t 5)), none, []⟩, ⟨(some 52), (.mv (.t 1)), none, []⟩, ⟨(some 53), (.mv (.t 6)), none, []⟩, ⟨(some 54), (.ixA 3 (.t 52) (.t 53)), none, []⟩, ⟨(some 55), (.ld 3 true (.t 54)), none, []⟩, ⟨(some 56), (.bldS 3 62 (.agg [(.sl []), (.int .i64 0), (.int .i64 0)]) 1 [⟨0, (.t 55)⟩]), none, []⟩, ⟨(some 57), (.app 3 62 40 (.t 51) (.t 56)), none, []⟩, ⟨(some 5), (.asg (.t 57) (some ⟨3, 62⟩)), none, []⟩] false) (.reg [⟨(some 15), (.mv (.t 5)), none, []⟩, ⟨(some 16), (.mv (.t 0)), none, []⟩, ⟨(some 17), (.mv (.t 6)), none, []⟩, ⟨(some 18), (.ixA 3 (.t 16) (.t 17)), none, []⟩, ⟨(some 19), (.ld 3 true (.t 18)), none, []⟩, ⟨(some 20), (.bldS 3 62 (.agg [(.sl []), (.int .i64 0), (.int .i64 0)]) 1 [⟨0, (.t 19)⟩]), none, []⟩, ⟨(some 21), (.app 3 62 40 (.t 15) (.t 20)), none, []⟩, ⟨(some 5), (.asg (.t 21) (some ⟨3, 62⟩)), none, []⟩] false)))))))) (.reg [⟨(some 58), (.bin .add (.t 12) (.c (.int .i64 1))), none, []⟩, ⟨(some 12), (.mv (.t 58)), none, []⟩] false))))))) (.seq (.reg [⟨(some 59), (.mv (.t 5)), none, []⟩, ⟨(some 4), (.asg (.t 59) (some ⟨3, 62⟩)), none, []⟩] false) .ret))))
theorem dc12_c : (Try.f12.body.bind (cCode Try.prog Try.f12.ntmps)) = some dc12 := by kernel_rfl
theorem dc12_r : Try.f12.results.toList.mapM (cRes Try.prog) = some [(.t 4)] := by kernel_rfl
def batch_Merge_enc (a : (List TResult) × (List TResult)) : List D := [.sl (a.1.map eResult), .sl (a.2.map eResult)]
def batch_Merge_dec (ds : List D) : (List TResult) × (List TResult) := ((uL uResult) (ds.getD 0 .top), (uL uResult) (ds.getD 1 .top))
theorem batch_Merge_de (a : (List TResult) × (List TResult)) : batch_Merge_dec (batch_Merge_enc a) = a := by simp [batch_Merge_dec, batch_Merge_enc, uI, uBo, uS, uL_e (u := uResult) (en := eResult) uResult_e]
def batch_Merge_R (b : (List TResult)) : D := .sl (b.map eResult)
def batch_Merge_E (_b : (List TResult)) : List D := []
noncomputable def batch_Merge_S : Dw.Spec := fSpec [] (.row 3 62) batch_Merge_enc batch_Merge_dec (fun a => batch_Merge a.1 a.2) batch_Merge_R batch_Merge_E
set_option maxHeartbeats 4000000 in
theorem batch_Merge_ok : SpecOk Try.prog 12 batch_Merge_S := by
  refine fn_ok (specs_ok (l := [(26, batch_compare_S)]) (by simp [batch_compare_ok])) Try.func12 (by decide) dc12_c dc12_r (np := 2) (by decide) batch_Merge_de (fun _ => rfl) ?_
  rintro ⟨a1, b2⟩
  show Tr (specs [(26, batch_compare_S)]) dc12 (kRet [] (.row 3 62) [(.t 4)] 2 batch_Merge_R batch_Merge_E) ⟨[(0, .sl (a1.map eResult)), (1, .sl (b2.map eResult))], [], 2⟩ (batch_Merge a1 b2)
  unfold dc12 batch_Merge
  refine tr_seq ?_
  refine tr_reg ?_
  refine trO_asg_nil (α := TResult) rfl eResult rfl ?_
  refine trO_nil ?_
  refine trX_seq ?_
  refine tr_seq ?_
  refine tr_reg ?_
  refine trO_asg_nil (α := TResult) rfl eResult rfl ?_
  refine trO_nil ?_
  refine trX_seq ?_
  refine tr_seq ?_
  refine tr_seq ?_
  refine tr_reg ?_
  refine trO_mv rfl rfl ?_
  refine trO_len_sl rfl rfl ?_
  refine trO_mv rfl rfl ?_
  refine trO_len_sl rfl rfl ?_
  refine trO_max rfl rfl rfl ?_
  refine trO_mv rfl rfl ?_
  refine trO_nil ?_
  refine trX_seq ?_
  refine tr_block ?_
  refine tr_loop (E := fun (s : (List TResult) × Int) (g : Nat) => [(0, .sl (a1.map eResult)), (1, .sl (b2.map eResult)), (5, .osl 5 g 0 s.1.length), (11, .int .i64 (maxI (a1.length : Int) (b2.length : Int))), (12, .int .i64 s.2)]) (O := fun s g => [(5, some (g, ⟨false, false, 3, 62, s.1.map eResult⟩))]) (body := fun s => batch_Merge_b1 a1 b2 s.1 s.2) (s := (([] : List TResult), 0)) _ (has_exact ⟨rfl, rfl, rfl, rfl, rfl, trivial⟩ ⟨rfl, trivial⟩) ?_
  rintro ⟨out3, x4⟩ v5 nn
  show Tr _ _ _ ⟨[(0, .sl (a1.map eResult)), (1, .sl (b2.map eResult)), (5, .osl 5 v5 0 out3.length), (11, .int .i64 (maxI (a1.length : Int) (b2.length : Int))), (12, .int .i64 x4)], [(5, some (v5, ⟨false, false, 3, 62, out3.map eResult⟩))], _⟩ (batch_Merge_b1 a1 b2 out3 x4)
  unfold batch_Merge_b1
  refine tr_seq ?_
  refine tr_reg ?_
  refine trO_bin (v := .bool (decide (x4 < (maxI (a1.length : Int) (b2.length : Int))))) rfl rfl rfl rfl rfl ?_
  refine trO_nil ?_
  refine trX_seq ?_
  refine tr_seq ?_
  refine tr_cond (c := (decide (x4 < (maxI (a1.length : Int) (b2.length : Int))))) rfl ?_ ?_
  ·
    refine tr_skip ?_
    refine trX_seq ?_
    refine tr_seq ?_
    refine tr_block ?_
    refine tr_seq ?_
    refine tr_reg ?_
    refine trO_mv rfl rfl ?_
    refine trO_asg rfl rfl ?_
    refine trO_nil ?_
    refine trX_seq ?_
    refine tr_block ?_
    refine tr_seq ?_
    refine tr_reg ?_
    refine trO_mv rfl rfl ?_
    refine trO_mv rfl rfl ?_
    refine trO_len_sl rfl rfl ?_
    refine trO_bin (v := .bool (decide (x4 ≥ (b2.length : Int)))) rfl rfl rfl rfl rfl ?_
    refine trO_asg rfl rfl ?_
    refine trO_nil ?_
    refine trX_seq ?_
    refine tr_cond (c := (decide (x4 ≥ (b2.length : Int)))) rfl ?_ ?_
    ·
      refine tr_reg ?_
      refine trO_mv rfl rfl ?_
      refine trO_mv rfl rfl ?_
      refine trO_mv rfl rfl ?_
      refine trO_bind fun x_x5 hx_x5 => ?_
      refine trO_ixA_sl (en := eResult) rfl rfl rfl hx_x5 rfl ?_
      refine trO_ld_f (v := .agg [.sl (x_x5.Bytes.map eU8), .int .i64 x_x5.Bound, .int .i64 x_x5.Err]) rfl rfl rfl rfl ?_
      refine trO_bldS ([x_x5] : List TResult) eResult rfl rfl rfl (by simp) rfl rfl rfl ?_
      refine trO_chk fun hq => ?_
      refine trO_app (out3) (([x_x5] : List TResult)) eResult rfl rfl rfl rfl rfl rfl rfl (by simp) (take_drop0_map' _ _ rfl) rfl rfl (by simp) (take_len_map' _ _ rfl) (fun _ => rfl) rfl hq ?_
      refine trO_asg_own (l := out3 ++ ([x_x5] : List TResult)) (en := eResult) rfl rfl rfl rfl ?_
      refine trO_nil ?_
      refine trX_blk_normal ?_
      refine trX_blk_normal ?_
      refine trX_seq ?_
      refine tr_reg ?_
      refine trO_bin (v := .int .i64 (IntKind.i64.wrap (x4 + 1))) rfl rfl rfl rfl rfl ?_
      refine trO_mv rfl rfl ?_
      refine trO_nil ?_
      exact trX_loop (s := (out3 ++ ([x_x5] : List TResult), IntKind.i64.wrap (x4 + 1))) _ (has_exact ⟨rfl, rfl, rfl, rfl, rfl, trivial⟩ ⟨rfl, trivial⟩)
    ·
      refine tr_seq_cut (E := fun (s : Bool) (g : Nat) => [(0, .sl (a1.map eResult)), (1, .sl (b2.map eResult)), (5, .osl 5 g 0 out3.length), (6, .int .i64 x4), (11, .int .i64 (maxI (a1.length : Int) (b2.length : Int))), (12, .int .i64 x4), (34, .bool s)]) (O := fun s g => [(5, some (g, ⟨false, false, 3, 62, out3.map eResult⟩))]) (j := fun s => batch_Merge_j2 b2 x4 out3 a1 s) ?_ ?_
      ·
        refine tr_reg ?_
        refine trO_mv rfl rfl ?_
        refine trO_mv rfl rfl ?_
        refine trO_len_sl rfl rfl ?_
        refine trO_bin (v := .bool (decide (x4 ≥ (a1.length : Int)))) rfl rfl rfl rfl rfl ?_
        refine trO_mv rfl rfl ?_
        refine trO_split 39 (b := (decide (x4 ≥ (a1.length : Int)))) rfl ?_ ?_
        ·
          refine trO_off rfl ?_
          refine trO_off rfl ?_
          refine trO_off rfl ?_
          refine trO_off rfl ?_
          refine trO_off rfl ?_
          refine trO_off rfl ?_
          refine trO_off rfl ?_
          refine trO_off rfl ?_
          refine trO_off rfl ?_
          refine trO_off rfl ?_
          refine trO_pick_true rfl rfl rfl rfl ?_
          refine trO_asg rfl rfl ?_
          refine trO_nil_draw (by kernel_rfl) ?_
          exact trX_cut (s := true) _ (has_exact ⟨rfl, rfl, rfl, rfl, rfl, rfl, rfl, trivial⟩ ⟨rfl, trivial⟩)
        ·
          refine trO_mv rfl rfl ?_
          refine trO_mv rfl rfl ?_
          refine trO_bind fun x_x7 hx_x7 => ?_
          refine trO_ixA_sl (en := eResult) rfl rfl rfl hx_x7 rfl ?_
          refine trO_ld_f (v := .agg [.sl (x_x7.Bytes.map eU8), .int .i64 x_x7.Bound, .int .i64 x_x7.Err]) rfl rfl rfl rfl ?_
          refine trO_mv rfl rfl ?_
          refine trO_mv rfl rfl ?_
          refine trO_bind fun x_x8 hx_x8 => ?_
          refine trO_ixA_sl (en := eResult) rfl rfl rfl hx_x8 rfl ?_
          refine trO_ld_f (v := .agg [.sl (x_x8.Bytes.map eU8), .int .i64 x_x8.Bound, .int .i64 x_x8.Err]) rfl rfl rfl rfl ?_
          refine trO_bind fun r9 hr9 => ?_
          refine trO_call_ground (x_x7, x_x8) rfl rfl rfl batch_compare_de rfl rfl (by simp) rfl hr9 rfl ?_
          refine trO_bin (v := .bool (decide (r9 < 0))) rfl rfl rfl rfl rfl ?_
          refine trO_pick_false rfl rfl rfl rfl ?_
          refine trO_asg rfl rfl ?_
          refine trO_nil_draw (by kernel_rfl) ?_
          exact trX_cut (s := (decide (r9 < 0))) _ (has_exact ⟨rfl, rfl, rfl, rfl, rfl, rfl, rfl, trivial⟩ ⟨rfl, trivial⟩)
      ·
        rintro x6 v5 nn
        show Tr _ _ _ ⟨[(0, .sl (a1.map eResult)), (1, .sl (b2.map eResult)), (5, .osl 5 v5 0 out3.length), (6, .int .i64 x4), (11, .int .i64 (maxI (a1.length : Int) (b2.length : Int))), (12, .int .i64 x4), (34, .bool x6)], [(5, some (v5, ⟨false, false, 3, 62, out3.map eResult⟩))], _⟩ (batch_Merge_j2 b2 x4 out3 a1 x6)
        unfold batch_Merge_j2
        refine tr_cond (c := x6) rfl ?_ ?_
        ·
          refine tr_reg ?_
          refine trO_mv rfl rfl ?_
          refine trO_mv rfl rfl ?_
          refine trO_mv rfl rfl ?_
          refine trO_bind fun x_x10 hx_x10 => ?_
          refine trO_ixA_sl (en := eResult) rfl rfl rfl hx_x10 rfl ?_
          refine trO_ld_f (v := .agg [.sl (x_x10.Bytes.map eU8), .int .i64 x_x10.Bound, .int .i64 x_x10.Err]) rfl rfl rfl rfl ?_
          refine trO_bldS ([x_x10] : List TResult) eResult rfl rfl rfl (by simp) rfl rfl rfl ?_
          refine trO_chk fun hq => ?_
          refine trO_app (out3) (([x_x10] : List TResult)) eResult rfl rfl rfl rfl rfl rfl rfl (by simp) (take_drop0_map' _ _ rfl) rfl rfl (by simp) (take_len_map' _ _ rfl) (fun _ => rfl) rfl hq ?_
          refine trO_asg_own (l := out3 ++ ([x_x10] : List TResult)) (en := eResult) rfl rfl rfl rfl ?_
          refine trO_nil ?_
          refine trX_blk_normal ?_
          refine trX_blk_normal ?_
          refine trX_seq ?_
          refine tr_reg ?_
          refine trO_bin (v := .int .i64 (IntKind.i64.wrap (x4 + 1))) rfl rfl rfl rfl rfl ?_
          refine trO_mv rfl rfl ?_
          refine trO_nil ?_
          exact trX_loop (s := (out3 ++ ([x_x10] : List TResult), IntKind.i64.wrap (x4 + 1))) _ (has_exact ⟨rfl, rfl, rfl, rfl, rfl, trivial⟩ ⟨rfl, trivial⟩)
        ·
          refine tr_reg ?_
          refine trO_mv rfl rfl ?_
          refine trO_mv rfl rfl ?_
          refine trO_mv rfl rfl ?_
          refine trO_bind fun x_x11 hx_x11 => ?_
          refine trO_ixA_sl (en := eResult) rfl rfl rfl hx_x11 rfl ?_
          refine trO_ld_f (v := .agg [.sl (x_x11.Bytes.map eU8), .int .i64 x_x11.Bound, .int .i64 x_x11.Err]) rfl rfl rfl rfl ?_
          refine trO_bldS ([x_x11] : List TResult) eResult rfl rfl rfl (by simp) rfl rfl rfl ?_
          refine trO_chk fun hq => ?_
          refine trO_app (out3) (([x_x11] : List TResult)) eResult rfl rfl rfl rfl rfl rfl rfl (by simp) (take_drop0_map' _ _ rfl) rfl rfl (by simp) (take_len_map' _ _ rfl) (fun _ => rfl) rfl hq ?_
          refine trO_asg_own (l := out3 ++ ([x_x11] : List TResult)) (en := eResult) rfl rfl rfl rfl ?_
          refine trO_nil ?_
          refine trX_blk_normal ?_
          refine trX_blk_normal ?_
          refine trX_seq ?_
          refine tr_reg ?_
          refine trO_bin (v := .int .i64 (IntKind.i64.wrap (x4 + 1))) rfl rfl rfl rfl rfl ?_
          refine trO_mv rfl rfl ?_
          refine trO_nil ?_
          exact trX_loop (s := (out3 ++ ([x_x11] : List TResult), IntKind.i64.wrap (x4 + 1))) _ (has_exact ⟨rfl, rfl, rfl, rfl, rfl, trivial⟩ ⟨rfl, trivial⟩)
  ·
    refine tr_exit ?_
    refine trX_seq_exit ?_
    refine trX_loop_exit ?_
    refine trX_blk_here ?_
    refine trX_seq ?_
    refine tr_seq ?_
    refine tr_reg ?_
    refine trO_mv rfl rfl ?_
    refine trO_asg_own (l := out3) (en := eResult) rfl rfl rfl rfl ?_
    refine trO_nil ?_
    refine trX_seq ?_
    refine tr_ret ?_
    exact ret_row (b := out3) rfl (by first | (simp; done) | (simp; omega)) rfl rfl (by first | (simp; done) | (simp; omega)) rfl (by first | (simp; done) | (simp; omega)) (congrArg D.sl (take_len_map' _ _ rfl)) rfl

def dc10 : DCode := (.seq (.reg [⟨(some 0), (.asg (.c (.bool false)) none), none, []⟩] false) (.seq (.reg [⟨(some 2), (.bld [.nils, (.int .i64 0), (.int .i64 0)] [⟨2, ⟨1, (.c (.int .i64 8))⟩⟩]), none, []⟩, ⟨(some 3), (.bldS 3 62 (.agg [(.sl []), (.int .i64 0), (.int .i64 0)]) 1 [⟨0, (.t 2)⟩]), none, []⟩, ⟨(some 4), (.bld [.nils, (.int .i64 0), (.int .i64 0)] [⟨1, ⟨1, (.c (.int .i64 16))⟩⟩]), none, []⟩, ⟨(some 5), (.bldS 3 62 (.agg [(.sl []), (.int .i64 0), (.int .i64 0)]) 1 [⟨0, (.t 4)⟩]), none, []⟩, ⟨(some 6), (.call (.c (.clo 12 [])) [(.t 3), (.t 5)]), none, []⟩, ⟨(some 1), (.asg (.t 6) (some ⟨3, 62⟩)), none, []⟩] false) (.seq (.reg [⟨(some 7), (.mv (.t 1)), none, []⟩, ⟨(some 8), (.len false (.t 7)), none, []⟩, ⟨(some 9), (.bin .eql (.t 8) (.c (.int .i64 1))), none, []⟩, ⟨(some 10), (.mv (.t 9)), none, []⟩, ⟨(some 11), (.mv (.t 1)), (some ⟨10, true⟩), []⟩, ⟨(some 12), (.ixA 3 (.t 11) (.c (.int .i64 0))), (some ⟨10, true⟩), []⟩, ⟨(some 13), (.fldA 1 (.t 12)), (some ⟨10, true⟩), []⟩, ⟨(some 14), (.ld 1 false (.t 13)), (some ⟨10, true⟩), []⟩, ⟨(some 15), (.bin .eql (.t 14) (.c (.int .i64 16))), (some ⟨10, true⟩), []⟩, ⟨(some 16), (.pick (.t 10) (.t 15) (.c (.bool false))), none, []⟩, ⟨(some 0), (.asg (.t 16) none), none, []⟩] false) .ret)))
theorem dc10_c : (Try.f10.body.bind (cCode Try.prog Try.f10.ntmps)) = some dc10 := by kernel_rfl
theorem dc10_r : Try.f10.results.toList.mapM (cRes Try.prog) = some [(.t 0)] := by kernel_rfl
def law34_awake_enc (a : Unit) : List D := []
def law34_awake_dec (ds : List D) : Unit := ()
theorem law34_awake_de (a : Unit) : law34_awake_dec (law34_awake_enc a) = a := by simp [law34_awake_dec, law34_awake_enc, uI, uBo, uS]
def law34_awake_R (b : Bool) : D := .bool b
def law34_awake_E (_b : Bool) : List D := []
noncomputable def law34_awake_S : Dw.Spec := fSpec [] .ground law34_awake_enc law34_awake_dec (fun a => law34_awake) law34_awake_R law34_awake_E
set_option maxHeartbeats 4000000 in
theorem law34_awake_ok : SpecOk Try.prog 10 law34_awake_S := by
  refine fn_ok (specs_ok (l := [(12, batch_Merge_S)]) (by simp [batch_Merge_ok])) Try.func10 (by decide) dc10_c dc10_r (np := 0) (by decide) law34_awake_de (fun _ => rfl) ?_
  intro _
  show Tr (specs [(12, batch_Merge_S)]) dc10 (kRet [] .ground [(.t 0)] 0 law34_awake_R law34_awake_E) ⟨[], [], 0⟩ (law34_awake)
  unfold dc10 law34_awake
  refine tr_seq ?_
  refine tr_reg ?_
  refine trO_asg rfl rfl ?_
  refine trO_nil ?_
  refine trX_seq ?_
  refine tr_seq ?_
  refine tr_reg ?_
  refine trO_bld (cs := [.nils, .int .i64 0, .int .i64 8]) (ps := [(2, 1, .int .i64 8)]) rfl rfl rfl rfl ?_
  refine trO_bldS ([(TResult.mk ([]) 0 8)] : List TResult) eResult rfl rfl rfl (by simp) rfl rfl rfl ?_
  refine trO_bld (cs := [.nils, .int .i64 16, .int .i64 0]) (ps := [(1, 1, .int .i64 16)]) rfl rfl rfl rfl ?_
  refine trO_bldS ([(TResult.mk ([]) 16 0)] : List TResult) eResult rfl rfl rfl (by simp) rfl rfl rfl ?_
  refine trO_bind fun r1 hr1 => ?_
  refine trO_call_row (l := r1) (en := eResult) (([(TResult.mk ([]) 0 8)] : List TResult), ([(TResult.mk ([]) 16 0)] : List TResult)) rfl rfl rfl batch_Merge_de rfl rfl (by simp) (by first | rfl | (simp only [take_drop0_map, take_sub_map]; rfl) | simp [batch_Merge_enc]) hr1 rfl ?_
  refine trO_asg_own (l := r1) (en := eResult) rfl rfl rfl rfl ?_
  refine trO_nil ?_
  refine trX_seq ?_
  refine tr_seq ?_
  refine tr_reg ?_
  refine trO_mv rfl rfl ?_
  refine trO_len_own rfl rfl ?_
  refine trO_bin (v := .bool ((r1.length : Int) == 1)) rfl rfl rfl rfl rfl ?_
  refine trO_mv rfl rfl ?_
  refine trO_split 10 (b := ((r1.length : Int) == 1)) rfl ?_ ?_
  ·
    refine trO_mv rfl rfl ?_
    refine trO_chk fun hq => ?_
    refine trO_ixA_own (l := r1) (en := eResult) rfl rfl rfl rfl rfl hq ?_
    refine trO_fldA rfl rfl ?_
    refine trO_bind fun l_e2 hl_e2 => ?_
    refine trO_ld_obj (v := .int .i64 l_e2.Bound) (z := eResult l_e2) rfl rfl rfl (map_get hl_e2) rfl rfl ?_
    refine trO_bin (v := .bool (l_e2.Bound == 16)) rfl rfl rfl rfl rfl ?_
    refine trO_pick_true rfl rfl rfl rfl ?_
    refine trO_asg rfl rfl ?_
    refine trO_nil ?_
    refine trX_seq ?_
    refine tr_ret ?_
    exact ret_ground (b := (l_e2.Bound == 16)) rfl (by first | (simp; done) | (simp; omega)) rfl rfl (by first | (simp; done) | (simp; omega)) rfl
  ·
    refine trO_off rfl ?_
    refine trO_off rfl ?_
    refine trO_off rfl ?_
    refine trO_off rfl ?_
    refine trO_off rfl ?_
    refine trO_pick_false rfl rfl rfl rfl ?_
    refine trO_asg rfl rfl ?_
    refine trO_nil ?_
    refine trX_seq ?_
    refine tr_ret ?_
    exact ret_ground (b := false) rfl (by first | (simp; done) | (simp; omega)) rfl rfl (by first | (simp; done) | (simp; omega)) rfl

def dc25 : DCode := (.seq (.reg [⟨(some 4), (.asg (.c (.bool false)) none), none, []⟩] false) (.seq (.seq (.reg [⟨(some 6), (.mv (.t 0)), none, []⟩, ⟨(some 7), (.len false (.t 6)), none, []⟩, ⟨(some 8), (.mv (.t 1)), none, []⟩, ⟨(some 9), (.len false (.t 8)), none, []⟩, ⟨(some 10), (.bin .neq (.t 7) (.t 9)), none, []⟩] false) (.cond (.t 10) (.seq (.reg [⟨(some 4), (.asg (.c (.bool false)) none), none, []⟩] false) .ret) .skip)) (.seq (.seq (.reg [⟨(some 5), (.asg (.c (.int .i64 0)) none), none, []⟩] false) (.block 0 (.loop (.seq (.seq (.reg [⟨(some 11), (.mv (.t 5)), none, []⟩, ⟨(some 12), (.mv (.t 0)), none, []⟩, ⟨(some 13), (.len false (.t 12)), none, []⟩, ⟨(some 14), (.bin .lss (.t 11) (.t 13)), none, []⟩] false) (.cond (.t 14) .skip (.exit 0))) (.seq (.block 1 (.seq (.reg [⟨(some 17), (.mv (.t 0)), none, []⟩, ⟨(some 18), (.mv (.t 5)), none, []⟩, ⟨(some 19), (.ixA 1 (.t 17) (.t 18)), none, [0, 1]⟩, ⟨(some 20), (.ld 1 false (.t 19)), none, [2]⟩, ⟨(some 21), (.mv (.t 1)), none, []⟩, ⟨(some 22), (.mv (.t 5)), none, []⟩, ⟨(some 23), (.ixA 1 (.t 21) (.t 22)), none, [4, 5]⟩, ⟨(some 24), (.ld 1 false (.t 23)), none, [6]⟩, ⟨(some 25), (.bin .neq (.t 20) (.t 24)), none, [3, 7]⟩] true) (.cond (.t 25) (.seq (.reg [⟨(some 4), (.asg (.c (.bool false)) none), none, []⟩] false) .ret) .skip))) (.reg [⟨(some 15), (.mv (.t 5)), none, []⟩, ⟨(some 16), (.bin .add (.t 15) (.c (.int .i64 1))), none, []⟩, ⟨(some 5), (.asg (.t 16) none), none, []⟩] false)))))) (.seq (.reg [⟨(some 4), (.asg (.c (.bool true)) none), none, []⟩] false) .ret))))
theorem dc25_c : (Try.f25.body.bind (cCode Try.prog Try.f25.ntmps)) = some dc25 := by kernel_rfl
theorem dc25_r : Try.f25.results.toList.mapM (cRes Try.prog) = some [(.t 4)] := by kernel_rfl
def ref01_SameBytes_enc (a : (List Int) × (List Int)) : List D := [.sl (a.1.map eU8), .sl (a.2.map eU8)]
def ref01_SameBytes_dec (ds : List D) : (List Int) × (List Int) := ((uL uI) (ds.getD 0 .top), (uL uI) (ds.getD 1 .top))
theorem ref01_SameBytes_de (a : (List Int) × (List Int)) : ref01_SameBytes_dec (ref01_SameBytes_enc a) = a := by simp [ref01_SameBytes_dec, ref01_SameBytes_enc, uI, uBo, uS, uL_e (u := uI) (en := eU8) (fun _ => rfl)]
def ref01_SameBytes_R (b : Bool) : D := .bool b
def ref01_SameBytes_E (_b : Bool) : List D := []
noncomputable def ref01_SameBytes_S : Dw.Spec := fSpec [] .ground ref01_SameBytes_enc ref01_SameBytes_dec (fun a => ref01_SameBytes a.1 a.2) ref01_SameBytes_R ref01_SameBytes_E
set_option maxHeartbeats 4000000 in
theorem ref01_SameBytes_ok : SpecOk Try.prog 25 ref01_SameBytes_S := by
  refine fn_ok (specs_nil) Try.func25 (by decide) dc25_c dc25_r (np := 2) (by decide) ref01_SameBytes_de (fun _ => rfl) ?_
  rintro ⟨a1, b2⟩
  show Tr (specs []) dc25 (kRet [] .ground [(.t 4)] 2 ref01_SameBytes_R ref01_SameBytes_E) ⟨[(0, .sl (a1.map eU8)), (1, .sl (b2.map eU8))], [], 2⟩ (ref01_SameBytes a1 b2)
  unfold dc25 ref01_SameBytes
  refine tr_seq ?_
  refine tr_reg ?_
  refine trO_asg rfl rfl ?_
  refine trO_nil ?_
  refine trX_seq ?_
  refine tr_seq ?_
  refine tr_seq ?_
  refine tr_reg ?_
  refine trO_mv rfl rfl ?_
  refine trO_len_sl rfl rfl ?_
  refine trO_mv rfl rfl ?_
  refine trO_len_sl rfl rfl ?_
  refine trO_bin (v := .bool ((a1.length : Int) != (b2.length : Int))) rfl rfl rfl rfl rfl ?_
  refine trO_nil ?_
  refine trX_seq ?_
  refine tr_cond (c := ((a1.length : Int) != (b2.length : Int))) rfl ?_ ?_
  ·
    refine tr_seq ?_
    refine tr_reg ?_
    refine trO_asg rfl rfl ?_
    refine trO_nil ?_
    refine trX_seq ?_
    refine tr_ret ?_
    refine trX_seq_ret ?_
    exact ret_ground (b := false) rfl (by first | (simp; done) | (simp; omega)) rfl rfl (by first | (simp; done) | (simp; omega)) rfl
  ·
    refine tr_skip ?_
    refine trX_seq ?_
    refine tr_seq ?_
    refine tr_seq ?_
    refine tr_reg ?_
    refine trO_asg rfl rfl ?_
    refine trO_nil ?_
    refine trX_seq ?_
    refine tr_block ?_
    refine tr_loop (E := fun (s : Int) (g : Unit) => [(0, .sl (a1.map eU8)), (1, .sl (b2.map eU8)), (5, .int .i64 s)]) (O := fun s g => []) (body := fun s => ref01_SameBytes_b1 a1 b2 s) (s := 0) () (has_exact ⟨rfl, rfl, rfl, trivial⟩ trivial) ?_
    rintro i3 ⟨⟩ nn
    show Tr _ _ _ ⟨[(0, .sl (a1.map eU8)), (1, .sl (b2.map eU8)), (5, .int .i64 i3)], [], _⟩ (ref01_SameBytes_b1 a1 b2 i3)
    unfold ref01_SameBytes_b1
    refine tr_seq ?_
    refine tr_seq ?_
    refine tr_reg ?_
    refine trO_mv rfl rfl ?_
    refine trO_mv rfl rfl ?_
    refine trO_len_sl rfl rfl ?_
    refine trO_bin (v := .bool (decide (i3 < (a1.length : Int)))) rfl rfl rfl rfl rfl ?_
    refine trO_nil ?_
    refine trX_seq ?_
    refine tr_cond (c := (decide (i3 < (a1.length : Int)))) rfl ?_ ?_
    ·
      refine tr_skip ?_
      refine trX_seq ?_
      refine tr_seq ?_
      refine tr_block ?_
      refine tr_seq ?_
      refine tr_reg ?_
      refine trO_mv rfl rfl ?_
      refine trO_mv rfl rfl ?_
      refine trO_bind fun x_x4 hx_x4 => ?_
      refine trO_ixA_sl (en := eU8) rfl rfl rfl hx_x4 rfl ?_
      refine trO_ld_f (v := .int .u8 x_x4) rfl rfl rfl rfl ?_
      refine trO_mv rfl rfl ?_
      refine trO_mv rfl rfl ?_
      refine trO_bind fun x_x5 hx_x5 => ?_
      refine trO_ixA_sl (en := eU8) rfl rfl rfl hx_x5 rfl ?_
      refine trO_ld_f (v := .int .u8 x_x5) rfl rfl rfl rfl ?_
      refine trO_bin (v := .bool (x_x4 != x_x5)) rfl rfl rfl rfl rfl ?_
      refine trO_nil_draw (by kernel_rfl) ?_
      refine trX_seq ?_
      refine tr_cond (c := (x_x4 != x_x5)) rfl ?_ ?_
      ·
        refine tr_seq ?_
        refine tr_reg ?_
        refine trO_asg rfl rfl ?_
        refine trO_nil ?_
        refine trX_seq ?_
        refine tr_ret ?_
        refine trX_blk_ret ?_
        refine trX_seq_ret ?_
        refine trX_loop_ret ?_
        refine trX_blk_ret ?_
        refine trX_seq_ret ?_
        exact ret_ground (b := false) rfl (by first | (simp; done) | (simp; omega)) rfl rfl (by first | (simp; done) | (simp; omega)) rfl
      ·
        refine tr_skip ?_
        refine trX_blk_normal ?_
        refine trX_seq ?_
        refine tr_reg ?_
        refine trO_mv rfl rfl ?_
        refine trO_bin (v := .int .i64 (IntKind.i64.wrap (i3 + 1))) rfl rfl rfl rfl rfl ?_
        refine trO_asg rfl rfl ?_
        refine trO_nil ?_
        exact trX_loop (s := IntKind.i64.wrap (i3 + 1)) () (has_exact ⟨rfl, rfl, rfl, trivial⟩ trivial)
    ·
      refine tr_exit ?_
      refine trX_seq_exit ?_
      refine trX_loop_exit ?_
      refine trX_blk_here ?_
      refine trX_seq ?_
      refine tr_seq ?_
      refine tr_reg ?_
      refine trO_asg rfl rfl ?_
      refine trO_nil ?_
      refine trX_seq ?_
      refine tr_ret ?_
      exact ret_ground (b := true) rfl (by first | (simp; done) | (simp; omega)) rfl rfl (by first | (simp; done) | (simp; omega)) rfl

def dc11 : DCode := (.seq (.reg [⟨(some 4), (.asg (.c (.bool false)) none), none, []⟩] false) (.seq (.seq (.reg [⟨(some 6), (.mv (.t 0)), none, []⟩, ⟨(some 7), (.len false (.t 6)), none, []⟩, ⟨(some 8), (.mv (.t 1)), none, []⟩, ⟨(some 9), (.len false (.t 8)), none, []⟩, ⟨(some 10), (.bin .neq (.t 7) (.t 9)), none, []⟩] false) (.cond (.t 10) (.seq (.reg [⟨(some 4), (.asg (.c (.bool false)) none), none, []⟩] false) .ret) .skip)) (.seq (.seq (.reg [⟨(some 5), (.asg (.c (.int .i64 0)) none), none, []⟩] false) (.block 0 (.loop (.seq (.seq (.reg [⟨(some 11), (.mv (.t 5)), none, []⟩, ⟨(some 12), (.mv (.t 0)), none, []⟩, ⟨(some 13), (.len false (.t 12)), none, []⟩, ⟨(some 14), (.bin .lss (.t 11) (.t 13)), none, []⟩] false) (.cond (.t 14) .skip (.exit 0))) (.seq (.block 1 (.seq (.reg [⟨(some 17), (.mv (.t 0)), none, []⟩, ⟨(some 18), (.mv (.t 5)), none, []⟩, ⟨(some 19), (.ixA 3 (.t 17) (.t 18)), none, [0, 1]⟩, ⟨(some 20), (.fldA 1 (.t 19)), none, [2]⟩, ⟨(some 21), (.ld 1 false (.t 20)), none, [3]⟩, ⟨(some 22), (.mv (.t 1)), none, []⟩, ⟨(some 23), (.mv (.t 5)), none, []⟩, ⟨(some 24), (.ixA 3 (.t 22) (.t 23)), none, [5, 6]⟩, ⟨(some 25), (.fldA 1 (.t 24)), none, [7]⟩, ⟨(some 26), (.ld 1 false (.t 25)), none, [8]⟩, ⟨(some 27), (.bin .neq (.t 21) (.t 26)), none, [4, 9]⟩, ⟨(some 28), (.mv (.t 27)), none, [10]⟩, ⟨(some 29), (.mv (.t 0)), (some ⟨28, false⟩), [11]⟩, ⟨(some 30), (.mv (.t 5)), (some ⟨28, false⟩), [11]⟩, ⟨(some 31), (.ixA 3 (.t 29) (.t 30)), (some ⟨28, false⟩), [12, 13, 11]⟩, ⟨(some 32), (.fldA 2 (.t 31)), (some ⟨28, false⟩), [14, 11]⟩, ⟨(some 33), (.ld 1 false (.t 32)), (some ⟨28, false⟩), [15, 11]⟩, ⟨(some 34), (.mv (.t 1)), (some ⟨28, false⟩), [11]⟩, ⟨(some 35), (.mv (.t 5)), (some ⟨28, false⟩), [11]⟩, ⟨(some 36), (.ixA 3 (.t 34) (.t 35)), (some ⟨28, false⟩), [17, 18, 11]⟩, ⟨(some 37), (.fldA 2 (.t 36)), (some ⟨28, false⟩), [19, 11]⟩, ⟨(some 38), (.ld 1 false (.t 37)), (some ⟨28, false⟩), [20, 11]⟩, ⟨(some 39), (.bin .neq (.t 33) (.t 38)), (some ⟨28, false⟩), [16, 21, 11]⟩, ⟨(some 40), (.pick (.t 28) (.c (.bool true)) (.t 39)), none, [11, 22]⟩, ⟨(some 41), (.mv (.t 40)), none, [23, 11]⟩, ⟨(some 42), (.mv (.t 0)), (some ⟨41, false⟩), [24]⟩, ⟨(some 43), (.mv (.t 5)), (some ⟨41, false⟩), [24]⟩, ⟨(some 44), (.ixA 3 (.t 42) (.t 43)), (some ⟨41, false⟩), [25, 26, 24]⟩, ⟨(some 45), (.fldA 0 (.t 44)), (some ⟨41, false⟩), [27, 24]⟩, ⟨(some 46), (.ld 1 false (.t 45)), (some ⟨41, false⟩), [28, 24]⟩, ⟨(some 47), (.mv (.t 1)), (some ⟨41, false⟩), [24]⟩, ⟨(some 48), (.mv (.t 5)), (some ⟨41, false⟩), [24]⟩, ⟨(some 49), (.ixA 3 (.t 47) (.t 48)), (some ⟨41, false⟩), [30, 31, 24]⟩, ⟨(some 50), (.fldA 0 (.t 49)), (some ⟨41, false⟩), [32, 24]⟩, ⟨(some 51), (.ld 1 false (.t 50)), (some ⟨41, false⟩), [33, 24]⟩, ⟨(some 52), (.call (.c (.clo 25 [])) [(.t 46), (.t 51)]), (some ⟨41, false⟩), [29, 34, 24, 24]⟩, ⟨(some 53), (.un .not (.t 52)), (some ⟨41, false⟩), [35, 24]⟩, ⟨(some 54), (.pick (.t 41) (.c (.bool true)) (.t 53)), none, [24, 36]⟩] true) (.cond (.t 54) (.seq (.reg [⟨(some 4), (.asg (.c (.bool false)) none), none, []⟩] false) .ret) .skip))) (.reg [⟨(some 15), (.mv (.t 5)), none, []⟩, ⟨(some 16), (.bin .add (.t 15) (.c (.int .i64 1))), none, []⟩, ⟨(some 5), (.asg (.t 16) none), none, []⟩] false)))))) (.seq (.reg [⟨(some 4), (.asg (.c (.bool true)) none), none, []⟩] false) .ret))))
theorem dc11_c : (Try.f11.body.bind (cCode Try.prog Try.f11.ntmps)) = some dc11 := by kernel_rfl
theorem dc11_r : Try.f11.results.toList.mapM (cRes Try.prog) = some [(.t 4)] := by kernel_rfl
def ref34_Same_enc (a : (List TResult) × (List TResult)) : List D := [.sl (a.1.map eResult), .sl (a.2.map eResult)]
def ref34_Same_dec (ds : List D) : (List TResult) × (List TResult) := ((uL uResult) (ds.getD 0 .top), (uL uResult) (ds.getD 1 .top))
theorem ref34_Same_de (a : (List TResult) × (List TResult)) : ref34_Same_dec (ref34_Same_enc a) = a := by simp [ref34_Same_dec, ref34_Same_enc, uI, uBo, uS, uL_e (u := uResult) (en := eResult) uResult_e]
def ref34_Same_R (b : Bool) : D := .bool b
def ref34_Same_E (_b : Bool) : List D := []
noncomputable def ref34_Same_S : Dw.Spec := fSpec [] .ground ref34_Same_enc ref34_Same_dec (fun a => ref34_Same a.1 a.2) ref34_Same_R ref34_Same_E
set_option maxHeartbeats 4000000 in
theorem ref34_Same_ok : SpecOk Try.prog 11 ref34_Same_S := by
  refine fn_ok (specs_ok (l := [(25, ref01_SameBytes_S)]) (by simp [ref01_SameBytes_ok])) Try.func11 (by decide) dc11_c dc11_r (np := 2) (by decide) ref34_Same_de (fun _ => rfl) ?_
  rintro ⟨a1, b2⟩
  show Tr (specs [(25, ref01_SameBytes_S)]) dc11 (kRet [] .ground [(.t 4)] 2 ref34_Same_R ref34_Same_E) ⟨[(0, .sl (a1.map eResult)), (1, .sl (b2.map eResult))], [], 2⟩ (ref34_Same a1 b2)
  unfold dc11 ref34_Same
  refine tr_seq ?_
  refine tr_reg ?_
  refine trO_asg rfl rfl ?_
  refine trO_nil ?_
  refine trX_seq ?_
  refine tr_seq ?_
  refine tr_seq ?_
  refine tr_reg ?_
  refine trO_mv rfl rfl ?_
  refine trO_len_sl rfl rfl ?_
  refine trO_mv rfl rfl ?_
  refine trO_len_sl rfl rfl ?_
  refine trO_bin (v := .bool ((a1.length : Int) != (b2.length : Int))) rfl rfl rfl rfl rfl ?_
  refine trO_nil ?_
  refine trX_seq ?_
  refine tr_cond (c := ((a1.length : Int) != (b2.length : Int))) rfl ?_ ?_
  ·
    refine tr_seq ?_
    refine tr_reg ?_
    refine trO_asg rfl rfl ?_
    refine trO_nil ?_
    refine trX_seq ?_
    refine tr_ret ?_
    refine trX_seq_ret ?_
    exact ret_ground (b := false) rfl (by first | (simp; done) | (simp; omega)) rfl rfl (by first | (simp; done) | (simp; omega)) rfl
  ·
    refine tr_skip ?_
    refine trX_seq ?_
    refine tr_seq ?_
    refine tr_seq ?_
    refine tr_reg ?_
    refine trO_asg rfl rfl ?_
    refine trO_nil ?_
    refine trX_seq ?_
    refine tr_block ?_
    refine tr_loop (E := fun (s : Int) (g : Unit) => [(0, .sl (a1.map eResult)), (1, .sl (b2.map eResult)), (5, .int .i64 s)]) (O := fun s g => []) (body := fun s => ref34_Same_b1 a1 b2 s) (s := 0) () (has_exact ⟨rfl, rfl, rfl, trivial⟩ trivial) ?_
    rintro i3 ⟨⟩ nn
    show Tr _ _ _ ⟨[(0, .sl (a1.map eResult)), (1, .sl (b2.map eResult)), (5, .int .i64 i3)], [], _⟩ (ref34_Same_b1 a1 b2 i3)
    unfold ref34_Same_b1
    refine tr_seq ?_
    refine tr_seq ?_
    refine tr_reg ?_
    refine trO_mv rfl rfl ?_
    refine trO_mv rfl rfl ?_
    refine trO_len_sl rfl rfl ?_
    refine trO_bin (v := .bool (decide (i3 < (a1.length : Int)))) rfl rfl rfl rfl rfl ?_
    refine trO_nil ?_
    refine trX_seq ?_
    refine tr_cond (c := (decide (i3 < (a1.length : Int)))) rfl ?_ ?_
    ·
      refine tr_skip ?_
      refine trX_seq ?_
      refine tr_seq ?_
      refine tr_block ?_
      refine tr_seq ?_
      refine tr_reg ?_
      refine trO_mv rfl rfl ?_
      refine trO_mv rfl rfl ?_
      refine trO_bind fun x_x4 hx_x4 => ?_
      refine trO_ixA_sl (en := eResult) rfl rfl rfl hx_x4 rfl ?_
      refine trO_fldA_f rfl rfl ?_
      refine trO_ld_f (v := .int .i64 x_x4.Bound) rfl rfl rfl rfl ?_
      refine trO_mv rfl rfl ?_
      refine trO_mv rfl rfl ?_
      refine trO_bind fun x_x5 hx_x5 => ?_
      refine trO_ixA_sl (en := eResult) rfl rfl rfl hx_x5 rfl ?_
      refine trO_fldA_f rfl rfl ?_
      refine trO_ld_f (v := .int .i64 x_x5.Bound) rfl rfl rfl rfl ?_
      refine trO_bin (v := .bool (x_x4.Bound != x_x5.Bound)) rfl rfl rfl rfl rfl ?_
      refine trO_mv rfl rfl ?_
      refine trO_split 28 (b := (x_x4.Bound != x_x5.Bound)) rfl ?_ ?_
      ·
        refine trO_off rfl ?_
        refine trO_off rfl ?_
        refine trO_off rfl ?_
        refine trO_off rfl ?_
        refine trO_off rfl ?_
        refine trO_off rfl ?_
        refine trO_off rfl ?_
        refine trO_off rfl ?_
        refine trO_off rfl ?_
        refine trO_off rfl ?_
        refine trO_off rfl ?_
        refine trO_pick_true rfl rfl rfl rfl ?_
        refine trO_mv rfl rfl ?_
        refine trO_off rfl ?_
        refine trO_off rfl ?_
        refine trO_off rfl ?_
        refine trO_off rfl ?_
        refine trO_off rfl ?_
        refine trO_off rfl ?_
        refine trO_off rfl ?_
        refine trO_off rfl ?_
        refine trO_off rfl ?_
        refine trO_off rfl ?_
        refine trO_off rfl ?_
        refine trO_off rfl ?_
        refine trO_pick_true rfl rfl rfl rfl ?_
        refine trO_nil_draw (by kernel_rfl) ?_
        refine trX_seq ?_
        refine tr_cond_true rfl ?_
        refine tr_seq ?_
        refine tr_reg ?_
        refine trO_asg rfl rfl ?_
        refine trO_nil ?_
        refine trX_seq ?_
        refine tr_ret ?_
        refine trX_blk_ret ?_
        refine trX_seq_ret ?_
        refine trX_loop_ret ?_
        refine trX_blk_ret ?_
        refine trX_seq_ret ?_
        exact ret_ground (b := false) rfl (by first | (simp; done) | (simp; omega)) rfl rfl (by first | (simp; done) | (simp; omega)) rfl
      ·
        refine trO_mv rfl rfl ?_
        refine trO_mv rfl rfl ?_
        refine trO_bind fun x_x6 hx_x6 => ?_
        refine trO_ixA_sl (en := eResult) rfl rfl rfl hx_x6 rfl ?_
        refine trO_fldA_f rfl rfl ?_
        refine trO_ld_f (v := .int .i64 x_x6.Err) rfl rfl rfl rfl ?_
        refine trO_mv rfl rfl ?_
        refine trO_mv rfl rfl ?_
        refine trO_bind fun x_x7 hx_x7 => ?_
        refine trO_ixA_sl (en := eResult) rfl rfl rfl hx_x7 rfl ?_
        refine trO_fldA_f rfl rfl ?_
        refine trO_ld_f (v := .int .i64 x_x7.Err) rfl rfl rfl rfl ?_
        refine trO_bin (v := .bool (x_x6.Err != x_x7.Err)) rfl rfl rfl rfl rfl ?_
        refine trO_pick_false rfl rfl rfl rfl ?_
        refine trO_mv rfl rfl ?_
        refine trO_split 41 (b := (x_x6.Err != x_x7.Err)) rfl ?_ ?_
        ·
          refine trO_off rfl ?_
          refine trO_off rfl ?_
          refine trO_off rfl ?_
          refine trO_off rfl ?_
          refine trO_off rfl ?_
          refine trO_off rfl ?_
          refine trO_off rfl ?_
          refine trO_off rfl ?_
          refine trO_off rfl ?_
          refine trO_off rfl ?_
          refine trO_off rfl ?_
          refine trO_off rfl ?_
          refine trO_pick_true rfl rfl rfl rfl ?_
          refine trO_nil_draw (by kernel_rfl) ?_
          refine trX_seq ?_
          refine tr_cond_true rfl ?_
          refine tr_seq ?_
          refine tr_reg ?_
          refine trO_asg rfl rfl ?_
          refine trO_nil ?_
          refine trX_seq ?_
          refine tr_ret ?_
          refine trX_blk_ret ?_
          refine trX_seq_ret ?_
          refine trX_loop_ret ?_
          refine trX_blk_ret ?_
          refine trX_seq_ret ?_
          exact ret_ground (b := false) rfl (by first | (simp; done) | (simp; omega)) rfl rfl (by first | (simp; done) | (simp; omega)) rfl
        ·
          refine trO_mv rfl rfl ?_
          refine trO_mv rfl rfl ?_
          refine trO_bind fun x_x8 hx_x8 => ?_
          refine trO_ixA_sl (en := eResult) rfl rfl rfl hx_x8 rfl ?_
          refine trO_fldA_f rfl rfl ?_
          refine trO_ld_f (v := .sl (x_x8.Bytes.map eU8)) rfl rfl rfl rfl ?_
          refine trO_mv rfl rfl ?_
          refine trO_mv rfl rfl ?_
          refine trO_bind fun x_x9 hx_x9 => ?_
          refine trO_ixA_sl (en := eResult) rfl rfl rfl hx_x9 rfl ?_
          refine trO_fldA_f rfl rfl ?_
          refine trO_ld_f (v := .sl (x_x9.Bytes.map eU8)) rfl rfl rfl rfl ?_
          refine trO_bind fun r10 hr10 => ?_
          refine trO_call_ground (x_x8.Bytes, x_x9.Bytes) rfl rfl rfl ref01_SameBytes_de rfl rfl (by simp) rfl hr10 rfl ?_
          refine trO_un (w := .bool (!r10)) rfl rfl rfl rfl trivial ?_
          refine trO_pick_false rfl rfl rfl rfl ?_
          refine trO_nil_draw (by kernel_rfl) ?_
          refine trX_seq ?_
          refine tr_cond (c := (!r10)) rfl ?_ ?_
          ·
            refine tr_seq ?_
            refine tr_reg ?_
            refine trO_asg rfl rfl ?_
            refine trO_nil ?_
            refine trX_seq ?_
            refine tr_ret ?_
            refine trX_blk_ret ?_
            refine trX_seq_ret ?_
            refine trX_loop_ret ?_
            refine trX_blk_ret ?_
            refine trX_seq_ret ?_
            exact ret_ground (b := false) rfl (by first | (simp; done) | (simp; omega)) rfl rfl (by first | (simp; done) | (simp; omega)) rfl
          ·
            refine tr_skip ?_
            refine trX_blk_normal ?_
            refine trX_seq ?_
            refine tr_reg ?_
            refine trO_mv rfl rfl ?_
            refine trO_bin (v := .int .i64 (IntKind.i64.wrap (i3 + 1))) rfl rfl rfl rfl rfl ?_
            refine trO_asg rfl rfl ?_
            refine trO_nil ?_
            exact trX_loop (s := IntKind.i64.wrap (i3 + 1)) () (has_exact ⟨rfl, rfl, rfl, trivial⟩ trivial)
    ·
      refine tr_exit ?_
      refine trX_seq_exit ?_
      refine trX_loop_exit ?_
      refine trX_blk_here ?_
      refine trX_seq ?_
      refine tr_seq ?_
      refine tr_reg ?_
      refine trO_asg rfl rfl ?_
      refine trO_nil ?_
      refine trX_seq ?_
      refine tr_ret ?_
      exact ret_ground (b := true) rfl (by first | (simp; done) | (simp; omega)) rfl rfl (by first | (simp; done) | (simp; omega)) rfl

def dc27 : DCode := (.seq (.reg [⟨(some 2), (.box (.t 0) 3 62), none, []⟩, ⟨(some 3), (.box (.t 1) 3 62), none, []⟩, ⟨(some 4), (.asg (.c (.bool false)) none), none, []⟩] false) (.seq (.seq (.reg [⟨(some 5), (.fldA 2 (.t 2)), none, []⟩, ⟨(some 6), (.ld 1 false (.t 5)), none, []⟩, ⟨(some 7), (.bin .eql (.t 6) (.c (.int .i64 0))), none, []⟩, ⟨(some 8), (.fldA 2 (.t 3)), none, []⟩, ⟨(some 9), (.ld 1 false (.t 8)), none, []⟩, ⟨(some 10), (.bin .eql (.t 9) (.c (.int .i64 0))), none, []⟩, ⟨(some 11), (.eqB true (.t 7) (.t 10)), none, []⟩] false) (.cond (.t 11) (.seq (.reg [⟨(some 12), (.fldA 2 (.t 2)), none, []⟩, ⟨(some 13), (.ld 1 false (.t 12)), none, []⟩, ⟨(some 14), (.bin .eql (.t 13) (.c (.int .i64 0))), none, []⟩, ⟨(some 4), (.asg (.t 14) none), none, []⟩] false) .ret) .skip)) (.seq (.reg [⟨(some 15), (.fldA 1 (.t 2)), none, []⟩, ⟨(some 16), (.ld 1 false (.t 15)), none, []⟩, ⟨(some 17), (.fldA 1 (.t 3)), none, []⟩, ⟨(some 18), (.ld 1 false (.t 17)), none, []⟩, ⟨(some 19), (.bin .lss (.t 16) (.t 18)), none, []⟩, ⟨(some 20), (.mv (.t 19)), none, []⟩, ⟨(some 21), (.fldA 1 (.t 2)), (some ⟨20, false⟩), []⟩, ⟨(some 22), (.ld 1 false (.t 21)), (some ⟨20, false⟩), []⟩, ⟨(some 23), (.fldA 1 (.t 3)), (some ⟨20, false⟩), []⟩, ⟨(some 24), (.ld 1 false (.t 23)), (some ⟨20, false⟩), []⟩, ⟨(some 25), (.bin .eql (.t 22) (.t 24)), (some ⟨20, false⟩), []⟩, ⟨(some 26), (.mv (.t 25)), (some ⟨20, false⟩), []⟩, ⟨(some 27), (.fldA 0 (.t 2)), (some ⟨26, true⟩), []⟩, ⟨(some 28), (.ld 1 false (.t 27)), (some ⟨26, true⟩), []⟩, ⟨(some 29), (.len false (.t 28)), (some ⟨26, true⟩), []⟩, ⟨(some 30), (.fldA 0 (.t 3)), (some ⟨26, true⟩), []⟩, ⟨(some 31), (.ld 1 false (.t 30)), (some ⟨26, true⟩), []⟩, ⟨(some 32), (.len false (.t 31)), (some ⟨26, true⟩), []⟩, ⟨(some 33), (.bin .lss (.t 29) (.t 32)), (some ⟨26, true⟩), []⟩, ⟨(some 34), (.pick (.t 26) (.t 33) (.c (.bool false))), (some ⟨20, false⟩), []⟩, ⟨(some 35), (.pick (.t 20) (.c (.bool true)) (.t 34)), none, []⟩, ⟨(some 4), (.asg (.t 35) none), none, []⟩] false) .ret)))
theorem dc27_c : (Try.f27.body.bind (cCode Try.prog Try.f27.ntmps)) = some dc27 := by kernel_rfl
theorem dc27_r : Try.f27.results.toList.mapM (cRes Try.prog) = some [(.t 4)] := by kernel_rfl
def ref34_better_enc (a : TResult × TResult) : List D := [eResult a.1, eResult a.2]
def ref34_better_dec (ds : List D) : TResult × TResult := (uResult (ds.getD 0 .top), uResult (ds.getD 1 .top))
theorem ref34_better_de (a : TResult × TResult) : ref34_better_dec (ref34_better_enc a) = a := by simp [ref34_better_dec, ref34_better_enc, uI, uBo, uS]
def ref34_better_R (b : Bool) : D := .bool b
def ref34_better_E (_b : Bool) : List D := []
noncomputable def ref34_better_S : Dw.Spec := fSpec [] .ground ref34_better_enc ref34_better_dec (fun a => ref34_better a.1 a.2) ref34_better_R ref34_better_E
set_option maxHeartbeats 4000000 in
theorem ref34_better_ok : SpecOk Try.prog 27 ref34_better_S := by
  refine fn_ok (specs_nil) Try.func27 (by decide) dc27_c dc27_r (np := 2) (by decide) ref34_better_de (fun _ => rfl) ?_
  rintro ⟨a1, b2⟩
  show Tr (specs []) dc27 (kRet [] .ground [(.t 4)] 2 ref34_better_R ref34_better_E) ⟨[(0, .agg [.sl (a1.Bytes.map eU8), .int .i64 a1.Bound, .int .i64 a1.Err]), (1, .agg [.sl (b2.Bytes.map eU8), .int .i64 b2.Bound, .int .i64 b2.Err])], [], 2⟩ (ref34_better a1 b2)
  unfold dc27 ref34_better
  refine tr_seq ?_
  refine tr_reg ?_
  refine trO_box rfl rfl rfl rfl rfl ?_
  refine trO_box rfl rfl rfl rfl rfl ?_
  refine trO_asg rfl rfl ?_
  refine trO_nil ?_
  refine trX_seq ?_
  refine tr_seq ?_
  refine tr_seq ?_
  refine tr_reg ?_
  refine trO_fldA rfl rfl ?_
  refine trO_ld_obj (v := .int .i64 a1.Err) (z := .agg [.sl (a1.Bytes.map eU8), .int .i64 a1.Bound, .int .i64 a1.Err]) rfl rfl rfl rfl rfl rfl ?_
  refine trO_bin (v := .bool (a1.Err == 0)) rfl rfl rfl rfl rfl ?_
  refine trO_fldA rfl rfl ?_
  refine trO_ld_obj (v := .int .i64 b2.Err) (z := .agg [.sl (b2.Bytes.map eU8), .int .i64 b2.Bound, .int .i64 b2.Err]) rfl rfl rfl rfl rfl rfl ?_
  refine trO_bin (v := .bool (b2.Err == 0)) rfl rfl rfl rfl rfl ?_
  refine trO_eqB rfl rfl rfl ?_
  refine trO_nil ?_
  refine trX_seq ?_
  refine tr_cond (c := (!((a1.Err == 0) == (b2.Err == 0)))) rfl ?_ ?_
  ·
    refine tr_seq ?_
    refine tr_reg ?_
    refine trO_fldA rfl rfl ?_
    refine trO_ld_obj (v := .int .i64 a1.Err) (z := .agg [.sl (a1.Bytes.map eU8), .int .i64 a1.Bound, .int .i64 a1.Err]) rfl rfl rfl rfl rfl rfl ?_
    refine trO_bin (v := .bool (a1.Err == 0)) rfl rfl rfl rfl rfl ?_
    refine trO_asg rfl rfl ?_
    refine trO_nil ?_
    refine trX_seq ?_
    refine tr_ret ?_
    refine trX_seq_ret ?_
    exact ret_ground (b := (a1.Err == 0)) rfl (by first | (simp; done) | (simp; omega)) rfl rfl (by first | (simp; done) | (simp; omega)) rfl
  ·
    refine tr_skip ?_
    refine trX_seq ?_
    refine tr_seq ?_
    refine tr_reg ?_
    refine trO_fldA rfl rfl ?_
    refine trO_ld_obj (v := .int .i64 a1.Bound) (z := .agg [.sl (a1.Bytes.map eU8), .int .i64 a1.Bound, .int .i64 a1.Err]) rfl rfl rfl rfl rfl rfl ?_
    refine trO_fldA rfl rfl ?_
    refine trO_ld_obj (v := .int .i64 b2.Bound) (z := .agg [.sl (b2.Bytes.map eU8), .int .i64 b2.Bound, .int .i64 b2.Err]) rfl rfl rfl rfl rfl rfl ?_
    refine trO_bin (v := .bool (decide (a1.Bound < b2.Bound))) rfl rfl rfl rfl rfl ?_
    refine trO_mv rfl rfl ?_
    refine trO_split 20 (b := (decide (a1.Bound < b2.Bound))) rfl ?_ ?_
    ·
      refine trO_off rfl ?_
      refine trO_off rfl ?_
      refine trO_off rfl ?_
      refine trO_off rfl ?_
      refine trO_off rfl ?_
      refine trO_off rfl ?_
      refine trO_off rfl ?_
      refine trO_off rfl ?_
      refine trO_off rfl ?_
      refine trO_off rfl ?_
      refine trO_off rfl ?_
      refine trO_off rfl ?_
      refine trO_off rfl ?_
      refine trO_off rfl ?_
      refine trO_pick_true rfl rfl rfl rfl ?_
      refine trO_asg rfl rfl ?_
      refine trO_nil ?_
      refine trX_seq ?_
      refine tr_ret ?_
      exact ret_ground (b := true) rfl (by first | (simp; done) | (simp; omega)) rfl rfl (by first | (simp; done) | (simp; omega)) rfl
    ·
      refine trO_fldA rfl rfl ?_
      refine trO_ld_obj (v := .int .i64 a1.Bound) (z := .agg [.sl (a1.Bytes.map eU8), .int .i64 a1.Bound, .int .i64 a1.Err]) rfl rfl rfl rfl rfl rfl ?_
      refine trO_fldA rfl rfl ?_
      refine trO_ld_obj (v := .int .i64 b2.Bound) (z := .agg [.sl (b2.Bytes.map eU8), .int .i64 b2.Bound, .int .i64 b2.Err]) rfl rfl rfl rfl rfl rfl ?_
      refine trO_bin (v := .bool (a1.Bound == b2.Bound)) rfl rfl rfl rfl rfl ?_
      refine trO_mv rfl rfl ?_
      refine trO_split 26 (b := (a1.Bound == b2.Bound)) rfl ?_ ?_
      ·
        refine trO_fldA rfl rfl ?_
        refine trO_ld_obj (v := .sl (a1.Bytes.map eU8)) (z := .agg [.sl (a1.Bytes.map eU8), .int .i64 a1.Bound, .int .i64 a1.Err]) rfl rfl rfl rfl rfl rfl ?_
        refine trO_len_sl rfl rfl ?_
        refine trO_fldA rfl rfl ?_
        refine trO_ld_obj (v := .sl (b2.Bytes.map eU8)) (z := .agg [.sl (b2.Bytes.map eU8), .int .i64 b2.Bound, .int .i64 b2.Err]) rfl rfl rfl rfl rfl rfl ?_
        refine trO_len_sl rfl rfl ?_
        refine trO_bin (v := .bool (decide ((a1.Bytes.length : Int) < (b2.Bytes.length : Int)))) rfl rfl rfl rfl rfl ?_
        refine trO_pick_true rfl rfl rfl rfl ?_
        refine trO_pick_false rfl rfl rfl rfl ?_
        refine trO_asg rfl rfl ?_
        refine trO_nil ?_
        refine trX_seq ?_
        refine tr_ret ?_
        exact ret_ground (b := (decide ((a1.Bytes.length : Int) < (b2.Bytes.length : Int)))) rfl (by first | (simp; done) | (simp; omega)) rfl rfl (by first | (simp; done) | (simp; omega)) rfl
      ·
        refine trO_off rfl ?_
        refine trO_off rfl ?_
        refine trO_off rfl ?_
        refine trO_off rfl ?_
        refine trO_off rfl ?_
        refine trO_off rfl ?_
        refine trO_off rfl ?_
        refine trO_pick_false rfl rfl rfl rfl ?_
        refine trO_pick_false rfl rfl rfl rfl ?_
        refine trO_asg rfl rfl ?_
        refine trO_nil ?_
        refine trX_seq ?_
        refine tr_ret ?_
        exact ret_ground (b := false) rfl (by first | (simp; done) | (simp; omega)) rfl rfl (by first | (simp; done) | (simp; omega)) rfl

def dc13 : DCode := (.seq (.reg [⟨(some 4), (.asg (.c .nils) (some ⟨3, 62⟩)), none, []⟩] false) (.seq (.reg [⟨(some 5), (.asg (.c .nils) (some ⟨3, 62⟩)), none, []⟩] false) (.seq (.seq (.reg [⟨(some 6), (.asg (.c (.int .i64 0)) none), none, []⟩] false) (.block 0 (.loop (.seq (.seq (.reg [⟨(some 7), (.mv (.t 6)), none, []⟩, ⟨(some 8), (.mv (.t 0)), none, []⟩, ⟨(some 9), (.len false (.t 8)), none, []⟩, ⟨(some 10), (.bin .lss (.t 7) (.t 9)), none, []⟩, ⟨(some 11), (.mv (.t 10)), none, []⟩, ⟨(some 12), (.mv (.t 6)), (some ⟨11, false⟩), []⟩, ⟨(some 13), (.mv (.t 1)), (some ⟨11, false⟩), []⟩, ⟨(some 14), (.len false (.t 13)), (some ⟨11, false⟩), []⟩, ⟨(some 15), (.bin .lss (.t 12) (.t 14)), (some ⟨11, false⟩), []⟩, ⟨(some 16), (.pick (.t 11) (.c (.bool true)) (.t 15)), none, []⟩] false) (.cond (.t 16) .skip (.exit 0))) (.seq (.block 1 (.seq (.reg [⟨(some 19), (.mv (.t 6)), none, []⟩, ⟨(some 20), (.mv (.t 0)), none, []⟩, ⟨(some 21), (.len false (.t 20)), none, [1]⟩, ⟨(some 22), (.bin .geq (.t 19) (.t 21)), none, [0, 2]⟩, ⟨(some 23), (.mv (.t 22)), none, [3]⟩, ⟨(some 24), (.mv (.t 6)), (some ⟨23, false⟩), [4]⟩, ⟨(some 25), (.mv (.t 1)), (some ⟨23, false⟩), [4]⟩, ⟨(some 26), (.len false (.t 25)), (some ⟨23, false⟩), [6, 4]⟩, ⟨(some 27), (.bin .lss (.t 24) (.t 26)), (some ⟨23, false⟩), [5, 7, 4]⟩, ⟨(some 28), (.mv (.t 27)), (some ⟨23, false⟩), [8, 4, 4]⟩, ⟨(some 29), (.mv (.t 1)), (some ⟨28, true⟩), [9]⟩, ⟨(some 30), (.mv (.t 6)), (some ⟨28, true⟩), [9]⟩, ⟨(some 31), (.ixA 3 (.t 29) (.t 30)), (some ⟨28, true⟩), [10, 11, 9]⟩, ⟨(some 32), (.ld 3 true (.t 31)), (some ⟨28, true⟩), [12, 9]⟩, ⟨(some 33), (.mv (.t 0)), (some ⟨28, true⟩), [9]⟩, ⟨(some 34), (.mv (.t 6)), (some ⟨28, true⟩), [9]⟩, ⟨(some 35), (.ixA 3 (.t 33) (.t 34)), (some ⟨28, true⟩), [14, 15, 9]⟩, ⟨(some 36), (.ld 3 true (.t 35)), (some ⟨28, true⟩), [16, 9]⟩, ⟨(some 37), (.call (.c (.clo 27 [])) [(.t 32), (.t 36)]), (some ⟨28, true⟩), [13, 17, 9, 9]⟩, ⟨(some 38), (.pick (.t 28) (.t 37) (.c (.bool false))), (some ⟨23, false⟩), [9, 18, 4]⟩, ⟨(some 39), (.pick (.t 23) (.c (.bool true)) (.t 38)), none, [4, 19]⟩] true) (.cond (.t 39) (.reg [⟨(some 40), (.mv (.t 5)), none, []⟩, ⟨(some 41), (.mv (.t 1)), none, []⟩, ⟨(some 42), (.mv (.t 6)), none, []⟩, ⟨(some 43), (.ixA 3 (.t 41) (.t 42)), none, []⟩, ⟨(some 44), (.ld 3 true (.t 43)), none, []⟩, ⟨(some 45), (.bldS 3 62 (.agg [(.sl []), (.int .i64 0), (.int .i64 0)]) 1 [⟨0, (.t 44)⟩]), none, []⟩, ⟨(some 46), (.app 3 62 40 (.t 40) (.t 45)), none, []⟩, ⟨(some 5), (.asg (.t 46) (some ⟨3, 62⟩)), none, []⟩] false) (.reg [⟨(some 47), (.mv (.t 5)), none, []⟩, ⟨(some 48), (.mv (.t 0)), none, []⟩, ⟨(some 49), (.mv (.t 6)), none, []⟩, ⟨(some 50), (.ixA 3 (.t 48) (.t 49)), none, []⟩, ⟨(some 51), (.ld 3 true (.t 50)), none, []⟩, ⟨(some 52), (.bldS 3 62 (.agg [(.sl []), (.int .i64 0), (.int .i64 0)]) 1 [⟨0, (.t 51)⟩]), none, []⟩, ⟨(some 53), (.app 3 62 40 (.t 47) (.t 52)), none, []⟩, ⟨(some 5), (.asg (.t 53) (some ⟨3, 62⟩)), none, []⟩] false)))) (.reg [⟨(some 17), (.mv (.t 6)), none, []⟩, ⟨(some 18), (.bin .add (.t 17) (.c (.int .i64 1))), none, []⟩, ⟨(some 6), (.asg (.t 18) none), none, []⟩] false)))))) (.seq (.reg [⟨(some 54), (.mv (.t 5)), none, []⟩, ⟨(some 4), (.asg (.t 54) (some ⟨3, 62⟩)), none, []⟩] false) .ret))))
theorem dc13_c : (Try.f13.body.bind (cCode Try.prog Try.f13.ntmps)) = some dc13 := by kernel_rfl
theorem dc13_r : Try.f13.results.toList.mapM (cRes Try.prog) = some [(.t 4)] := by kernel_rfl
def ref34_Merge_enc (a : (List TResult) × (List TResult)) : List D := [.sl (a.1.map eResult), .sl (a.2.map eResult)]
def ref34_Merge_dec (ds : List D) : (List TResult) × (List TResult) := ((uL uResult) (ds.getD 0 .top), (uL uResult) (ds.getD 1 .top))
theorem ref34_Merge_de (a : (List TResult) × (List TResult)) : ref34_Merge_dec (ref34_Merge_enc a) = a := by simp [ref34_Merge_dec, ref34_Merge_enc, uI, uBo, uS, uL_e (u := uResult) (en := eResult) uResult_e]
def ref34_Merge_R (b : (List TResult)) : D := .sl (b.map eResult)
def ref34_Merge_E (_b : (List TResult)) : List D := []
noncomputable def ref34_Merge_S : Dw.Spec := fSpec [] (.row 3 62) ref34_Merge_enc ref34_Merge_dec (fun a => ref34_Merge a.1 a.2) ref34_Merge_R ref34_Merge_E
set_option maxHeartbeats 4000000 in
theorem ref34_Merge_ok : SpecOk Try.prog 13 ref34_Merge_S := by
  refine fn_ok (specs_ok (l := [(27, ref34_better_S)]) (by simp [ref34_better_ok])) Try.func13 (by decide) dc13_c dc13_r (np := 2) (by decide) ref34_Merge_de (fun _ => rfl) ?_
  rintro ⟨a1, b2⟩
  show Tr (specs [(27, ref34_better_S)]) dc13 (kRet [] (.row 3 62) [(.t 4)] 2 ref34_Merge_R ref34_Merge_E) ⟨[(0, .sl (a1.map eResult)), (1, .sl (b2.map eResult))], [], 2⟩ (ref34_Merge a1 b2)
  unfold dc13 ref34_Merge
  refine tr_seq ?_
  refine tr_reg ?_
  refine trO_asg_nil (α := TResult) rfl eResult rfl ?_
  refine trO_nil ?_
  refine trX_seq ?_
  refine tr_seq ?_
  refine tr_reg ?_
  refine trO_asg_nil (α := TResult) rfl eResult rfl ?_
  refine trO_nil ?_
  refine trX_seq ?_
  refine tr_seq ?_
  refine tr_seq ?_
  refine tr_reg ?_
  refine trO_asg rfl rfl ?_
  refine trO_nil ?_
  refine trX_seq ?_
  refine tr_block ?_
  refine tr_loop (E := fun (s : (List TResult) × Int) (g : Nat) => [(0, .sl (a1.map eResult)), (1, .sl (b2.map eResult)), (5, .osl 5 g 0 s.1.length), (6, .int .i64 s.2)]) (O := fun s g => [(5, some (g, ⟨false, false, 3, 62, s.1.map eResult⟩))]) (body := fun s => ref34_Merge_b1 a1 b2 s.1 s.2) (s := (([] : List TResult), 0)) _ (has_exact ⟨rfl, rfl, rfl, rfl, trivial⟩ ⟨rfl, trivial⟩) ?_
  rintro ⟨out3, i4⟩ v5 nn
  show Tr _ _ _ ⟨[(0, .sl (a1.map eResult)), (1, .sl (b2.map eResult)), (5, .osl 5 v5 0 out3.length), (6, .int .i64 i4)], [(5, some (v5, ⟨false, false, 3, 62, out3.map eResult⟩))], _⟩ (ref34_Merge_b1 a1 b2 out3 i4)
  unfold ref34_Merge_b1
  refine tr_seq_cut (E := fun (s : Unit) (g : Nat) => [(0, .sl (a1.map eResult)), (1, .sl (b2.map eResult)), (5, .osl 5 g 0 out3.length), (6, .int .i64 i4)]) (O := fun s g => [(5, some (g, ⟨false, false, 3, 62, out3.map eResult⟩))]) (j := fun s => ref34_Merge_j2 i4 a1 b2 out3) ?_ ?_
  ·
    refine tr_seq ?_
    refine tr_reg ?_
    refine trO_mv rfl rfl ?_
    refine trO_mv rfl rfl ?_
    refine trO_len_sl rfl rfl ?_
    refine trO_bin (v := .bool (decide (i4 < (a1.length : Int)))) rfl rfl rfl rfl rfl ?_
    refine trO_mv rfl rfl ?_
    refine trO_split 11 (b := (decide (i4 < (a1.length : Int)))) rfl ?_ ?_
    ·
      refine trO_off rfl ?_
      refine trO_off rfl ?_
      refine trO_off rfl ?_
      refine trO_off rfl ?_
      refine trO_pick_true rfl rfl rfl rfl ?_
      refine trO_nil ?_
      refine trX_seq ?_
      refine tr_cond_true rfl ?_
      refine tr_skip ?_
      exact trX_cut (s := ()) _ (has_exact ⟨rfl, rfl, rfl, rfl, trivial⟩ ⟨rfl, trivial⟩)
    ·
      refine trO_mv rfl rfl ?_
      refine trO_mv rfl rfl ?_
      refine trO_len_sl rfl rfl ?_
      refine trO_bin (v := .bool (decide (i4 < (b2.length : Int)))) rfl rfl rfl rfl rfl ?_
      refine trO_pick_false rfl rfl rfl rfl ?_
      refine trO_nil ?_
      refine trX_seq ?_
      refine tr_cond (c := (decide (i4 < (b2.length : Int)))) rfl ?_ ?_
      ·
        refine tr_skip ?_
        exact trX_cut (s := ()) _ (has_exact ⟨rfl, rfl, rfl, rfl, trivial⟩ ⟨rfl, trivial⟩)
      ·
        refine tr_exit ?_
        refine trX_cut_exit ?_
        refine trX_loop_exit ?_
        refine trX_blk_here ?_
        refine trX_seq ?_
        refine tr_seq ?_
        refine tr_reg ?_
        refine trO_mv rfl rfl ?_
        refine trO_asg_own (l := out3) (en := eResult) rfl rfl rfl rfl ?_
        refine trO_nil ?_
        refine trX_seq ?_
        refine tr_ret ?_
        exact ret_row (b := out3) rfl (by first | (simp; done) | (simp; omega)) rfl rfl (by first | (simp; done) | (simp; omega)) rfl (by first | (simp; done) | (simp; omega)) (congrArg D.sl (take_len_map' _ _ rfl)) rfl
  ·
    rintro ⟨⟩ v5 nn
    show Tr _ _ _ ⟨[(0, .sl (a1.map eResult)), (1, .sl (b2.map eResult)), (5, .osl 5 v5 0 out3.length), (6, .int .i64 i4)], [(5, some (v5, ⟨false, false, 3, 62, out3.map eResult⟩))], _⟩ (ref34_Merge_j2 i4 a1 b2 out3)
    unfold ref34_Merge_j2
    refine tr_seq ?_
    refine tr_block ?_
    refine tr_seq_cut (E := fun (s : Bool) (g : Nat) => [(0, .sl (a1.map eResult)), (1, .sl (b2.map eResult)), (5, .osl 5 g 0 out3.length), (6, .int .i64 i4), (39, .bool s)]) (O := fun s g => [(5, some (g, ⟨false, false, 3, 62, out3.map eResult⟩))]) (j := fun s => ref34_Merge_j3 b2 i4 out3 a1 s) ?_ ?_
    ·
      refine tr_reg ?_
      refine trO_mv rfl rfl ?_
      refine trO_mv rfl rfl ?_
      refine trO_len_sl rfl rfl ?_
      refine trO_bin (v := .bool (decide (i4 ≥ (a1.length : Int)))) rfl rfl rfl rfl rfl ?_
      refine trO_mv rfl rfl ?_
      refine trO_split 23 (b := (decide (i4 ≥ (a1.length : Int)))) rfl ?_ ?_
      ·
        refine trO_off rfl ?_
        refine trO_off rfl ?_
        refine trO_off rfl ?_
        refine trO_off rfl ?_
        refine trO_off rfl ?_
        refine trO_off rfl ?_
        refine trO_off rfl ?_
        refine trO_off rfl ?_
        refine trO_off rfl ?_
        refine trO_off rfl ?_
        refine trO_off rfl ?_
        refine trO_off rfl ?_
        refine trO_off rfl ?_
        refine trO_off rfl ?_
        refine trO_off rfl ?_
        refine trO_pick_true rfl rfl rfl rfl ?_
        refine trO_nil_draw (by kernel_rfl) ?_
        exact trX_cut (s := true) _ (has_exact ⟨rfl, rfl, rfl, rfl, rfl, trivial⟩ ⟨rfl, trivial⟩)
      ·
        refine trO_mv rfl rfl ?_
        refine trO_mv rfl rfl ?_
        refine trO_len_sl rfl rfl ?_
        refine trO_bin (v := .bool (decide (i4 < (b2.length : Int)))) rfl rfl rfl rfl rfl ?_
        refine trO_mv rfl rfl ?_
        refine trO_split 28 (b := (decide (i4 < (b2.length : Int)))) rfl ?_ ?_
        ·
          refine trO_mv rfl rfl ?_
          refine trO_mv rfl rfl ?_
          refine trO_bind fun x_x6 hx_x6 => ?_
          refine trO_ixA_sl (en := eResult) rfl rfl rfl hx_x6 rfl ?_
          refine trO_ld_f (v := .agg [.sl (x_x6.Bytes.map eU8), .int .i64 x_x6.Bound, .int .i64 x_x6.Err]) rfl rfl rfl rfl ?_
          refine trO_mv rfl rfl ?_
          refine trO_mv rfl rfl ?_
          refine trO_bind fun x_x7 hx_x7 => ?_
          refine trO_ixA_sl (en := eResult) rfl rfl rfl hx_x7 rfl ?_
          refine trO_ld_f (v := .agg [.sl (x_x7.Bytes.map eU8), .int .i64 x_x7.Bound, .int .i64 x_x7.Err]) rfl rfl rfl rfl ?_
          refine trO_bind fun r8 hr8 => ?_
          refine trO_call_ground (x_x6, x_x7) rfl rfl rfl ref34_better_de rfl rfl (by simp) rfl hr8 rfl ?_
          refine trO_pick_true rfl rfl rfl rfl ?_
          refine trO_pick_false rfl rfl rfl rfl ?_
          refine trO_nil_draw (by kernel_rfl) ?_
          exact trX_cut (s := r8) _ (has_exact ⟨rfl, rfl, rfl, rfl, rfl, trivial⟩ ⟨rfl, trivial⟩)
        ·
          refine trO_off rfl ?_
          refine trO_off rfl ?_
          refine trO_off rfl ?_
          refine trO_off rfl ?_
          refine trO_off rfl ?_
          refine trO_off rfl ?_
          refine trO_off rfl ?_
          refine trO_off rfl ?_
          refine trO_off rfl ?_
          refine trO_pick_false rfl rfl rfl rfl ?_
          refine trO_pick_false rfl rfl rfl rfl ?_
          refine trO_nil_draw (by kernel_rfl) ?_
          exact trX_cut (s := false) _ (has_exact ⟨rfl, rfl, rfl, rfl, rfl, trivial⟩ ⟨rfl, trivial⟩)
    ·
      rintro x5 v5 nn
      show Tr _ _ _ ⟨[(0, .sl (a1.map eResult)), (1, .sl (b2.map eResult)), (5, .osl 5 v5 0 out3.length), (6, .int .i64 i4), (39, .bool x5)], [(5, some (v5, ⟨false, false, 3, 62, out3.map eResult⟩))], _⟩ (ref34_Merge_j3 b2 i4 out3 a1 x5)
      unfold ref34_Merge_j3
      refine tr_cond (c := x5) rfl ?_ ?_
      ·
        refine tr_reg ?_
        refine trO_mv rfl rfl ?_
        refine trO_mv rfl rfl ?_
        refine trO_mv rfl rfl ?_
        refine trO_bind fun x_x9 hx_x9 => ?_
        refine trO_ixA_sl (en := eResult) rfl rfl rfl hx_x9 rfl ?_
        refine trO_ld_f (v := .agg [.sl (x_x9.Bytes.map eU8), .int .i64 x_x9.Bound, .int .i64 x_x9.Err]) rfl rfl rfl rfl ?_
        refine trO_bldS ([x_x9] : List TResult) eResult rfl rfl rfl (by simp) rfl rfl rfl ?_
        refine trO_chk fun hq => ?_
        refine trO_app (out3) (([x_x9] : List TResult)) eResult rfl rfl rfl rfl rfl rfl rfl (by simp) (take_drop0_map' _ _ rfl) rfl rfl (by simp) (take_len_map' _ _ rfl) (fun _ => rfl) rfl hq ?_
        refine trO_asg_own (l := out3 ++ ([x_x9] : List TResult)) (en := eResult) rfl rfl rfl rfl ?_
        refine trO_nil ?_
        refine trX_blk_normal ?_
        refine trX_seq ?_
        refine tr_reg ?_
        refine trO_mv rfl rfl ?_
        refine trO_bin (v := .int .i64 (IntKind.i64.wrap (i4 + 1))) rfl rfl rfl rfl rfl ?_
        refine trO_asg rfl rfl ?_
        refine trO_nil ?_
        exact trX_loop (s := (out3 ++ ([x_x9] : List TResult), IntKind.i64.wrap (i4 + 1))) _ (has_exact ⟨rfl, rfl, rfl, rfl, trivial⟩ ⟨rfl, trivial⟩)
      ·
        refine tr_reg ?_
        refine trO_mv rfl rfl ?_
        refine trO_mv rfl rfl ?_
        refine trO_mv rfl rfl ?_
        refine trO_bind fun x_x10 hx_x10 => ?_
        refine trO_ixA_sl (en := eResult) rfl rfl rfl hx_x10 rfl ?_
        refine trO_ld_f (v := .agg [.sl (x_x10.Bytes.map eU8), .int .i64 x_x10.Bound, .int .i64 x_x10.Err]) rfl rfl rfl rfl ?_
        refine trO_bldS ([x_x10] : List TResult) eResult rfl rfl rfl (by simp) rfl rfl rfl ?_
        refine trO_chk fun hq => ?_
        refine trO_app (out3) (([x_x10] : List TResult)) eResult rfl rfl rfl rfl rfl rfl rfl (by simp) (take_drop0_map' _ _ rfl) rfl rfl (by simp) (take_len_map' _ _ rfl) (fun _ => rfl) rfl hq ?_
        refine trO_asg_own (l := out3 ++ ([x_x10] : List TResult)) (en := eResult) rfl rfl rfl rfl ?_
        refine trO_nil ?_
        refine trX_blk_normal ?_
        refine trX_seq ?_
        refine tr_reg ?_
        refine trO_mv rfl rfl ?_
        refine trO_bin (v := .int .i64 (IntKind.i64.wrap (i4 + 1))) rfl rfl rfl rfl rfl ?_
        refine trO_asg rfl rfl ?_
        refine trO_nil ?_
        exact trX_loop (s := (out3 ++ ([x_x10] : List TResult), IntKind.i64.wrap (i4 + 1))) _ (has_exact ⟨rfl, rfl, rfl, rfl, trivial⟩ ⟨rfl, trivial⟩)

def dc4 : DCode := (.seq (.reg [⟨(some 4), (.asg (.c (.bool false)) none), none, []⟩] false) (.seq (.seq (.reg [⟨(some 5), (.call (.c (.clo 10 [])) []), none, []⟩, ⟨(some 6), (.un .not (.t 5)), none, []⟩, ⟨(some 7), (.mv (.t 6)), none, []⟩, ⟨(some 8), (.mv (.t 0)), (some ⟨7, false⟩), []⟩, ⟨(some 9), (.len false (.t 8)), (some ⟨7, false⟩), []⟩, ⟨(some 10), (.bin .gtr (.t 9) (.c (.int .i64 100))), (some ⟨7, false⟩), []⟩, ⟨(some 11), (.pick (.t 7) (.c (.bool true)) (.t 10)), none, []⟩, ⟨(some 12), (.mv (.t 11)), none, []⟩, ⟨(some 13), (.mv (.t 1)), (some ⟨12, false⟩), []⟩, ⟨(some 14), (.len false (.t 13)), (some ⟨12, false⟩), []⟩, ⟨(some 15), (.bin .gtr (.t 14) (.c (.int .i64 100))), (some ⟨12, false⟩), []⟩, ⟨(some 16), (.pick (.t 12) (.c (.bool true)) (.t 15)), none, []⟩] false) (.cond (.t 16) (.seq (.reg [⟨(some 17), (.mv (.t 0)), none, []⟩, ⟨(some 18), (.len false (.t 17)), none, []⟩, ⟨(some 19), (.bin .gtr (.t 18) (.c (.int .i64 100))), none, []⟩, ⟨(some 20), (.mv (.t 19)), none, []⟩, ⟨(some 21), (.mv (.t 1)), (some ⟨20, false⟩), []⟩, ⟨(some 22), (.len false (.t 21)), (some ⟨20, false⟩), []⟩, ⟨(some 23), (.bin .gtr (.t 22) (.c (.int .i64 100))), (some ⟨20, false⟩), []⟩, ⟨(some 24), (.pick (.t 20) (.c (.bool true)) (.t 23)), none, []⟩, ⟨(some 4), (.asg (.t 24) none), none, []⟩] false) .ret) .skip)) (.seq (.reg [⟨(some 25), (.mv (.t 0)), none, []⟩, ⟨(some 26), (.mv (.t 1)), none, []⟩, ⟨(some 27), (.call (.c (.clo 12 [])) [(.t 25), (.t 26)]), none, []⟩, ⟨(some 28), (.mv (.t 0)), none, []⟩, ⟨(some 29), (.mv (.t 1)), none, []⟩, ⟨(some 30), (.call (.c (.clo 13 [])) [(.t 28), (.t 29)]), none, []⟩, ⟨(some 31), (.call (.c (.clo 11 [])) [(.t 27), (.t 30)]), none, []⟩, ⟨(some 32), (.mv (.t 31)), none, []⟩, ⟨(some 33), (.mv (.t 0)), (some ⟨32, true⟩), []⟩, ⟨(some 34), (.mv (.t 0)), (some ⟨32, true⟩), []⟩, ⟨(some 35), (.call (.c (.clo 12 [])) [(.t 33), (.t 34)]), (some ⟨32, true⟩), []⟩, ⟨(some 36), (.mv (.t 0)), (some ⟨32, true⟩), []⟩, ⟨(some 37), (.call (.c (.clo 11 [])) [(.t 35), (.t 36)]), (some ⟨32, true⟩), []⟩, ⟨(some 38), (.pick (.t 32) (.t 37) (.c (.bool false))), none, []⟩, ⟨(some 39), (.mv (.t 38)), none, []⟩, ⟨(some 40), (.mv (.t 0)), (some ⟨39, true⟩), []⟩, ⟨(some 41), (.call (.c (.clo 12 [])) [(.t 40), (.c .nils)]), (some ⟨39, true⟩), []⟩, ⟨(some 42), (.mv (.t 0)), (some ⟨39, true⟩), []⟩, ⟨(some 43), (.call (.c (.clo 11 [])) [(.t 41), (.t 42)]), (some ⟨39, true⟩), []⟩, ⟨(some 44), (.pick (.t 39) (.t 43) (.c (.bool false))), none, []⟩, ⟨(some 45), (.mv (.t 44)), none, []⟩, ⟨(some 46), (.mv (.t 1)), (some ⟨45, true⟩), []⟩, ⟨(some 47), (.call (.c (.clo 12 [])) [(.c .nils), (.t 46)]), (some ⟨45, true⟩), []⟩, ⟨(some 48), (.mv (.t 1)), (some ⟨45, true⟩), []⟩, ⟨(some 49), (.call (.c (.clo 11 [])) [(.t 47), (.t 48)]), (some ⟨45, true⟩), []⟩, ⟨(some 50), (.pick (.t 45) (.t 49) (.c (.bool false))), none, []⟩, ⟨(some 4), (.asg (.t 50) none), none, []⟩] false) .ret)))
theorem dc4_c : (Try.f4.body.bind (cCode Try.prog Try.f4.ntmps)) = some dc4 := by kernel_rfl
theorem dc4_r : Try.f4.results.toList.mapM (cRes Try.prog) = some [(.t 4)] := by kernel_rfl
def law34_BatchMerge_enc (a : (List TResult) × (List TResult)) : List D := [.sl (a.1.map eResult), .sl (a.2.map eResult)]
def law34_BatchMerge_dec (ds : List D) : (List TResult) × (List TResult) := ((uL uResult) (ds.getD 0 .top), (uL uResult) (ds.getD 1 .top))
theorem law34_BatchMerge_de (a : (List TResult) × (List TResult)) : law34_BatchMerge_dec (law34_BatchMerge_enc a) = a := by simp [law34_BatchMerge_dec, law34_BatchMerge_enc, uI, uBo, uS, uL_e (u := uResult) (en := eResult) uResult_e]
def law34_BatchMerge_R (b : Bool) : D := .bool b
def law34_BatchMerge_E (_b : Bool) : List D := []
noncomputable def law34_BatchMerge_S : Dw.Spec := fSpec [] .ground law34_BatchMerge_enc law34_BatchMerge_dec (fun a => law34_BatchMerge a.1 a.2) law34_BatchMerge_R law34_BatchMerge_E
set_option maxHeartbeats 4000000 in
theorem law34_BatchMerge_ok : SpecOk Try.prog 4 law34_BatchMerge_S := by
  refine fn_ok (specs_ok (l := [(10, law34_awake_S), (12, batch_Merge_S), (13, ref34_Merge_S), (11, ref34_Same_S)]) (by simp [law34_awake_ok, batch_Merge_ok, ref34_Merge_ok, ref34_Same_ok])) Try.func4 (by decide) dc4_c dc4_r (np := 2) (by decide) law34_BatchMerge_de (fun _ => rfl) ?_
  rintro ⟨a1, b2⟩
  show Tr (specs [(10, law34_awake_S), (12, batch_Merge_S), (13, ref34_Merge_S), (11, ref34_Same_S)]) dc4 (kRet [] .ground [(.t 4)] 2 law34_BatchMerge_R law34_BatchMerge_E) ⟨[(0, .sl (a1.map eResult)), (1, .sl (b2.map eResult))], [], 2⟩ (law34_BatchMerge a1 b2)
  unfold dc4 law34_BatchMerge
  refine tr_seq ?_
  refine tr_reg ?_
  refine trO_asg rfl rfl ?_
  refine trO_nil ?_
  refine trX_seq ?_
  refine tr_seq_cut (E := fun (s : Unit) (g : Unit) => [(0, .sl (a1.map eResult)), (1, .sl (b2.map eResult))]) (O := fun s g => []) (j := fun s => law34_BatchMerge_j1 a1 b2) ?_ ?_
  ·
    refine tr_seq_cut (E := fun (s : Bool) (g : Unit) => [(0, .sl (a1.map eResult)), (1, .sl (b2.map eResult)), (16, .bool s)]) (O := fun s g => []) (j := fun s => law34_BatchMerge_j2 a1 b2 s) ?_ ?_
    ·
      refine tr_reg ?_
      refine trO_bind fun r4 hr4 => ?_
      refine trO_call_ground () rfl rfl rfl law34_awake_de rfl rfl (by simp) rfl hr4 rfl ?_
      refine trO_un (w := .bool (!r4)) rfl rfl rfl rfl trivial ?_
      refine trO_mv rfl rfl ?_
      refine trO_split 7 (b := (!r4)) rfl ?_ ?_
      ·
        refine trO_off rfl ?_
        refine trO_off rfl ?_
        refine trO_off rfl ?_
        refine trO_pick_true rfl rfl rfl rfl ?_
        refine trO_mv rfl rfl ?_
        refine trO_off rfl ?_
        refine trO_off rfl ?_
        refine trO_off rfl ?_
        refine trO_pick_true rfl rfl rfl rfl ?_
        refine trO_nil ?_
        exact trX_cut (s := true) () (has_exact ⟨rfl, rfl, rfl, trivial⟩ trivial)
      ·
        refine trO_mv rfl rfl ?_
        refine trO_len_sl rfl rfl ?_
        refine trO_bin (v := .bool (decide ((a1.length : Int) > 100))) rfl rfl rfl rfl rfl ?_
        refine trO_pick_false rfl rfl rfl rfl ?_
        refine trO_mv rfl rfl ?_
        refine trO_split 12 (b := (decide ((a1.length : Int) > 100))) rfl ?_ ?_
        ·
          refine trO_off rfl ?_
          refine trO_off rfl ?_
          refine trO_off rfl ?_
          refine trO_pick_true rfl rfl rfl rfl ?_
          refine trO_nil ?_
          exact trX_cut (s := true) () (has_exact ⟨rfl, rfl, rfl, trivial⟩ trivial)
        ·
          refine trO_mv rfl rfl ?_
          refine trO_len_sl rfl rfl ?_
          refine trO_bin (v := .bool (decide ((b2.length : Int) > 100))) rfl rfl rfl rfl rfl ?_
          refine trO_pick_false rfl rfl rfl rfl ?_
          refine trO_nil ?_
          exact trX_cut (s := (decide ((b2.length : Int) > 100))) () (has_exact ⟨rfl, rfl, rfl, trivial⟩ trivial)
    ·
      rintro x3 ⟨⟩ nn
      show Tr _ _ _ ⟨[(0, .sl (a1.map eResult)), (1, .sl (b2.map eResult)), (16, .bool x3)], [], _⟩ (law34_BatchMerge_j2 a1 b2 x3)
      unfold law34_BatchMerge_j2
      refine tr_cond (c := x3) rfl ?_ ?_
      ·
        refine tr_seq ?_
        refine tr_reg ?_
        refine trO_mv rfl rfl ?_
        refine trO_len_sl rfl rfl ?_
        refine trO_bin (v := .bool (decide ((a1.length : Int) > 100))) rfl rfl rfl rfl rfl ?_
        refine trO_mv rfl rfl ?_
        refine trO_split 20 (b := (decide ((a1.length : Int) > 100))) rfl ?_ ?_
        ·
          refine trO_off rfl ?_
          refine trO_off rfl ?_
          refine trO_off rfl ?_
          refine trO_pick_true rfl rfl rfl rfl ?_
          refine trO_asg rfl rfl ?_
          refine trO_nil ?_
          refine trX_seq ?_
          refine tr_ret ?_
          refine trX_cut_ret ?_
          exact ret_ground (b := true) rfl (by first | (simp; done) | (simp; omega)) rfl rfl (by first | (simp; done) | (simp; omega)) rfl
        ·
          refine trO_mv rfl rfl ?_
          refine trO_len_sl rfl rfl ?_
          refine trO_bin (v := .bool (decide ((b2.length : Int) > 100))) rfl rfl rfl rfl rfl ?_
          refine trO_pick_false rfl rfl rfl rfl ?_
          refine trO_asg rfl rfl ?_
          refine trO_nil ?_
          refine trX_seq ?_
          refine tr_ret ?_
          refine trX_cut_ret ?_
          exact ret_ground (b := (decide ((b2.length : Int) > 100))) rfl (by first | (simp; done) | (simp; omega)) rfl rfl (by first | (simp; done) | (simp; omega)) rfl
      ·
        refine tr_skip ?_
        exact trX_cut (s := ()) () (has_exact ⟨rfl, rfl, trivial⟩ trivial)
  ·
    rintro ⟨⟩ ⟨⟩ nn
    show Tr _ _ _ ⟨[(0, .sl (a1.map eResult)), (1, .sl (b2.map eResult))], [], _⟩ (law34_BatchMerge_j1 a1 b2)
    unfold law34_BatchMerge_j1
    refine tr_seq ?_
    refine tr_reg ?_
    refine trO_mv rfl rfl ?_
    refine trO_mv rfl rfl ?_
    refine trO_bind fun r5 hr5 => ?_
    refine trO_call_row (l := r5) (en := eResult) (a1, b2) rfl rfl rfl batch_Merge_de rfl rfl (by simp) rfl hr5 rfl ?_
    refine trO_mv rfl rfl ?_
    refine trO_mv rfl rfl ?_
    refine trO_bind fun r6 hr6 => ?_
    refine trO_call_row (l := r6) (en := eResult) (a1, b2) rfl rfl rfl ref34_Merge_de rfl rfl (by simp) rfl hr6 rfl ?_
    refine trO_bind fun r7 hr7 => ?_
    refine trO_call_ground (r5, r6) rfl rfl rfl ref34_Same_de rfl rfl (by simp) (by first | rfl | (simp only [take_drop0_map, take_sub_map]; rfl) | simp [ref34_Same_enc]) hr7 rfl ?_
    refine trO_mv rfl rfl ?_
    refine trO_split 32 (b := r7) rfl ?_ ?_
    ·
      refine trO_mv rfl rfl ?_
      refine trO_mv rfl rfl ?_
      refine trO_bind fun r8 hr8 => ?_
      refine trO_call_row (l := r8) (en := eResult) (a1, a1) rfl rfl rfl batch_Merge_de rfl rfl (by simp) rfl hr8 rfl ?_
      refine trO_mv rfl rfl ?_
      refine trO_bind fun r9 hr9 => ?_
      refine trO_call_ground (r8, a1) rfl rfl rfl ref34_Same_de rfl rfl (by simp) (by first | rfl | (simp only [take_drop0_map, take_sub_map]; rfl) | simp [ref34_Same_enc]) hr9 rfl ?_
      refine trO_pick_true rfl rfl rfl rfl ?_
      refine trO_mv rfl rfl ?_
      refine trO_split 39 (b := r9) rfl ?_ ?_
      ·
        refine trO_mv rfl rfl ?_
        refine trO_bind fun r10 hr10 => ?_
        refine trO_call_row (l := r10) (en := eResult) (a1, []) rfl rfl rfl batch_Merge_de rfl rfl (by simp) (by first | rfl | (simp only [take_drop0_map, take_sub_map]; rfl) | simp [batch_Merge_enc]) hr10 rfl ?_
        refine trO_mv rfl rfl ?_
        refine trO_bind fun r11 hr11 => ?_
        refine trO_call_ground (r10, a1) rfl rfl rfl ref34_Same_de rfl rfl (by simp) (by first | rfl | (simp only [take_drop0_map, take_sub_map]; rfl) | simp [ref34_Same_enc]) hr11 rfl ?_
        refine trO_pick_true rfl rfl rfl rfl ?_
        refine trO_mv rfl rfl ?_
        refine trO_split 45 (b := r11) rfl ?_ ?_
        ·
          refine trO_mv rfl rfl ?_
          refine trO_bind fun r12 hr12 => ?_
          refine trO_call_row (l := r12) (en := eResult) ([], b2) rfl rfl rfl batch_Merge_de rfl rfl (by simp) (by first | rfl | (simp only [take_drop0_map, take_sub_map]; rfl) | simp [batch_Merge_enc]) hr12 rfl ?_
          refine trO_mv rfl rfl ?_
          refine trO_bind fun r13 hr13 => ?_
          refine trO_call_ground (r12, b2) rfl rfl rfl ref34_Same_de rfl rfl (by simp) (by first | rfl | (simp only [take_drop0_map, take_sub_map]; rfl) | simp [ref34_Same_enc]) hr13 rfl ?_
          refine trO_pick_true rfl rfl rfl rfl ?_
          refine trO_asg rfl rfl ?_
          refine trO_nil ?_
          refine trX_seq ?_
          refine tr_ret ?_
          exact ret_ground (b := r13) rfl (by first | (simp; done) | (simp; omega)) rfl rfl (by first | (simp; done) | (simp; omega)) rfl
        ·
          refine trO_off rfl ?_
          refine trO_off rfl ?_
          refine trO_off rfl ?_
          refine trO_off rfl ?_
          refine trO_pick_false rfl rfl rfl rfl ?_
          refine trO_asg rfl rfl ?_
          refine trO_nil ?_
          refine trX_seq ?_
          refine tr_ret ?_
          exact ret_ground (b := false) rfl (by first | (simp; done) | (simp; omega)) rfl rfl (by first | (simp; done) | (simp; omega)) rfl
      ·
        refine trO_off rfl ?_
        refine trO_off rfl ?_
        refine trO_off rfl ?_
        refine trO_off rfl ?_
        refine trO_pick_false rfl rfl rfl rfl ?_
        refine trO_mv rfl rfl ?_
        refine trO_off rfl ?_
        refine trO_off rfl ?_
        refine trO_off rfl ?_
        refine trO_off rfl ?_
        refine trO_pick_false rfl rfl rfl rfl ?_
        refine trO_asg rfl rfl ?_
        refine trO_nil ?_
        refine trX_seq ?_
        refine tr_ret ?_
        exact ret_ground (b := false) rfl (by first | (simp; done) | (simp; omega)) rfl rfl (by first | (simp; done) | (simp; omega)) rfl
    ·
      refine trO_off rfl ?_
      refine trO_off rfl ?_
      refine trO_off rfl ?_
      refine trO_off rfl ?_
      refine trO_off rfl ?_
      refine trO_pick_false rfl rfl rfl rfl ?_
      refine trO_mv rfl rfl ?_
      refine trO_off rfl ?_
      refine trO_off rfl ?_
      refine trO_off rfl ?_
      refine trO_off rfl ?_
      refine trO_pick_false rfl rfl rfl rfl ?_
      refine trO_mv rfl rfl ?_
      refine trO_off rfl ?_
      refine trO_off rfl ?_
      refine trO_off rfl ?_
      refine trO_off rfl ?_
      refine trO_pick_false rfl rfl rfl rfl ?_
      refine trO_asg rfl rfl ?_
      refine trO_nil ?_
      refine trX_seq ?_
      refine tr_ret ?_
      exact ret_ground (b := false) rfl (by first | (simp; done) | (simp; omega)) rfl rfl (by first | (simp; done) | (simp; omega)) rfl

end Go.Proofs.Ytihomlbcppfngaa
