/-
  Programs on typed data, and the proofs that the code does what they say; written by a program (dx.py).
-/
import Derived.Test.YtlphpepmbcbmiaaProg
import Derived.Test.YtlphpepmbcbmiaaDx4
import Derived.Test.YtlphpepmbcbmiaaDy1
import Derived.KernelRfl
import Derived.Test.YtlphpepmbcbmiaaDxP
import Derived.Test.YtlphpepmbcbmiaaDxF1
import Derived.Test.YtlphpepmbcbmiaaDxF2
namespace Go.Proofs.Ytlphpepmbcbmiaa
open Go Go.Dw Go.Proofs
set_option maxRecDepth 100000
def dc44 : DCode := (.seq (.reg [⟨(some 2), (.box (.t 0) 3 27), none, []⟩, ⟨(some 4), (.asg (.c (.bool false)) none), none, []⟩] false) (.seq (.seq (.reg [⟨(some 7), (.mv (.t 1)), none, []⟩, ⟨(some 8), (.bin .eql (.t 7) (.c (.int .i64 0))), none, []⟩] false) (.cond (.t 8) (.seq (.reg [⟨(some 4), (.asg (.c (.bool true)) none), none, []⟩] false) .ret) .skip)) (.seq (.seq (.reg [⟨(some 9), (.fldA 2 (.t 2)), none, []⟩, ⟨(some 10), (.ld 1 false (.t 9)), none, []⟩, ⟨(some 11), (.mv (.t 1)), none, []⟩, ⟨(some 12), (.bin .sub (.t 11) (.c (.int .i64 1))), none, []⟩, ⟨(some 13), (.ixA 5 (.t 10) (.t 12)), none, []⟩, ⟨(some 14), (.fldA 0 (.t 13)), none, []⟩, ⟨(some 15), (.ld 1 false (.t 14)), none, []⟩] false) (.block 0 (.seq (.seq (.reg [⟨(some 17), (.bin .eql (.t 15) (.c (.int .i64 20))), none, []⟩, ⟨(some 16), (.asg (.t 17) none), none, []⟩] false) (.cond (.t 16) .skip (.seq (.reg [⟨(some 18), (.bin .eql (.t 15) (.c (.int .i64 21))), none, []⟩, ⟨(some 16), (.asg (.t 18) none), none, []⟩] false) (.cond (.t 16) .skip (.seq (.reg [⟨(some 19), (.bin .eql (.t 15) (.c (.int .i64 23))), none, []⟩, ⟨(some 16), (.asg (.t 19) none), none, []⟩] false) (.cond (.t 16) .skip (.reg [⟨(some 20), (.bin .eql (.t 15) (.c (.int .i64 24))), none, []⟩, ⟨(some 16), (.asg (.t 20) none), none, []⟩] false))))))) (.cond (.t 16) (.seq (.reg [⟨(some 4), (.asg (.c (.bool true)) none), none, []⟩] false) .ret) .skip)))) (.seq (.seq (.reg [⟨(some 5), (.asg (.c (.int .i64 0)) none), none, []⟩] false) (.block 1 (.loop (.seq (.seq (.reg [⟨(some 21), (.mv (.t 5)), none, []⟩, ⟨(some 22), (.fldA 2 (.t 2)), none, []⟩, ⟨(some 23), (.ld 1 false (.t 22)), none, []⟩, ⟨(some 24), (.len false (.t 23)), none, []⟩, ⟨(some 25), (.bin .lss (.t 21) (.t 24)), none, []⟩] false) (.cond (.t 25) .skip (.exit 1))) (.seq (.block 2 (.seq (.reg [⟨(some 28), (.fldA 2 (.t 2)), none, []⟩, ⟨(some 29), (.ld 1 false (.t 28)), none, []⟩, ⟨(some 30), (.mv (.t 5)), none, []⟩, ⟨(some 31), (.ixA 5 (.t 29) (.t 30)), none, []⟩, ⟨(some 32), (.ld 5 true (.t 31)), none, []⟩, ⟨(some 6), (.new (.agg [(.int .i64 0), (.int .i64 0), (.int .i64 0), (.int .i64 0), (.int .u64 0)]) 5 52), none, []⟩, ⟨none, (.st 5 (.t 6) (.t 32)), none, []⟩] false) (.seq (.reg [⟨(some 33), (.fldA 0 (.t 6)), none, []⟩, ⟨(some 34), (.ld 1 false (.t 33)), none, []⟩, ⟨(some 35), (.bin .eql (.t 34) (.c (.int .i64 20))), none, []⟩, ⟨(some 36), (.mv (.t 35)), none, []⟩, ⟨(some 37), (.fldA 1 (.t 6)), (some ⟨36, true⟩), []⟩, ⟨(some 38), (.ld 1 false (.t 37)), (some ⟨36, true⟩), []⟩, ⟨(some 39), (.mv (.t 1)), (some ⟨36, true⟩), []⟩, ⟨(some 40), (.bin .eql (.t 38) (.t 39)), (some ⟨36, true⟩), []⟩, ⟨(some 41), (.pick (.t 36) (.t 40) (.c (.bool false))), none, []⟩, ⟨(some 42), (.mv (.t 41)), none, []⟩, ⟨(some 43), (.fldA 0 (.t 6)), (some ⟨42, false⟩), []⟩, ⟨(some 44), (.ld 1 false (.t 43)), (some ⟨42, false⟩), []⟩, ⟨(some 45), (.bin .eql (.t 44) (.c (.int .i64 21))), (some ⟨42, false⟩), []⟩, ⟨(some 46), (.mv (.t 45)), (some ⟨42, false⟩), []⟩, ⟨(some 47), (.fldA 2 (.t 6)), (some ⟨46, true⟩), []⟩, ⟨(some 48), (.ld 1 false (.t 47)), (some ⟨46, true⟩), []⟩, ⟨(some 49), (.mv (.t 1)), (some ⟨46, true⟩), []⟩, ⟨(some 50), (.bin .eql (.t 48) (.t 49)), (some ⟨46, true⟩), []⟩, ⟨(some 51), (.pick (.t 46) (.t 50) (.c (.bool false))), (some ⟨42, false⟩), []⟩, ⟨(some 52), (.pick (.t 42) (.c (.bool true)) (.t 51)), none, []⟩] false) (.cond (.t 52) (.seq (.reg [⟨(some 4), (.asg (.c (.bool true)) none), none, []⟩] false) .ret) .skip)))) (.reg [⟨(some 26), (.mv (.t 5)), none, []⟩, ⟨(some 27), (.bin .add (.t 26) (.c (.int .i64 1))), none, []⟩, ⟨(some 5), (.asg (.t 27) none), none, []⟩] false)))))) (.seq (.reg [⟨(some 4), (.asg (.c (.bool false)) none), none, []⟩] false) .ret)))))
theorem dc44_c : (Try.f44.body.bind (cCode Try.prog Try.f44.ntmps)) = some dc44 := by kernel_rfl
theorem dc44_r : Try.f44.results.toList.mapM (cRes Try.prog) = some [(.t 4)] := by kernel_rfl
def ref13_leader_enc (a : TFunc × Int) : List D := [eFunc a.1, .int .i64 a.2]
def ref13_leader_dec (ds : List D) : TFunc × Int := (uFunc (ds.getD 0 .top), uI (ds.getD 1 .top))
theorem ref13_leader_de (a : TFunc × Int) : ref13_leader_dec (ref13_leader_enc a) = a := by simp [ref13_leader_dec, ref13_leader_enc, uI, uBo, uS]
def ref13_leader_R (b : Bool) : D := .bool b
def ref13_leader_E (_b : Bool) : List D := []
noncomputable def ref13_leader_S : Dw.Spec := fSpec [] .ground ref13_leader_enc ref13_leader_dec (fun a => ref13_leader a.1 a.2) ref13_leader_R ref13_leader_E
set_option maxHeartbeats 4000000 in
theorem ref13_leader_ok : SpecOk Try.prog 44 ref13_leader_S := by
  refine fn_ok (specs_nil) Try.func44 (by decide) dc44_c dc44_r (np := 2) (by decide) ref13_leader_de (fun _ => rfl) ?_
  rintro ⟨f1, k2⟩
  show Tr (specs []) dc44 (kRet [] .ground [(.t 4)] 2 ref13_leader_R ref13_leader_E) ⟨[(0, .agg [.int .i64 f1.Params, .sl (f1.Slots.map eSlot), .sl (f1.Code.map eInstr)]), (1, .int .i64 k2)], [], 2⟩ (ref13_leader f1 k2)
  unfold dc44 ref13_leader
  refine tr_seq ?_
  refine tr_reg ?_
  refine trO_box rfl rfl rfl rfl rfl ?_
  refine trO_asg rfl rfl ?_
  refine trO_nil ?_
  refine trX_seq ?_
  refine tr_seq ?_
  refine tr_seq ?_
  refine tr_reg ?_
  refine trO_mv rfl rfl ?_
  refine trO_bin (v := .bool (k2 == 0)) rfl rfl rfl rfl rfl ?_
  refine trO_nil ?_
  refine trX_seq ?_
  refine tr_cond (c := (k2 == 0)) rfl ?_ ?_
  ·
    refine tr_seq ?_
    refine tr_reg ?_
    refine trO_asg rfl rfl ?_
    refine trO_nil ?_
    refine trX_seq ?_
    refine tr_ret ?_
    refine trX_seq_ret ?_
    exact ret_ground (b := true) rfl (by first | (simp; done) | (simp; omega)) rfl rfl (by first | (simp; done) | (simp; omega)) rfl
  ·
    refine tr_skip ?_
    refine trX_seq ?_
    refine tr_seq_cut (E := fun (s : Unit) (g : Nat) => [(1, .int .i64 k2), (2, .optr 2 g 0 0)]) (O := fun s g => [(2, some (g, ⟨false, true, 3, 27, [.agg [.int .i64 f1.Params, .sl (f1.Slots.map eSlot), .sl (f1.Code.map eInstr)]]⟩))]) (j := fun s => ref13_leader_j1 f1 k2) ?_ ?_
    ·
      refine tr_seq ?_
      refine tr_reg ?_
      refine trO_fldA rfl rfl ?_
      refine trO_ld_obj (v := .sl (f1.Code.map eInstr)) (z := .agg [.int .i64 f1.Params, .sl (f1.Slots.map eSlot), .sl (f1.Code.map eInstr)]) rfl rfl rfl rfl rfl rfl ?_
      refine trO_mv rfl rfl ?_
      refine trO_bin (v := .int .i64 (IntKind.i64.wrap (k2 - 1))) rfl rfl rfl rfl rfl ?_
      refine trO_bind fun x_x3 hx_x3 => ?_
      refine trO_ixA_sl (en := eInstr) rfl rfl rfl hx_x3 rfl ?_
      refine trO_fldA_f rfl rfl ?_
      refine trO_ld_f (v := .int .i64 x_x3.Op) rfl rfl rfl rfl ?_
      refine trO_nil ?_
      refine trX_seq ?_
      refine tr_block ?_
      refine tr_seq ?_
      refine tr_seq ?_
      refine tr_reg ?_
      refine trO_bin (v := .bool (x_x3.Op == 20)) rfl rfl rfl rfl rfl ?_
      refine trO_asg rfl rfl ?_
      refine trO_nil ?_
      refine trX_seq ?_
      refine tr_cond (c := (x_x3.Op == 20)) rfl ?_ ?_
      ·
        refine tr_skip ?_
        refine trX_seq ?_
        refine tr_cond (c := (x_x3.Op == 20)) rfl ?_ ?_
        ·
          refine tr_seq ?_
          refine tr_reg ?_
          refine trO_asg rfl rfl ?_
          refine trO_nil ?_
          refine trX_seq ?_
          refine tr_ret ?_
          refine trX_blk_ret ?_
          refine trX_cut_ret ?_
          exact ret_ground (b := true) rfl (by first | (simp; done) | (simp; omega)) rfl rfl (by first | (simp; done) | (simp; omega)) rfl
        ·
          refine tr_skip ?_
          refine trX_blk_normal ?_
          exact trX_cut (s := ()) _ (has_exact ⟨rfl, rfl, trivial⟩ ⟨rfl, trivial⟩)
      ·
        refine tr_seq ?_
        refine tr_reg ?_
        refine trO_bin (v := .bool (x_x3.Op == 21)) rfl rfl rfl rfl rfl ?_
        refine trO_asg rfl rfl ?_
        refine trO_nil ?_
        refine trX_seq ?_
        refine tr_cond (c := (x_x3.Op == 21)) rfl ?_ ?_
        ·
          refine tr_skip ?_
          refine trX_seq ?_
          refine tr_cond (c := (x_x3.Op == 21)) rfl ?_ ?_
          ·
            refine tr_seq ?_
            refine tr_reg ?_
            refine trO_asg rfl rfl ?_
            refine trO_nil ?_
            refine trX_seq ?_
            refine tr_ret ?_
            refine trX_blk_ret ?_
            refine trX_cut_ret ?_
            exact ret_ground (b := true) rfl (by first | (simp; done) | (simp; omega)) rfl rfl (by first | (simp; done) | (simp; omega)) rfl
          ·
            refine tr_skip ?_
            refine trX_blk_normal ?_
            exact trX_cut (s := ()) _ (has_exact ⟨rfl, rfl, trivial⟩ ⟨rfl, trivial⟩)
        ·
          refine tr_seq ?_
          refine tr_reg ?_
          refine trO_bin (v := .bool (x_x3.Op == 23)) rfl rfl rfl rfl rfl ?_
          refine trO_asg rfl rfl ?_
          refine trO_nil ?_
          refine trX_seq ?_
          refine tr_cond (c := (x_x3.Op == 23)) rfl ?_ ?_
          ·
            refine tr_skip ?_
            refine trX_seq ?_
            refine tr_cond (c := (x_x3.Op == 23)) rfl ?_ ?_
            ·
              refine tr_seq ?_
              refine tr_reg ?_
              refine trO_asg rfl rfl ?_
              refine trO_nil ?_
              refine trX_seq ?_
              refine tr_ret ?_
              refine trX_blk_ret ?_
              refine trX_cut_ret ?_
              exact ret_ground (b := true) rfl (by first | (simp; done) | (simp; omega)) rfl rfl (by first | (simp; done) | (simp; omega)) rfl
            ·
              refine tr_skip ?_
              refine trX_blk_normal ?_
              exact trX_cut (s := ()) _ (has_exact ⟨rfl, rfl, trivial⟩ ⟨rfl, trivial⟩)
          ·
            refine tr_reg ?_
            refine trO_bin (v := .bool (x_x3.Op == 24)) rfl rfl rfl rfl rfl ?_
            refine trO_asg rfl rfl ?_
            refine trO_nil ?_
            refine trX_seq ?_
            refine tr_cond (c := (x_x3.Op == 24)) rfl ?_ ?_
            ·
              refine tr_seq ?_
              refine tr_reg ?_
              refine trO_asg rfl rfl ?_
              refine trO_nil ?_
              refine trX_seq ?_
              refine tr_ret ?_
              refine trX_blk_ret ?_
              refine trX_cut_ret ?_
              exact ret_ground (b := true) rfl (by first | (simp; done) | (simp; omega)) rfl rfl (by first | (simp; done) | (simp; omega)) rfl
            ·
              refine tr_skip ?_
              refine trX_blk_normal ?_
              exact trX_cut (s := ()) _ (has_exact ⟨rfl, rfl, trivial⟩ ⟨rfl, trivial⟩)
    ·
      rintro ⟨⟩ v2 nn
      show Tr _ _ _ ⟨[(1, .int .i64 k2), (2, .optr 2 v2 0 0)], [(2, some (v2, ⟨false, true, 3, 27, [.agg [.int .i64 f1.Params, .sl (f1.Slots.map eSlot), .sl (f1.Code.map eInstr)]]⟩))], _⟩ (ref13_leader_j1 f1 k2)
      unfold ref13_leader_j1
      refine tr_seq ?_
      refine tr_seq ?_
      refine tr_reg ?_
      refine trO_asg rfl rfl ?_
      refine trO_nil ?_
      refine trX_seq ?_
      refine tr_block ?_
      refine tr_loop (E := fun (s : Int) (g : Nat) => [(1, .int .i64 k2), (2, .optr 2 g 0 0), (5, .int .i64 s)]) (O := fun s g => [(2, some (g, ⟨false, true, 3, 27, [.agg [.int .i64 f1.Params, .sl (f1.Slots.map eSlot), .sl (f1.Code.map eInstr)]]⟩))]) (body := fun s => ref13_leader_b2 f1 k2 s) (s := 0) _ (has_exact ⟨rfl, rfl, rfl, trivial⟩ ⟨rfl, trivial⟩) ?_
      rintro i4 v2 nn
      show Tr _ _ _ ⟨[(1, .int .i64 k2), (2, .optr 2 v2 0 0), (5, .int .i64 i4)], [(2, some (v2, ⟨false, true, 3, 27, [.agg [.int .i64 f1.Params, .sl (f1.Slots.map eSlot), .sl (f1.Code.map eInstr)]]⟩))], _⟩ (ref13_leader_b2 f1 k2 i4)
      unfold ref13_leader_b2
      refine tr_seq ?_
      refine tr_seq ?_
      refine tr_reg ?_
      refine trO_mv rfl rfl ?_
      refine trO_fldA rfl rfl ?_
      refine trO_ld_obj (v := .sl (f1.Code.map eInstr)) (z := .agg [.int .i64 f1.Params, .sl (f1.Slots.map eSlot), .sl (f1.Code.map eInstr)]) rfl rfl rfl rfl rfl rfl ?_
      refine trO_len_sl rfl rfl ?_
      refine trO_bin (v := .bool (decide (i4 < (f1.Code.length : Int)))) rfl rfl rfl rfl rfl ?_
      refine trO_nil ?_
      refine trX_seq ?_
      refine tr_cond (c := (decide (i4 < (f1.Code.length : Int)))) rfl ?_ ?_
      ·
        refine tr_skip ?_
        refine trX_seq ?_
        refine tr_seq ?_
        refine tr_block ?_
        refine tr_seq ?_
        refine tr_reg ?_
        refine trO_fldA rfl rfl ?_
        refine trO_ld_obj (v := .sl (f1.Code.map eInstr)) (z := .agg [.int .i64 f1.Params, .sl (f1.Slots.map eSlot), .sl (f1.Code.map eInstr)]) rfl rfl rfl rfl rfl rfl ?_
        refine trO_mv rfl rfl ?_
        refine trO_bind fun x_x5 hx_x5 => ?_
        refine trO_ixA_sl (en := eInstr) rfl rfl rfl hx_x5 rfl ?_
        refine trO_ld_f (v := .agg [.int .i64 x_x5.Op, .int .i64 x_x5.A, .int .i64 x_x5.B, .int .i64 x_x5.C, .int .u64 x_x5.Imm]) rfl rfl rfl rfl ?_
        refine trO_new rfl ?_
        refine trO_st_var (z' := .agg [.int .i64 x_x5.Op, .int .i64 x_x5.A, .int .i64 x_x5.B, .int .i64 x_x5.C, .int .u64 x_x5.Imm]) rfl rfl rfl rfl rfl rfl rfl rfl rfl ?_
        refine trO_nil ?_
        refine trX_seq ?_
        refine tr_seq ?_
        refine tr_reg ?_
        refine trO_fldA rfl rfl ?_
        refine trO_ld_obj (v := .int .i64 x_x5.Op) (z := .agg [.int .i64 x_x5.Op, .int .i64 x_x5.A, .int .i64 x_x5.B, .int .i64 x_x5.C, .int .u64 x_x5.Imm]) rfl rfl rfl rfl rfl rfl ?_
        refine trO_bin (v := .bool (x_x5.Op == 20)) rfl rfl rfl rfl rfl ?_
        refine trO_mv rfl rfl ?_
        refine trO_split 36 (b := (x_x5.Op == 20)) rfl ?_ ?_
        ·
          refine trO_fldA rfl rfl ?_
          refine trO_ld_obj (v := .int .i64 x_x5.A) (z := .agg [.int .i64 x_x5.Op, .int .i64 x_x5.A, .int .i64 x_x5.B, .int .i64 x_x5.C, .int .u64 x_x5.Imm]) rfl rfl rfl rfl rfl rfl ?_
          refine trO_mv rfl rfl ?_
          refine trO_bin (v := .bool (x_x5.A == k2)) rfl rfl rfl rfl rfl ?_
          refine trO_pick_true rfl rfl rfl rfl ?_
          refine trO_mv rfl rfl ?_
          refine trO_split 42 (b := (x_x5.A == k2)) rfl ?_ ?_
          ·
            refine trO_off rfl ?_
            refine trO_off rfl ?_
            refine trO_off rfl ?_
            refine trO_off rfl ?_
            refine trO_off rfl ?_
            refine trO_off rfl ?_
            refine trO_off rfl ?_
            refine trO_off rfl ?_
            refine trO_off rfl ?_
            refine trO_pick_true rfl rfl rfl rfl ?_
            refine trO_nil ?_
            refine trX_seq ?_
            refine tr_cond_true rfl ?_
            refine tr_seq ?_
            refine tr_reg ?_
            refine trO_asg rfl rfl ?_
            refine trO_nil ?_
            refine trX_seq ?_
            refine tr_ret ?_
            refine trX_blk_ret ?_
            refine trX_seq_ret ?_
            refine trX_loop_ret ?_
            refine trX_blk_ret ?_
            refine trX_seq_ret ?_
            exact ret_ground (b := true) rfl (by first | (simp; done) | (simp; omega)) rfl rfl (by first | (simp; done) | (simp; omega)) rfl
          ·
            refine trO_fldA rfl rfl ?_
            refine trO_ld_obj (v := .int .i64 x_x5.Op) (z := .agg [.int .i64 x_x5.Op, .int .i64 x_x5.A, .int .i64 x_x5.B, .int .i64 x_x5.C, .int .u64 x_x5.Imm]) rfl rfl rfl rfl rfl rfl ?_
            refine trO_bin (v := .bool (x_x5.Op == 21)) rfl rfl rfl rfl rfl ?_
            refine trO_mv rfl rfl ?_
            refine trO_split 46 (b := (x_x5.Op == 21)) rfl ?_ ?_
            ·
              refine trO_fldA rfl rfl ?_
              refine trO_ld_obj (v := .int .i64 x_x5.B) (z := .agg [.int .i64 x_x5.Op, .int .i64 x_x5.A, .int .i64 x_x5.B, .int .i64 x_x5.C, .int .u64 x_x5.Imm]) rfl rfl rfl rfl rfl rfl ?_
              refine trO_mv rfl rfl ?_
              refine trO_bin (v := .bool (x_x5.B == k2)) rfl rfl rfl rfl rfl ?_
              refine trO_pick_true rfl rfl rfl rfl ?_
              refine trO_pick_false rfl rfl rfl rfl ?_
              refine trO_nil ?_
              refine trX_seq ?_
              refine tr_cond (c := (x_x5.B == k2)) rfl ?_ ?_
              ·
                refine tr_seq ?_
                refine tr_reg ?_
                refine trO_asg rfl rfl ?_
                refine trO_nil ?_
                refine trX_seq ?_
                refine tr_ret ?_
                refine trX_blk_ret ?_
                refine trX_seq_ret ?_
                refine trX_loop_ret ?_
                refine trX_blk_ret ?_
                refine trX_seq_ret ?_
                exact ret_ground (b := true) rfl (by first | (simp; done) | (simp; omega)) rfl rfl (by first | (simp; done) | (simp; omega)) rfl
              ·
                refine tr_skip ?_
                refine trX_blk_normal ?_
                refine trX_seq ?_
                refine tr_reg ?_
                refine trO_mv rfl rfl ?_
                refine trO_bin (v := .int .i64 (IntKind.i64.wrap (i4 + 1))) rfl rfl rfl rfl rfl ?_
                refine trO_asg rfl rfl ?_
                refine trO_nil ?_
                exact trX_loop (s := IntKind.i64.wrap (i4 + 1)) _ (has_exact ⟨rfl, rfl, rfl, trivial⟩ ⟨rfl, trivial⟩)
            ·
              refine trO_off rfl ?_
              refine trO_off rfl ?_
              refine trO_off rfl ?_
              refine trO_off rfl ?_
              refine trO_pick_false rfl rfl rfl rfl ?_
              refine trO_pick_false rfl rfl rfl rfl ?_
              refine trO_nil ?_
              refine trX_seq ?_
              refine tr_cond_false rfl ?_
              refine tr_skip ?_
              refine trX_blk_normal ?_
              refine trX_seq ?_
              refine tr_reg ?_
              refine trO_mv rfl rfl ?_
              refine trO_bin (v := .int .i64 (IntKind.i64.wrap (i4 + 1))) rfl rfl rfl rfl rfl ?_
              refine trO_asg rfl rfl ?_
              refine trO_nil ?_
              exact trX_loop (s := IntKind.i64.wrap (i4 + 1)) _ (has_exact ⟨rfl, rfl, rfl, trivial⟩ ⟨rfl, trivial⟩)
        ·
          refine trO_off rfl ?_
          refine trO_off rfl ?_
          refine trO_off rfl ?_
          refine trO_off rfl ?_
          refine trO_pick_false rfl rfl rfl rfl ?_
          refine trO_mv rfl rfl ?_
          refine trO_fldA rfl rfl ?_
          refine trO_ld_obj (v := .int .i64 x_x5.Op) (z := .agg [.int .i64 x_x5.Op, .int .i64 x_x5.A, .int .i64 x_x5.B, .int .i64 x_x5.C, .int .u64 x_x5.Imm]) rfl rfl rfl rfl rfl rfl ?_
          refine trO_bin (v := .bool (x_x5.Op == 21)) rfl rfl rfl rfl rfl ?_
          refine trO_mv rfl rfl ?_
          refine trO_split 46 (b := (x_x5.Op == 21)) rfl ?_ ?_
          ·
            refine trO_fldA rfl rfl ?_
            refine trO_ld_obj (v := .int .i64 x_x5.B) (z := .agg [.int .i64 x_x5.Op, .int .i64 x_x5.A, .int .i64 x_x5.B, .int .i64 x_x5.C, .int .u64 x_x5.Imm]) rfl rfl rfl rfl rfl rfl ?_
            refine trO_mv rfl rfl ?_
            refine trO_bin (v := .bool (x_x5.B == k2)) rfl rfl rfl rfl rfl ?_
            refine trO_pick_true rfl rfl rfl rfl ?_
            refine trO_pick_false rfl rfl rfl rfl ?_
            refine trO_nil ?_
            refine trX_seq ?_
            refine tr_cond (c := (x_x5.B == k2)) rfl ?_ ?_
            ·
              refine tr_seq ?_
              refine tr_reg ?_
              refine trO_asg rfl rfl ?_
              refine trO_nil ?_
              refine trX_seq ?_
              refine tr_ret ?_
              refine trX_blk_ret ?_
              refine trX_seq_ret ?_
              refine trX_loop_ret ?_
              refine trX_blk_ret ?_
              refine trX_seq_ret ?_
              exact ret_ground (b := true) rfl (by first | (simp; done) | (simp; omega)) rfl rfl (by first | (simp; done) | (simp; omega)) rfl
            ·
              refine tr_skip ?_
              refine trX_blk_normal ?_
              refine trX_seq ?_
              refine tr_reg ?_
              refine trO_mv rfl rfl ?_
              refine trO_bin (v := .int .i64 (IntKind.i64.wrap (i4 + 1))) rfl rfl rfl rfl rfl ?_
              refine trO_asg rfl rfl ?_
              refine trO_nil ?_
              exact trX_loop (s := IntKind.i64.wrap (i4 + 1)) _ (has_exact ⟨rfl, rfl, rfl, trivial⟩ ⟨rfl, trivial⟩)
          ·
            refine trO_off rfl ?_
            refine trO_off rfl ?_
            refine trO_off rfl ?_
            refine trO_off rfl ?_
            refine trO_pick_false rfl rfl rfl rfl ?_
            refine trO_pick_false rfl rfl rfl rfl ?_
            refine trO_nil ?_
            refine trX_seq ?_
            refine tr_cond_false rfl ?_
            refine tr_skip ?_
            refine trX_blk_normal ?_
            refine trX_seq ?_
            refine tr_reg ?_
            refine trO_mv rfl rfl ?_
            refine trO_bin (v := .int .i64 (IntKind.i64.wrap (i4 + 1))) rfl rfl rfl rfl rfl ?_
            refine trO_asg rfl rfl ?_
            refine trO_nil ?_
            exact trX_loop (s := IntKind.i64.wrap (i4 + 1)) _ (has_exact ⟨rfl, rfl, rfl, trivial⟩ ⟨rfl, trivial⟩)
      ·
        refine tr_exit ?_
        refine trX_seq_exit ?_
        refine trX_loop_exit ?_
        refine trX_blk_here ?_
        refine trX_seq ?_
        refine tr_seq ?_
        refine tr_reg ?_
        refine trO_asg rfl rfl ?_
        refine trO_nil ?_
        refine trX_seq ?_
        refine tr_ret ?_
        exact ret_ground (b := false) rfl (by first | (simp; done) | (simp; omega)) rfl rfl (by first | (simp; done) | (simp; omega)) rfl

def dc24 : DCode := (.seq (.reg [⟨(some 2), (.box (.t 0) 3 27), none, []⟩, ⟨(some 4), (.new (.agg [(.int .i64 0), (.int .i64 0)]) 2 43), none, []⟩] false) (.seq (.seq (.reg [⟨(some 7), (.mv (.t 1)), none, []⟩, ⟨(some 8), (.bin .lss (.t 7) (.c (.int .i64 0))), none, []⟩, ⟨(some 9), (.mv (.t 8)), none, []⟩, ⟨(some 10), (.mv (.t 1)), (some ⟨9, false⟩), []⟩, ⟨(some 11), (.fldA 2 (.t 2)), (some ⟨9, false⟩), []⟩, ⟨(some 12), (.ld 1 false (.t 11)), (some ⟨9, false⟩), []⟩, ⟨(some 13), (.len false (.t 12)), (some ⟨9, false⟩), []⟩, ⟨(some 14), (.bin .geq (.t 10) (.t 13)), (some ⟨9, false⟩), []⟩, ⟨(some 15), (.pick (.t 9) (.c (.bool true)) (.t 14)), none, []⟩] false) (.cond (.t 15) (.seq (.reg [⟨(some 16), (.bld [(.int .i64 0), (.int .i64 0)] []), none, []⟩, ⟨none, (.st 2 (.t 4) (.t 16)), none, []⟩] false) .ret) .skip)) (.seq (.reg [⟨(some 17), (.mv (.t 1)), none, []⟩, ⟨(some 18), (.mv (.t 1)), none, []⟩, ⟨(some 19), (.bin .add (.t 18) (.c (.int .i64 1))), none, []⟩, ⟨(some 5), (.asg (.t 17) none), none, []⟩, ⟨(some 6), (.asg (.t 19) none), none, []⟩] false) (.seq (.block 0 (.loop (.seq (.seq (.reg [⟨(some 20), (.ld 3 true (.t 2)), none, []⟩, ⟨(some 21), (.mv (.t 5)), none, []⟩, ⟨(some 22), (.call (.c (.clo 44 [])) [(.t 20), (.t 21)]), none, []⟩, ⟨(some 23), (.un .not (.t 22)), none, []⟩] false) (.cond (.t 23) .skip (.exit 0))) (.block 1 (.reg [⟨(some 24), (.mv (.t 5)), none, []⟩, ⟨(some 25), (.bin .sub (.t 24) (.c (.int .i64 1))), none, []⟩, ⟨(some 5), (.asg (.t 25) none), none, []⟩] false))))) (.seq (.block 2 (.loop (.seq (.seq (.reg [⟨(some 26), (.mv (.t 6)), none, []⟩, ⟨(some 27), (.fldA 2 (.t 2)), none, []⟩, ⟨(some 28), (.ld 1 false (.t 27)), none, []⟩, ⟨(some 29), (.len false (.t 28)), none, []⟩, ⟨(some 30), (.bin .lss (.t 26) (.t 29)), none, []⟩, ⟨(some 31), (.mv (.t 30)), none, []⟩, ⟨(some 32), (.ld 3 true (.t 2)), (some ⟨31, true⟩), []⟩, ⟨(some 33), (.mv (.t 6)), (some ⟨31, true⟩), []⟩, ⟨(some 34), (.call (.c (.clo 44 [])) [(.t 32), (.t 33)]), (some ⟨31, true⟩), []⟩, ⟨(some 35), (.un .not (.t 34)), (some ⟨31, true⟩), []⟩, ⟨(some 36), (.pick (.t 31) (.t 35) (.c (.bool false))), none, []⟩] false) (.cond (.t 36) .skip (.exit 2))) (.block 3 (.reg [⟨(some 37), (.mv (.t 6)), none, []⟩, ⟨(some 38), (.bin .add (.t 37) (.c (.int .i64 1))), none, []⟩, ⟨(some 6), (.asg (.t 38) none), none, []⟩] false))))) (.seq (.reg [⟨(some 39), (.mv (.t 5)), none, []⟩, ⟨(some 40), (.mv (.t 6)), none, []⟩, ⟨(some 41), (.mv (.t 5)), none, []⟩, ⟨(some 42), (.bin .sub (.t 40) (.t 41)), none, []⟩, ⟨(some 43), (.bld [(.int .i64 0), (.int .i64 0)] [⟨0, ⟨1, (.t 39)⟩⟩, ⟨1, ⟨1, (.t 42)⟩⟩]), none, []⟩, ⟨none, (.st 2 (.t 4) (.t 43)), none, []⟩] false) .ret))))))
theorem dc24_c : (Try.f24.body.bind (cCode Try.prog Try.f24.ntmps)) = some dc24 := by kernel_rfl
theorem dc24_r : Try.f24.results.toList.mapM (cRes Try.prog) = some [(.c 4 2 true)] := by kernel_rfl
def ref13_Block_enc (a : TFunc × Int) : List D := [eFunc a.1, .int .i64 a.2]
def ref13_Block_dec (ds : List D) : TFunc × Int := (uFunc (ds.getD 0 .top), uI (ds.getD 1 .top))
theorem ref13_Block_de (a : TFunc × Int) : ref13_Block_dec (ref13_Block_enc a) = a := by simp [ref13_Block_dec, ref13_Block_enc, uI, uBo, uS]
def ref13_Block_R (b : TInterval) : D := eInterval b
def ref13_Block_E (_b : TInterval) : List D := []
noncomputable def ref13_Block_S : Dw.Spec := fSpec [] .ground ref13_Block_enc ref13_Block_dec (fun a => ref13_Block a.1 a.2) ref13_Block_R ref13_Block_E
set_option maxHeartbeats 4000000 in
theorem ref13_Block_ok : SpecOk Try.prog 24 ref13_Block_S := by
  refine fn_ok (specs_ok (l := [(44, ref13_leader_S)]) (by simp [ref13_leader_ok])) Try.func24 (by decide) dc24_c dc24_r (np := 2) (by decide) ref13_Block_de (fun _ => rfl) ?_
  rintro ⟨f1, k2⟩
  show Tr (specs [(44, ref13_leader_S)]) dc24 (kRet [] .ground [(.c 4 2 true)] 2 ref13_Block_R ref13_Block_E) ⟨[(0, .agg [.int .i64 f1.Params, .sl (f1.Slots.map eSlot), .sl (f1.Code.map eInstr)]), (1, .int .i64 k2)], [], 2⟩ (ref13_Block f1 k2)
  unfold dc24 ref13_Block
  refine tr_seq ?_
  refine tr_reg ?_
  refine trO_box rfl rfl rfl rfl rfl ?_
  refine trO_new rfl ?_
  refine trO_nil ?_
  refine trX_seq ?_
  refine tr_seq_cut (E := fun (s : Unit) (g : Nat × Nat) => [(1, .int .i64 k2), (2, .optr 2 g.1 0 0), (4, .optr 4 g.2 0 0)]) (O := fun s g => [(2, some (g.1, ⟨false, true, 3, 27, [.agg [.int .i64 f1.Params, .sl (f1.Slots.map eSlot), .sl (f1.Code.map eInstr)]]⟩)), (4, some (g.2, ⟨false, true, 2, 43, [.agg [.int .i64 0, .int .i64 0]]⟩))]) (j := fun s => ref13_Block_j1 f1 k2) ?_ ?_
  ·
    refine tr_seq ?_
    refine tr_reg ?_
    refine trO_mv rfl rfl ?_
    refine trO_bin (v := .bool (decide (k2 < 0))) rfl rfl rfl rfl rfl ?_
    refine trO_mv rfl rfl ?_
    refine trO_split 9 (b := (decide (k2 < 0))) rfl ?_ ?_
    ·
      refine trO_off rfl ?_
      refine trO_off rfl ?_
      refine trO_off rfl ?_
      refine trO_off rfl ?_
      refine trO_off rfl ?_
      refine trO_pick_true rfl rfl rfl rfl ?_
      refine trO_nil ?_
      refine trX_seq ?_
      refine tr_cond_true rfl ?_
      refine tr_seq ?_
      refine tr_reg ?_
      refine trO_bld (cs := [.int .i64 0, .int .i64 0]) (ps := []) rfl rfl rfl rfl ?_
      refine trO_st_var (z' := .agg [.int .i64 0, .int .i64 0]) rfl rfl rfl rfl rfl rfl rfl rfl rfl ?_
      refine trO_nil ?_
      refine trX_seq ?_
      refine tr_ret ?_
      refine trX_cut_ret ?_
      exact ret_ground (b := (TInterval.mk 0 0)) rfl (by first | (simp; done) | (simp; omega)) rfl rfl (by first | (simp; done) | (simp; omega)) rfl
    ·
      refine trO_mv rfl rfl ?_
      refine trO_fldA rfl rfl ?_
      refine trO_ld_obj (v := .sl (f1.Code.map eInstr)) (z := .agg [.int .i64 f1.Params, .sl (f1.Slots.map eSlot), .sl (f1.Code.map eInstr)]) rfl rfl rfl rfl rfl rfl ?_
      refine trO_len_sl rfl rfl ?_
      refine trO_bin (v := .bool (decide (k2 ≥ (f1.Code.length : Int)))) rfl rfl rfl rfl rfl ?_
      refine trO_pick_false rfl rfl rfl rfl ?_
      refine trO_nil ?_
      refine trX_seq ?_
      refine tr_cond (c := (decide (k2 ≥ (f1.Code.length : Int)))) rfl ?_ ?_
      ·
        refine tr_seq ?_
        refine tr_reg ?_
        refine trO_bld (cs := [.int .i64 0, .int .i64 0]) (ps := []) rfl rfl rfl rfl ?_
        refine trO_st_var (z' := .agg [.int .i64 0, .int .i64 0]) rfl rfl rfl rfl rfl rfl rfl rfl rfl ?_
        refine trO_nil ?_
        refine trX_seq ?_
        refine tr_ret ?_
        refine trX_cut_ret ?_
        exact ret_ground (b := (TInterval.mk 0 0)) rfl (by first | (simp; done) | (simp; omega)) rfl rfl (by first | (simp; done) | (simp; omega)) rfl
      ·
        refine tr_skip ?_
        exact trX_cut (s := ()) (_, _) (has_exact ⟨rfl, rfl, rfl, trivial⟩ ⟨rfl, rfl, trivial⟩)
  ·
    rintro ⟨⟩ ⟨v2, v4⟩ nn
    show Tr _ _ _ ⟨[(1, .int .i64 k2), (2, .optr 2 v2 0 0), (4, .optr 4 v4 0 0)], [(2, some (v2, ⟨false, true, 3, 27, [.agg [.int .i64 f1.Params, .sl (f1.Slots.map eSlot), .sl (f1.Code.map eInstr)]]⟩)), (4, some (v4, ⟨false, true, 2, 43, [.agg [.int .i64 0, .int .i64 0]]⟩))], _⟩ (ref13_Block_j1 f1 k2)
    unfold ref13_Block_j1
    refine tr_seq ?_
    refine tr_reg ?_
    refine trO_mv rfl rfl ?_
    refine trO_mv rfl rfl ?_
    refine trO_bin (v := .int .i64 (IntKind.i64.wrap (k2 + 1))) rfl rfl rfl rfl rfl ?_
    refine trO_asg rfl rfl ?_
    refine trO_asg rfl rfl ?_
    refine trO_nil ?_
    refine trX_seq ?_
    refine tr_seq_blk_cut (E := fun (s : Int) (g : Nat × Nat) => [(2, .optr 2 g.1 0 0), (4, .optr 4 g.2 0 0), (5, .int .i64 s), (6, .int .i64 (IntKind.i64.wrap (k2 + 1)))]) (O := fun s g => [(2, some (g.1, ⟨false, true, 3, 27, [.agg [.int .i64 f1.Params, .sl (f1.Slots.map eSlot), .sl (f1.Code.map eInstr)]]⟩)), (4, some (g.2, ⟨false, true, 2, 43, [.agg [.int .i64 0, .int .i64 0]]⟩))]) (j := fun s => ref13_Block_j2 f1 k2 s) ?_ ?_
    ·
      refine tr_loop (E := fun (s : Int) (g : Nat × Nat) => [(2, .optr 2 g.1 0 0), (4, .optr 4 g.2 0 0), (5, .int .i64 s), (6, .int .i64 (IntKind.i64.wrap (k2 + 1)))]) (O := fun s g => [(2, some (g.1, ⟨false, true, 3, 27, [.agg [.int .i64 f1.Params, .sl (f1.Slots.map eSlot), .sl (f1.Code.map eInstr)]]⟩)), (4, some (g.2, ⟨false, true, 2, 43, [.agg [.int .i64 0, .int .i64 0]]⟩))]) (body := fun s => ref13_Block_b3 f1 k2 s) (s := k2) (_, _) (has_exact ⟨rfl, rfl, rfl, rfl, trivial⟩ ⟨rfl, rfl, trivial⟩) ?_
      rintro from4 ⟨v2, v4⟩ nn
      show Tr _ _ _ ⟨[(2, .optr 2 v2 0 0), (4, .optr 4 v4 0 0), (5, .int .i64 from4), (6, .int .i64 (IntKind.i64.wrap (k2 + 1)))], [(2, some (v2, ⟨false, true, 3, 27, [.agg [.int .i64 f1.Params, .sl (f1.Slots.map eSlot), .sl (f1.Code.map eInstr)]]⟩)), (4, some (v4, ⟨false, true, 2, 43, [.agg [.int .i64 0, .int .i64 0]]⟩))], _⟩ (ref13_Block_b3 f1 k2 from4)
      unfold ref13_Block_b3
      refine tr_seq ?_
      refine tr_seq ?_
      refine tr_reg ?_
      refine trO_ld_obj (v := .agg [.int .i64 f1.Params, .sl (f1.Slots.map eSlot), .sl (f1.Code.map eInstr)]) (z := .agg [.int .i64 f1.Params, .sl (f1.Slots.map eSlot), .sl (f1.Code.map eInstr)]) rfl rfl rfl rfl rfl rfl ?_
      refine trO_mv rfl rfl ?_
      refine trO_bind fun r5 hr5 => ?_
      refine trO_call_ground (f1, from4) rfl rfl rfl ref13_leader_de rfl rfl (by simp) rfl hr5 rfl ?_
      refine trO_un (w := .bool (!r5)) rfl rfl rfl rfl trivial ?_
      refine trO_nil ?_
      refine trX_seq ?_
      refine tr_cond (c := (!r5)) rfl ?_ ?_
      ·
        refine tr_skip ?_
        refine trX_seq ?_
        refine tr_block ?_
        refine tr_reg ?_
        refine trO_mv rfl rfl ?_
        refine trO_bin (v := .int .i64 (IntKind.i64.wrap (from4 - 1))) rfl rfl rfl rfl rfl ?_
        refine trO_asg rfl rfl ?_
        refine trO_nil ?_
        refine trX_blk_normal ?_
        exact trX_loop (s := IntKind.i64.wrap (from4 - 1)) (_, _) (has_exact ⟨rfl, rfl, rfl, rfl, trivial⟩ ⟨rfl, rfl, trivial⟩)
      ·
        refine tr_exit ?_
        refine trX_seq_exit ?_
        refine trX_loop_exit ?_
        exact trX_bcut_here (s := from4) (_, _) (has_exact ⟨rfl, rfl, rfl, rfl, trivial⟩ ⟨rfl, rfl, trivial⟩)
    ·
      rintro from3 ⟨v2, v4⟩ nn
      show Tr _ _ _ ⟨[(2, .optr 2 v2 0 0), (4, .optr 4 v4 0 0), (5, .int .i64 from3), (6, .int .i64 (IntKind.i64.wrap (k2 + 1)))], [(2, some (v2, ⟨false, true, 3, 27, [.agg [.int .i64 f1.Params, .sl (f1.Slots.map eSlot), .sl (f1.Code.map eInstr)]]⟩)), (4, some (v4, ⟨false, true, 2, 43, [.agg [.int .i64 0, .int .i64 0]]⟩))], _⟩ (ref13_Block_j2 f1 k2 from3)
      unfold ref13_Block_j2
      refine tr_seq_blk_cut (E := fun (s : Int) (g : Nat) => [(4, .optr 4 g 0 0), (5, .int .i64 from3), (6, .int .i64 s)]) (O := fun s g => [(4, some (g, ⟨false, true, 2, 43, [.agg [.int .i64 0, .int .i64 0]]⟩))]) (j := fun s => ref13_Block_j4 from3 s) ?_ ?_
      ·
        refine tr_loop (E := fun (s : Int) (g : Nat × Nat) => [(2, .optr 2 g.1 0 0), (4, .optr 4 g.2 0 0), (5, .int .i64 from3), (6, .int .i64 s)]) (O := fun s g => [(2, some (g.1, ⟨false, true, 3, 27, [.agg [.int .i64 f1.Params, .sl (f1.Slots.map eSlot), .sl (f1.Code.map eInstr)]]⟩)), (4, some (g.2, ⟨false, true, 2, 43, [.agg [.int .i64 0, .int .i64 0]]⟩))]) (body := fun s => ref13_Block_b5 f1 from3 s) (s := IntKind.i64.wrap (k2 + 1)) (_, _) (has_exact ⟨rfl, rfl, rfl, rfl, trivial⟩ ⟨rfl, rfl, trivial⟩) ?_
        rintro to7 ⟨v2, v4⟩ nn
        show Tr _ _ _ ⟨[(2, .optr 2 v2 0 0), (4, .optr 4 v4 0 0), (5, .int .i64 from3), (6, .int .i64 to7)], [(2, some (v2, ⟨false, true, 3, 27, [.agg [.int .i64 f1.Params, .sl (f1.Slots.map eSlot), .sl (f1.Code.map eInstr)]]⟩)), (4, some (v4, ⟨false, true, 2, 43, [.agg [.int .i64 0, .int .i64 0]]⟩))], _⟩ (ref13_Block_b5 f1 from3 to7)
        unfold ref13_Block_b5
        refine tr_seq ?_
        refine tr_seq ?_
        refine tr_reg ?_
        refine trO_mv rfl rfl ?_
        refine trO_fldA rfl rfl ?_
        refine trO_ld_obj (v := .sl (f1.Code.map eInstr)) (z := .agg [.int .i64 f1.Params, .sl (f1.Slots.map eSlot), .sl (f1.Code.map eInstr)]) rfl rfl rfl rfl rfl rfl ?_
        refine trO_len_sl rfl rfl ?_
        refine trO_bin (v := .bool (decide (to7 < (f1.Code.length : Int)))) rfl rfl rfl rfl rfl ?_
        refine trO_mv rfl rfl ?_
        refine trO_split 31 (b := (decide (to7 < (f1.Code.length : Int)))) rfl ?_ ?_
        ·
          refine trO_ld_obj (v := .agg [.int .i64 f1.Params, .sl (f1.Slots.map eSlot), .sl (f1.Code.map eInstr)]) (z := .agg [.int .i64 f1.Params, .sl (f1.Slots.map eSlot), .sl (f1.Code.map eInstr)]) rfl rfl rfl rfl rfl rfl ?_
          refine trO_mv rfl rfl ?_
          refine trO_bind fun r8 hr8 => ?_
          refine trO_call_ground (f1, to7) rfl rfl rfl ref13_leader_de rfl rfl (by simp) rfl hr8 rfl ?_
          refine trO_un (w := .bool (!r8)) rfl rfl rfl rfl trivial ?_
          refine trO_pick_true rfl rfl rfl rfl ?_
          refine trO_nil ?_
          refine trX_seq ?_
          refine tr_cond (c := (!r8)) rfl ?_ ?_
          ·
            refine tr_skip ?_
            refine trX_seq ?_
            refine tr_block ?_
            refine tr_reg ?_
            refine trO_mv rfl rfl ?_
            refine trO_bin (v := .int .i64 (IntKind.i64.wrap (to7 + 1))) rfl rfl rfl rfl rfl ?_
            refine trO_asg rfl rfl ?_
            refine trO_nil ?_
            refine trX_blk_normal ?_
            exact trX_loop (s := IntKind.i64.wrap (to7 + 1)) (_, _) (has_exact ⟨rfl, rfl, rfl, rfl, trivial⟩ ⟨rfl, rfl, trivial⟩)
          ·
            refine tr_exit ?_
            refine trX_seq_exit ?_
            refine trX_loop_exit ?_
            exact trX_bcut_here (s := to7) _ (has_exact ⟨rfl, rfl, rfl, trivial⟩ ⟨rfl, trivial⟩)
        ·
          refine trO_off rfl ?_
          refine trO_off rfl ?_
          refine trO_off rfl ?_
          refine trO_off rfl ?_
          refine trO_pick_false rfl rfl rfl rfl ?_
          refine trO_nil ?_
          refine trX_seq ?_
          refine tr_cond_false rfl ?_
          refine tr_exit ?_
          refine trX_seq_exit ?_
          refine trX_loop_exit ?_
          exact trX_bcut_here (s := to7) _ (has_exact ⟨rfl, rfl, rfl, trivial⟩ ⟨rfl, trivial⟩)
      ·
        rintro to6 v4 nn
        show Tr _ _ _ ⟨[(4, .optr 4 v4 0 0), (5, .int .i64 from3), (6, .int .i64 to6)], [(4, some (v4, ⟨false, true, 2, 43, [.agg [.int .i64 0, .int .i64 0]]⟩))], _⟩ (ref13_Block_j4 from3 to6)
        unfold ref13_Block_j4
        refine tr_seq ?_
        refine tr_reg ?_
        refine trO_mv rfl rfl ?_
        refine trO_mv rfl rfl ?_
        refine trO_mv rfl rfl ?_
        refine trO_bin (v := .int .i64 (IntKind.i64.wrap (to6 - from3))) rfl rfl rfl rfl rfl ?_
        refine trO_bld (cs := [.int .i64 from3, .int .i64 (IntKind.i64.wrap (to6 - from3))]) (ps := [(0, 1, .int .i64 from3), (1, 1, .int .i64 (IntKind.i64.wrap (to6 - from3)))]) rfl rfl rfl rfl ?_
        refine trO_st_var (z' := .agg [.int .i64 from3, .int .i64 (IntKind.i64.wrap (to6 - from3))]) rfl rfl rfl rfl rfl rfl rfl rfl rfl ?_
        refine trO_nil ?_
        refine trX_seq ?_
        refine tr_ret ?_
        exact ret_ground (b := (TInterval.mk from3 (IntKind.i64.wrap (to6 - from3)))) rfl (by first | (simp; done) | (simp; omega)) rfl rfl (by first | (simp; done) | (simp; omega)) rfl

def dc25 : DCode := (.seq (.reg [⟨(some 1), (.box (.t 0) 3 27), none, []⟩, ⟨(some 2), (.asg (.c .nils) (some ⟨1, 3⟩)), none, []⟩] false) (.seq (.reg [⟨(some 3), (.asg (.c .nils) (some ⟨1, 3⟩)), none, []⟩] false) (.seq (.seq (.reg [⟨(some 6), (.ld 3 true (.t 1)), none, []⟩, ⟨(some 7), (.call (.c (.clo 43 [])) [(.t 6)]), none, []⟩, ⟨(some 8), (.len false (.t 7)), none, []⟩, ⟨(some 9), (.mv (.c (.int .i64 0))), none, []⟩] false) (.block 0 (.loop (.seq (.reg [⟨(some 10), (.bin .lss (.t 9) (.t 8)), none, []⟩] false) (.seq (.cond (.t 10) .skip (.exit 0)) (.seq (.block 1 (.seq (.reg [⟨(some 11), (.mv (.t 9)), none, []⟩, ⟨(some 12), (.ixA 1 (.t 7) (.t 9)), none, []⟩, ⟨(some 13), (.ld 1 false (.t 12)), none, []⟩, ⟨(some 4), (.asg (.t 11) none), none, []⟩, ⟨(some 5), (.asg (.t 13) none), none, []⟩] false) (.seq (.reg [⟨(some 14), (.mv (.t 5)), none, []⟩] false) (.cond (.t 14) (.reg [⟨(some 15), (.mv (.t 3)), none, []⟩, ⟨(some 16), (.mv (.t 4)), none, []⟩, ⟨(some 17), (.bldS 1 3 (.int .i64 0) 1 [⟨0, (.t 16)⟩]), none, []⟩, ⟨(some 18), (.app 1 3 8 (.t 15) (.t 17)), none, []⟩, ⟨(some 3), (.asg (.t 18) (some ⟨1, 3⟩)), none, []⟩] false) .skip)))) (.reg [⟨(some 19), (.bin .add (.t 9) (.c (.int .i64 1))), none, []⟩, ⟨(some 9), (.mv (.t 19)), none, []⟩] false))))))) (.seq (.reg [⟨(some 20), (.mv (.t 3)), none, []⟩, ⟨(some 2), (.asg (.t 20) (some ⟨1, 3⟩)), none, []⟩] false) .ret))))
theorem dc25_c : (Try.f25.body.bind (cCode Try.prog Try.f25.ntmps)) = some dc25 := by kernel_rfl
theorem dc25_r : Try.f25.results.toList.mapM (cRes Try.prog) = some [(.t 2)] := by kernel_rfl
def flow_Leaders_enc (a : TFunc) : List D := [eFunc a]
def flow_Leaders_dec (ds : List D) : TFunc := uFunc (ds.getD 0 .top)
theorem flow_Leaders_de (a : TFunc) : flow_Leaders_dec (flow_Leaders_enc a) = a := by simp [flow_Leaders_dec, flow_Leaders_enc, uI, uBo, uS]
def flow_Leaders_R (b : (List Int)) : D := .sl (b.map eI64)
def flow_Leaders_E (_b : (List Int)) : List D := []
noncomputable def flow_Leaders_S : Dw.Spec := fSpec [] (.row 1 3) flow_Leaders_enc flow_Leaders_dec (fun a => flow_Leaders a) flow_Leaders_R flow_Leaders_E
set_option maxHeartbeats 4000000 in
theorem flow_Leaders_ok : SpecOk Try.prog 25 flow_Leaders_S := by
  refine fn_ok (specs_ok (l := [(43, flow_leads_S)]) (by simp [flow_leads_ok])) Try.func25 (by decide) dc25_c dc25_r (np := 1) (by decide) flow_Leaders_de (fun _ => rfl) ?_
  intro f1
  show Tr (specs [(43, flow_leads_S)]) dc25 (kRet [] (.row 1 3) [(.t 2)] 1 flow_Leaders_R flow_Leaders_E) ⟨[(0, .agg [.int .i64 f1.Params, .sl (f1.Slots.map eSlot), .sl (f1.Code.map eInstr)])], [], 1⟩ (flow_Leaders f1)
  unfold dc25 flow_Leaders
  refine tr_seq ?_
  refine tr_reg ?_
  refine trO_box rfl rfl rfl rfl rfl ?_
  refine trO_asg_nil (α := Int) rfl eI64 rfl ?_
  refine trO_nil ?_
  refine trX_seq ?_
  refine tr_seq ?_
  refine tr_reg ?_
  refine trO_asg_nil (α := Int) rfl eI64 rfl ?_
  refine trO_nil ?_
  refine trX_seq ?_
  refine tr_seq ?_
  refine tr_seq ?_
  refine tr_reg ?_
  refine trO_ld_obj (v := .agg [.int .i64 f1.Params, .sl (f1.Slots.map eSlot), .sl (f1.Code.map eInstr)]) (z := .agg [.int .i64 f1.Params, .sl (f1.Slots.map eSlot), .sl (f1.Code.map eInstr)]) rfl rfl rfl rfl rfl rfl ?_
  refine trO_bind fun r2 hr2 => ?_
  refine trO_call_row (l := r2) (en := D.bool) f1 rfl rfl rfl flow_leads_de rfl rfl (by simp) rfl hr2 rfl ?_
  refine trO_len_own rfl rfl ?_
  refine trO_mv rfl rfl ?_
  refine trO_nil ?_
  refine trX_seq ?_
  refine tr_block ?_
  refine tr_loop (E := fun (s : (List Int) × Int) (g : Nat × Nat) => [(3, .osl 3 g.1 0 s.1.length), (7, .osl 7 g.2 0 r2.length), (8, .int .i64 (r2.length : Int)), (9, .int .i64 s.2)]) (O := fun s g => [(3, some (g.1, ⟨false, false, 1, 3, s.1.map eI64⟩)), (7, some (g.2, ⟨false, false, 1, 4, r2.map D.bool⟩))]) (body := fun s => flow_Leaders_b1 r2 s.1 s.2) (s := (([] : List Int), 0)) (_, _) (has_exact ⟨rfl, rfl, rfl, rfl, trivial⟩ ⟨rfl, rfl, trivial⟩) ?_
  rintro ⟨l3, x4⟩ ⟨v3, v7⟩ nn
  show Tr _ _ _ ⟨[(3, .osl 3 v3 0 l3.length), (7, .osl 7 v7 0 r2.length), (8, .int .i64 (r2.length : Int)), (9, .int .i64 x4)], [(3, some (v3, ⟨false, false, 1, 3, l3.map eI64⟩)), (7, some (v7, ⟨false, false, 1, 4, r2.map D.bool⟩))], _⟩ (flow_Leaders_b1 r2 l3 x4)
  unfold flow_Leaders_b1
  refine tr_seq ?_
  refine tr_reg ?_
  refine trO_bin (v := .bool (decide (x4 < (r2.length : Int)))) rfl rfl rfl rfl rfl ?_
  refine trO_nil ?_
  refine trX_seq ?_
  refine tr_seq ?_
  refine tr_cond (c := (decide (x4 < (r2.length : Int)))) rfl ?_ ?_
  ·
    refine tr_skip ?_
    refine trX_seq ?_
    refine tr_seq ?_
    refine tr_block ?_
    refine tr_seq ?_
    refine tr_reg ?_
    refine trO_mv rfl rfl ?_
    refine trO_chk fun hq => ?_
    refine trO_ixA_own (l := r2) (en := D.bool) rfl rfl rfl rfl rfl hq ?_
    refine trO_bind fun x_e5 hx_e5 => ?_
    refine trO_ld_obj (v := .bool x_e5) (z := D.bool x_e5) rfl rfl rfl (map_get hx_e5) rfl rfl ?_
    refine trO_asg rfl rfl ?_
    refine trO_asg rfl rfl ?_
    refine trO_nil ?_
    refine trX_seq ?_
    refine tr_seq ?_
    refine tr_reg ?_
    refine trO_mv rfl rfl ?_
    refine trO_nil ?_
    refine trX_seq ?_
    refine tr_cond (c := x_e5) rfl ?_ ?_
    ·
      refine tr_reg ?_
      refine trO_mv rfl rfl ?_
      refine trO_mv rfl rfl ?_
      refine trO_bldS ([x4] : List Int) eI64 rfl rfl rfl (by simp) rfl rfl rfl ?_
      refine trO_chk fun hq => ?_
      refine trO_app (l3) (([x4] : List Int)) eI64 rfl rfl rfl rfl rfl rfl rfl (by simp) (take_drop0_map' _ _ rfl) rfl rfl (by simp) (take_len_map' _ _ rfl) (fun _ => rfl) rfl hq ?_
      refine trO_asg_own (l := l3 ++ ([x4] : List Int)) (en := eI64) rfl rfl rfl rfl ?_
      refine trO_nil ?_
      refine trX_blk_normal ?_
      refine trX_seq ?_
      refine tr_reg ?_
      refine trO_bin (v := .int .i64 (IntKind.i64.wrap (x4 + 1))) rfl rfl rfl rfl rfl ?_
      refine trO_mv rfl rfl ?_
      refine trO_nil ?_
      exact trX_loop (s := (l3 ++ ([x4] : List Int), IntKind.i64.wrap (x4 + 1))) (_, _) (has_exact ⟨rfl, rfl, rfl, rfl, trivial⟩ ⟨rfl, rfl, trivial⟩)
    ·
      refine tr_skip ?_
      refine trX_blk_normal ?_
      refine trX_seq ?_
      refine tr_reg ?_
      refine trO_bin (v := .int .i64 (IntKind.i64.wrap (x4 + 1))) rfl rfl rfl rfl rfl ?_
      refine trO_mv rfl rfl ?_
      refine trO_nil ?_
      exact trX_loop (s := (l3, IntKind.i64.wrap (x4 + 1))) (_, _) (has_exact ⟨rfl, rfl, rfl, rfl, trivial⟩ ⟨rfl, rfl, trivial⟩)
  ·
    refine tr_exit ?_
    refine trX_seq_exit ?_
    refine trX_loop_exit ?_
    refine trX_blk_here ?_
    refine trX_seq ?_
    refine tr_seq ?_
    refine tr_reg ?_
    refine trO_mv rfl rfl ?_
    refine trO_asg_own (l := l3) (en := eI64) rfl rfl rfl rfl ?_
    refine trO_nil ?_
    refine trX_seq ?_
    refine tr_ret ?_
    exact ret_row (b := l3) rfl (by first | (simp; done) | (simp; omega)) rfl rfl (by first | (simp; done) | (simp; omega)) rfl (by first | (simp; done) | (simp; omega)) (congrArg D.sl (take_len_map' _ _ rfl)) rfl

def dc26 : DCode := (.seq (.reg [⟨(some 1), (.box (.t 0) 3 27), none, []⟩, ⟨(some 2), (.asg (.c .nils) (some ⟨1, 3⟩)), none, []⟩] false) (.seq (.reg [⟨(some 3), (.asg (.c .nils) (some ⟨1, 3⟩)), none, []⟩] false) (.seq (.seq (.reg [⟨(some 4), (.asg (.c (.int .i64 0)) none), none, []⟩] false) (.block 0 (.loop (.seq (.seq (.reg [⟨(some 5), (.mv (.t 4)), none, []⟩, ⟨(some 6), (.fldA 2 (.t 1)), none, []⟩, ⟨(some 7), (.ld 1 false (.t 6)), none, []⟩, ⟨(some 8), (.len false (.t 7)), none, []⟩, ⟨(some 9), (.bin .lss (.t 5) (.t 8)), none, []⟩] false) (.cond (.t 9) .skip (.exit 0))) (.seq (.block 1 (.seq (.reg [⟨(some 12), (.ld 3 true (.t 1)), none, []⟩, ⟨(some 13), (.mv (.t 4)), none, []⟩, ⟨(some 14), (.call (.c (.clo 44 [])) [(.t 12), (.t 13)]), none, []⟩] false) (.cond (.t 14) (.reg [⟨(some 15), (.mv (.t 3)), none, []⟩, ⟨(some 16), (.mv (.t 4)), none, []⟩, ⟨(some 17), (.bldS 1 3 (.int .i64 0) 1 [⟨0, (.t 16)⟩]), none, []⟩, ⟨(some 18), (.app 1 3 8 (.t 15) (.t 17)), none, []⟩, ⟨(some 3), (.asg (.t 18) (some ⟨1, 3⟩)), none, []⟩] false) .skip))) (.reg [⟨(some 10), (.mv (.t 4)), none, []⟩, ⟨(some 11), (.bin .add (.t 10) (.c (.int .i64 1))), none, []⟩, ⟨(some 4), (.asg (.t 11) none), none, []⟩] false)))))) (.seq (.reg [⟨(some 19), (.mv (.t 3)), none, []⟩, ⟨(some 2), (.asg (.t 19) (some ⟨1, 3⟩)), none, []⟩] false) .ret))))
theorem dc26_c : (Try.f26.body.bind (cCode Try.prog Try.f26.ntmps)) = some dc26 := by kernel_rfl
theorem dc26_r : Try.f26.results.toList.mapM (cRes Try.prog) = some [(.t 2)] := by kernel_rfl
def ref13_Leaders_enc (a : TFunc) : List D := [eFunc a]
def ref13_Leaders_dec (ds : List D) : TFunc := uFunc (ds.getD 0 .top)
theorem ref13_Leaders_de (a : TFunc) : ref13_Leaders_dec (ref13_Leaders_enc a) = a := by simp [ref13_Leaders_dec, ref13_Leaders_enc, uI, uBo, uS]
def ref13_Leaders_R (b : (List Int)) : D := .sl (b.map eI64)
def ref13_Leaders_E (_b : (List Int)) : List D := []
noncomputable def ref13_Leaders_S : Dw.Spec := fSpec [] (.row 1 3) ref13_Leaders_enc ref13_Leaders_dec (fun a => ref13_Leaders a) ref13_Leaders_R ref13_Leaders_E
set_option maxHeartbeats 4000000 in
theorem ref13_Leaders_ok : SpecOk Try.prog 26 ref13_Leaders_S := by
  refine fn_ok (specs_ok (l := [(44, ref13_leader_S)]) (by simp [ref13_leader_ok])) Try.func26 (by decide) dc26_c dc26_r (np := 1) (by decide) ref13_Leaders_de (fun _ => rfl) ?_
  intro f1
  show Tr (specs [(44, ref13_leader_S)]) dc26 (kRet [] (.row 1 3) [(.t 2)] 1 ref13_Leaders_R ref13_Leaders_E) ⟨[(0, .agg [.int .i64 f1.Params, .sl (f1.Slots.map eSlot), .sl (f1.Code.map eInstr)])], [], 1⟩ (ref13_Leaders f1)
  unfold dc26 ref13_Leaders
  refine tr_seq ?_
  refine tr_reg ?_
  refine trO_box rfl rfl rfl rfl rfl ?_
  refine trO_asg_nil (α := Int) rfl eI64 rfl ?_
  refine trO_nil ?_
  refine trX_seq ?_
  refine tr_seq ?_
  refine tr_reg ?_
  refine trO_asg_nil (α := Int) rfl eI64 rfl ?_
  refine trO_nil ?_
  refine trX_seq ?_
  refine tr_seq ?_
  refine tr_seq ?_
  refine tr_reg ?_
  refine trO_asg rfl rfl ?_
  refine trO_nil ?_
  refine trX_seq ?_
  refine tr_block ?_
  refine tr_loop (E := fun (s : (List Int) × Int) (g : Nat × Nat) => [(1, .optr 1 g.1 0 0), (3, .osl 3 g.2 0 s.1.length), (4, .int .i64 s.2)]) (O := fun s g => [(1, some (g.1, ⟨false, true, 3, 27, [.agg [.int .i64 f1.Params, .sl (f1.Slots.map eSlot), .sl (f1.Code.map eInstr)]]⟩)), (3, some (g.2, ⟨false, false, 1, 3, s.1.map eI64⟩))]) (body := fun s => ref13_Leaders_b1 f1 s.1 s.2) (s := (([] : List Int), 0)) (_, _) (has_exact ⟨rfl, rfl, rfl, trivial⟩ ⟨rfl, rfl, trivial⟩) ?_
  rintro ⟨out2, k3⟩ ⟨v1, v3⟩ nn
  show Tr _ _ _ ⟨[(1, .optr 1 v1 0 0), (3, .osl 3 v3 0 out2.length), (4, .int .i64 k3)], [(1, some (v1, ⟨false, true, 3, 27, [.agg [.int .i64 f1.Params, .sl (f1.Slots.map eSlot), .sl (f1.Code.map eInstr)]]⟩)), (3, some (v3, ⟨false, false, 1, 3, out2.map eI64⟩))], _⟩ (ref13_Leaders_b1 f1 out2 k3)
  unfold ref13_Leaders_b1
  refine tr_seq ?_
  refine tr_seq ?_
  refine tr_reg ?_
  refine trO_mv rfl rfl ?_
  refine trO_fldA rfl rfl ?_
  refine trO_ld_obj (v := .sl (f1.Code.map eInstr)) (z := .agg [.int .i64 f1.Params, .sl (f1.Slots.map eSlot), .sl (f1.Code.map eInstr)]) rfl rfl rfl rfl rfl rfl ?_
  refine trO_len_sl rfl rfl ?_
  refine trO_bin (v := .bool (decide (k3 < (f1.Code.length : Int)))) rfl rfl rfl rfl rfl ?_
  refine trO_nil ?_
  refine trX_seq ?_
  refine tr_cond (c := (decide (k3 < (f1.Code.length : Int)))) rfl ?_ ?_
  ·
    refine tr_skip ?_
    refine trX_seq ?_
    refine tr_seq ?_
    refine tr_block ?_
    refine tr_seq ?_
    refine tr_reg ?_
    refine trO_ld_obj (v := .agg [.int .i64 f1.Params, .sl (f1.Slots.map eSlot), .sl (f1.Code.map eInstr)]) (z := .agg [.int .i64 f1.Params, .sl (f1.Slots.map eSlot), .sl (f1.Code.map eInstr)]) rfl rfl rfl rfl rfl rfl ?_
    refine trO_mv rfl rfl ?_
    refine trO_bind fun r4 hr4 => ?_
    refine trO_call_ground (f1, k3) rfl rfl rfl ref13_leader_de rfl rfl (by simp) rfl hr4 rfl ?_
    refine trO_nil ?_
    refine trX_seq ?_
    refine tr_cond (c := r4) rfl ?_ ?_
    ·
      refine tr_reg ?_
      refine trO_mv rfl rfl ?_
      refine trO_mv rfl rfl ?_
      refine trO_bldS ([k3] : List Int) eI64 rfl rfl rfl (by simp) rfl rfl rfl ?_
      refine trO_chk fun hq => ?_
      refine trO_app (out2) (([k3] : List Int)) eI64 rfl rfl rfl rfl rfl rfl rfl (by simp) (take_drop0_map' _ _ rfl) rfl rfl (by simp) (take_len_map' _ _ rfl) (fun _ => rfl) rfl hq ?_
      refine trO_asg_own (l := out2 ++ ([k3] : List Int)) (en := eI64) rfl rfl rfl rfl ?_
      refine trO_nil ?_
      refine trX_blk_normal ?_
      refine trX_seq ?_
      refine tr_reg ?_
      refine trO_mv rfl rfl ?_
      refine trO_bin (v := .int .i64 (IntKind.i64.wrap (k3 + 1))) rfl rfl rfl rfl rfl ?_
      refine trO_asg rfl rfl ?_
      refine trO_nil ?_
      exact trX_loop (s := (out2 ++ ([k3] : List Int), IntKind.i64.wrap (k3 + 1))) (_, _) (has_exact ⟨rfl, rfl, rfl, trivial⟩ ⟨rfl, rfl, trivial⟩)
    ·
      refine tr_skip ?_
      refine trX_blk_normal ?_
      refine trX_seq ?_
      refine tr_reg ?_
      refine trO_mv rfl rfl ?_
      refine trO_bin (v := .int .i64 (IntKind.i64.wrap (k3 + 1))) rfl rfl rfl rfl rfl ?_
      refine trO_asg rfl rfl ?_
      refine trO_nil ?_
      exact trX_loop (s := (out2, IntKind.i64.wrap (k3 + 1))) (_, _) (has_exact ⟨rfl, rfl, rfl, trivial⟩ ⟨rfl, rfl, trivial⟩)
  ·
    refine tr_exit ?_
    refine trX_seq_exit ?_
    refine trX_loop_exit ?_
    refine trX_blk_here ?_
    refine trX_seq ?_
    refine tr_seq ?_
    refine tr_reg ?_
    refine trO_mv rfl rfl ?_
    refine trO_asg_own (l := out2) (en := eI64) rfl rfl rfl rfl ?_
    refine trO_nil ?_
    refine trX_seq ?_
    refine tr_ret ?_
    exact ret_row (b := out2) rfl (by first | (simp; done) | (simp; omega)) rfl rfl (by first | (simp; done) | (simp; omega)) rfl (by first | (simp; done) | (simp; omega)) (congrArg D.sl (take_len_map' _ _ rfl)) rfl

def dc6 : DCode := (.seq (.reg [⟨(some 4), (.asg (.c (.bool false)) none), none, []⟩] false) (.seq (.seq (.reg [⟨(some 8), (.call (.c (.clo 12 [])) []), none, []⟩, ⟨(some 9), (.un .not (.t 8)), none, []⟩] false) (.cond (.t 9) (.seq (.reg [⟨(some 4), (.asg (.c (.bool false)) none), none, []⟩] false) .ret) .skip)) (.seq (.reg [⟨(some 11), (.mv (.t 0)), none, []⟩, ⟨(some 12), (.call (.c (.clo 13 [])) [(.t 11)]), none, []⟩, ⟨(some 10), (.mv (.t 12)), none, []⟩, ⟨(some 13), (.ext (.t 10) 0), none, []⟩, ⟨(some 14), (.ext (.t 10) 1), none, []⟩, ⟨(some 5), (.new (.agg [(.int .i64 0), .nils, .nils]) 3 27), none, []⟩, ⟨none, (.st 3 (.t 5) (.t 13)), none, []⟩, ⟨(some 6), (.asg (.t 14) none), none, []⟩] false) (.seq (.seq (.reg [⟨(some 7), (.asg (.c (.int .i64 0)) none), none, []⟩] false) (.block 0 (.loop (.seq (.seq (.reg [⟨(some 15), (.mv (.t 7)), none, []⟩, ⟨(some 16), (.fldA 2 (.t 5)), none, []⟩, ⟨(some 17), (.ld 1 false (.t 16)), none, []⟩, ⟨(some 18), (.len false (.t 17)), none, []⟩, ⟨(some 19), (.bin .lss (.t 15) (.t 18)), none, []⟩] false) (.cond (.t 19) .skip (.exit 0))) (.seq (.block 1 (.seq (.reg [⟨(some 22), (.ld 3 true (.t 5)), none, []⟩, ⟨(some 23), (.mv (.t 7)), none, []⟩, ⟨(some 24), (.call (.c (.clo 23 [])) [(.t 22), (.t 23)]), none, [0, 1]⟩, ⟨(some 25), (.ld 3 true (.t 5)), none, []⟩, ⟨(some 26), (.mv (.t 7)), none, []⟩, ⟨(some 27), (.call (.c (.clo 24 [])) [(.t 25), (.t 26)]), none, [3, 4, 2]⟩, ⟨(some 28), (.eqA 2 true (.t 24) (.t 27)), none, [2, 5]⟩] true) (.cond (.t 28) (.seq (.reg [⟨(some 4), (.asg (.c (.bool false)) none), none, []⟩] false) .ret) .skip))) (.reg [⟨(some 20), (.mv (.t 7)), none, []⟩, ⟨(some 21), (.bin .add (.t 20) (.c (.int .i64 1))), none, []⟩, ⟨(some 7), (.asg (.t 21) none), none, []⟩] false)))))) (.seq (.reg [⟨(some 29), (.ld 3 true (.t 5)), none, []⟩, ⟨(some 30), (.call (.c (.clo 25 [])) [(.t 29)]), none, [0]⟩, ⟨(some 31), (.ld 3 true (.t 5)), none, []⟩, ⟨(some 32), (.call (.c (.clo 26 [])) [(.t 31)]), none, [2, 1]⟩, ⟨(some 33), (.call (.c (.clo 14 [])) [(.t 30), (.t 32)]), none, [1, 3, 3]⟩, ⟨(some 34), (.mv (.t 33)), none, [4, 4]⟩, ⟨(some 35), (.ld 3 true (.t 5)), (some ⟨34, true⟩), [5]⟩, ⟨(some 36), (.mv (.t 1)), (some ⟨34, true⟩), [5]⟩, ⟨(some 37), (.call (.c (.clo 23 [])) [(.t 35), (.t 36)]), (some ⟨34, true⟩), [6, 7, 5, 5]⟩, ⟨(some 38), (.ld 3 true (.t 5)), (some ⟨34, true⟩), [5]⟩, ⟨(some 39), (.mv (.t 1)), (some ⟨34, true⟩), [5]⟩, ⟨(some 40), (.call (.c (.clo 24 [])) [(.t 38), (.t 39)]), (some ⟨34, true⟩), [9, 10, 8, 5]⟩, ⟨(some 41), (.eqA 2 false (.t 37) (.t 40)), (some ⟨34, true⟩), [8, 11, 5]⟩, ⟨(some 42), (.pick (.t 34) (.t 41) (.c (.bool false))), none, [5, 12]⟩, ⟨(some 4), (.asg (.t 42) none), none, [13, 11, 0, 1, 2, 3, 4, 5, 6, 7, 8, 9, 10, 11, 12, 13]⟩] true) .ret)))))
theorem dc6_c : (Try.f6.body.bind (cCode Try.prog Try.f6.ntmps)) = some dc6 := by kernel_rfl
theorem dc6_r : Try.f6.results.toList.mapM (cRes Try.prog) = some [(.t 4)] := by kernel_rfl
def law13_FlowBlocks_enc (a : (List Int) × Int) : List D := [.sl (a.1.map eU8), .int .i64 a.2]
def law13_FlowBlocks_dec (ds : List D) : (List Int) × Int := ((uL uI) (ds.getD 0 .top), uI (ds.getD 1 .top))
theorem law13_FlowBlocks_de (a : (List Int) × Int) : law13_FlowBlocks_dec (law13_FlowBlocks_enc a) = a := by simp [law13_FlowBlocks_dec, law13_FlowBlocks_enc, uI, uBo, uS, uL_e (u := uI) (en := eU8) (fun _ => rfl)]
def law13_FlowBlocks_R (b : Bool) : D := .bool b
def law13_FlowBlocks_E (_b : Bool) : List D := []
noncomputable def law13_FlowBlocks_S : Dw.Spec := fSpec [] .ground law13_FlowBlocks_enc law13_FlowBlocks_dec (fun a => law13_FlowBlocks a.1 a.2) law13_FlowBlocks_R law13_FlowBlocks_E
set_option maxHeartbeats 4000000 in
theorem law13_FlowBlocks_ok : SpecOk Try.prog 6 law13_FlowBlocks_S := by
  refine fn_ok (specs_ok (l := [(12, law13_awake_S), (13, law13_function_S), (23, flow_Block_S), (24, ref13_Block_S), (25, flow_Leaders_S), (26, ref13_Leaders_S), (14, ref04_Same_S)]) (by simp [law13_awake_ok, law13_function_ok, flow_Block_ok, ref13_Block_ok, flow_Leaders_ok, ref13_Leaders_ok, ref04_Same_ok])) Try.func6 (by decide) dc6_c dc6_r (np := 2) (by decide) law13_FlowBlocks_de (fun _ => rfl) ?_
  rintro ⟨codes1, k2⟩
  show Tr (specs [(12, law13_awake_S), (13, law13_function_S), (23, flow_Block_S), (24, ref13_Block_S), (25, flow_Leaders_S), (26, ref13_Leaders_S), (14, ref04_Same_S)]) dc6 (kRet [] .ground [(.t 4)] 2 law13_FlowBlocks_R law13_FlowBlocks_E) ⟨[(0, .sl (codes1.map eU8)), (1, .int .i64 k2)], [], 2⟩ (law13_FlowBlocks codes1 k2)
  unfold dc6 law13_FlowBlocks
  refine tr_seq ?_
  refine tr_reg ?_
  refine trO_asg rfl rfl ?_
  refine trO_nil ?_
  refine trX_seq ?_
  refine tr_seq ?_
  refine tr_seq ?_
  refine tr_reg ?_
  refine trO_bind fun r3 hr3 => ?_
  refine trO_call_ground () rfl rfl rfl law13_awake_de rfl rfl (by simp) rfl hr3 rfl ?_
  refine trO_un (w := .bool (!r3)) rfl rfl rfl rfl trivial ?_
  refine trO_nil ?_
  refine trX_seq ?_
  refine tr_cond (c := (!r3)) rfl ?_ ?_
  ·
    refine tr_seq ?_
    refine tr_reg ?_
    refine trO_asg rfl rfl ?_
    refine trO_nil ?_
    refine trX_seq ?_
    refine tr_ret ?_
    refine trX_seq_ret ?_
    exact ret_ground (b := false) rfl (by first | (simp; done) | (simp; omega)) rfl rfl (by first | (simp; done) | (simp; omega)) rfl
  ·
    refine tr_skip ?_
    refine trX_seq ?_
    refine tr_seq ?_
    refine tr_reg ?_
    refine trO_mv rfl rfl ?_
    refine trO_bind fun r4 hr4 => ?_
    refine trO_call_tupPtr (rs := [eFunc r4.1, edraw_Codes r4.2]) (z := edraw_Codes r4.2) codes1 rfl rfl rfl law13_function_de rfl rfl (by simp) rfl hr4 rfl rfl ?_
    refine trO_mv rfl rfl ?_
    refine trO_ext (v := .agg [.int .i64 r4.1.Params, .sl (r4.1.Slots.map eSlot), .sl (r4.1.Code.map eInstr)]) rfl rfl rfl ?_
    refine trO_ext (v := .optr 12 _ 0 0) rfl rfl rfl ?_
    refine trO_new rfl ?_
    refine trO_st_var (z' := .agg [.int .i64 r4.1.Params, .sl (r4.1.Slots.map eSlot), .sl (r4.1.Code.map eInstr)]) rfl rfl rfl rfl rfl rfl rfl rfl rfl ?_
    refine trO_asg rfl rfl ?_
    refine trO_nil ?_
    refine trX_seq ?_
    refine tr_seq ?_
    refine tr_seq ?_
    refine tr_reg ?_
    refine trO_asg rfl rfl ?_
    refine trO_nil ?_
    refine trX_seq ?_
    refine tr_block ?_
    refine tr_loop (E := fun (s : Int) (g : Nat) => [(1, .int .i64 k2), (5, .optr 5 g 0 0), (7, .int .i64 s)]) (O := fun s g => [(5, some (g, ⟨false, true, 3, 27, [.agg [.int .i64 r4.1.Params, .sl (r4.1.Slots.map eSlot), .sl (r4.1.Code.map eInstr)]]⟩))]) (body := fun s => law13_FlowBlocks_b1 r4 k2 s) (s := 0) _ (has_exact ⟨rfl, rfl, rfl, trivial⟩ ⟨rfl, trivial⟩) ?_
    rintro i5 v5 nn
    show Tr _ _ _ ⟨[(1, .int .i64 k2), (5, .optr 5 v5 0 0), (7, .int .i64 i5)], [(5, some (v5, ⟨false, true, 3, 27, [.agg [.int .i64 r4.1.Params, .sl (r4.1.Slots.map eSlot), .sl (r4.1.Code.map eInstr)]]⟩))], _⟩ (law13_FlowBlocks_b1 r4 k2 i5)
    unfold law13_FlowBlocks_b1
    refine tr_seq ?_
    refine tr_seq ?_
    refine tr_reg ?_
    refine trO_mv rfl rfl ?_
    refine trO_fldA rfl rfl ?_
    refine trO_ld_obj (v := .sl (r4.1.Code.map eInstr)) (z := .agg [.int .i64 r4.1.Params, .sl (r4.1.Slots.map eSlot), .sl (r4.1.Code.map eInstr)]) rfl rfl rfl rfl rfl rfl ?_
    refine trO_len_sl rfl rfl ?_
    refine trO_bin (v := .bool (decide (i5 < (r4.1.Code.length : Int)))) rfl rfl rfl rfl rfl ?_
    refine trO_nil ?_
    refine trX_seq ?_
    refine tr_cond (c := (decide (i5 < (r4.1.Code.length : Int)))) rfl ?_ ?_
    ·
      refine tr_skip ?_
      refine trX_seq ?_
      refine tr_seq ?_
      refine tr_block ?_
      refine tr_seq ?_
      refine tr_reg ?_
      refine trO_ld_obj (v := .agg [.int .i64 r4.1.Params, .sl (r4.1.Slots.map eSlot), .sl (r4.1.Code.map eInstr)]) (z := .agg [.int .i64 r4.1.Params, .sl (r4.1.Slots.map eSlot), .sl (r4.1.Code.map eInstr)]) rfl rfl rfl rfl rfl rfl ?_
      refine trO_mv rfl rfl ?_
      refine trO_bind fun r6 hr6 => ?_
      refine trO_call_ground (r4.1, i5) rfl rfl rfl flow_Block_de rfl rfl (by simp) rfl hr6 rfl ?_
      refine trO_ld_obj (v := .agg [.int .i64 r4.1.Params, .sl (r4.1.Slots.map eSlot), .sl (r4.1.Code.map eInstr)]) (z := .agg [.int .i64 r4.1.Params, .sl (r4.1.Slots.map eSlot), .sl (r4.1.Code.map eInstr)]) rfl rfl rfl rfl rfl rfl ?_
      refine trO_mv rfl rfl ?_
      refine trO_bind fun r7 hr7 => ?_
      refine trO_call_ground (r4.1, i5) rfl rfl rfl ref13_Block_de rfl rfl (by simp) rfl hr7 rfl ?_
      refine trO_eqA (p := ((r6.Off == r7.Off) && ((r6.Size == r7.Size) && true))) rfl rfl rfl rfl ⟨rfl, ⟨rfl, trivial⟩⟩ rfl ?_
      refine trO_nil_draw (by kernel_rfl) ?_
      refine trX_seq ?_
      refine tr_cond (c := (!((r6.Off == r7.Off) && ((r6.Size == r7.Size) && true)))) rfl ?_ ?_
      ·
        refine tr_seq ?_
        refine tr_reg ?_
        refine trO_asg rfl rfl ?_
        refine trO_nil ?_
        refine trX_seq ?_
        refine tr_ret ?_
        refine trX_blk_ret ?_
        refine trX_seq_ret ?_
        refine trX_loop_ret ?_
        refine trX_blk_ret ?_
        refine trX_seq_ret ?_
        exact ret_ground (b := false) rfl (by first | (simp; done) | (simp; omega)) rfl rfl (by first | (simp; done) | (simp; omega)) rfl
      ·
        refine tr_skip ?_
        refine trX_blk_normal ?_
        refine trX_seq ?_
        refine tr_reg ?_
        refine trO_mv rfl rfl ?_
        refine trO_bin (v := .int .i64 (IntKind.i64.wrap (i5 + 1))) rfl rfl rfl rfl rfl ?_
        refine trO_asg rfl rfl ?_
        refine trO_nil ?_
        exact trX_loop (s := IntKind.i64.wrap (i5 + 1)) _ (has_exact ⟨rfl, rfl, rfl, trivial⟩ ⟨rfl, trivial⟩)
    ·
      refine tr_exit ?_
      refine trX_seq_exit ?_
      refine trX_loop_exit ?_
      refine trX_blk_here ?_
      refine trX_seq ?_
      refine tr_seq ?_
      refine tr_reg ?_
      refine trO_ld_obj (v := .agg [.int .i64 r4.1.Params, .sl (r4.1.Slots.map eSlot), .sl (r4.1.Code.map eInstr)]) (z := .agg [.int .i64 r4.1.Params, .sl (r4.1.Slots.map eSlot), .sl (r4.1.Code.map eInstr)]) rfl rfl rfl rfl rfl rfl ?_
      refine trO_bind fun r8 hr8 => ?_
      refine trO_call_row (l := r8) (en := eI64) r4.1 rfl rfl rfl flow_Leaders_de rfl rfl (by simp) rfl hr8 rfl ?_
      refine trO_ld_obj (v := .agg [.int .i64 r4.1.Params, .sl (r4.1.Slots.map eSlot), .sl (r4.1.Code.map eInstr)]) (z := .agg [.int .i64 r4.1.Params, .sl (r4.1.Slots.map eSlot), .sl (r4.1.Code.map eInstr)]) rfl rfl rfl rfl rfl rfl ?_
      refine trO_bind fun r9 hr9 => ?_
      refine trO_call_row (l := r9) (en := eI64) r4.1 rfl rfl rfl ref13_Leaders_de rfl rfl (by simp) rfl hr9 rfl ?_
      refine trO_bind fun r10 hr10 => ?_
      refine trO_call_ground (r8, r9) rfl rfl rfl ref04_Same_de rfl rfl (by simp) (by first | rfl | (simp only [take_drop0_map, take_sub_map]; rfl) | simp [ref04_Same_enc]) hr10 rfl ?_
      refine trO_mv rfl rfl ?_
      refine trO_split 34 (b := r10) rfl ?_ ?_
      ·
        refine trO_ld_obj (v := .agg [.int .i64 r4.1.Params, .sl (r4.1.Slots.map eSlot), .sl (r4.1.Code.map eInstr)]) (z := .agg [.int .i64 r4.1.Params, .sl (r4.1.Slots.map eSlot), .sl (r4.1.Code.map eInstr)]) rfl rfl rfl rfl rfl rfl ?_
        refine trO_mv rfl rfl ?_
        refine trO_bind fun r11 hr11 => ?_
        refine trO_call_ground (r4.1, k2) rfl rfl rfl flow_Block_de rfl rfl (by simp) rfl hr11 rfl ?_
        refine trO_ld_obj (v := .agg [.int .i64 r4.1.Params, .sl (r4.1.Slots.map eSlot), .sl (r4.1.Code.map eInstr)]) (z := .agg [.int .i64 r4.1.Params, .sl (r4.1.Slots.map eSlot), .sl (r4.1.Code.map eInstr)]) rfl rfl rfl rfl rfl rfl ?_
        refine trO_mv rfl rfl ?_
        refine trO_bind fun r12 hr12 => ?_
        refine trO_call_ground (r4.1, k2) rfl rfl rfl ref13_Block_de rfl rfl (by simp) rfl hr12 rfl ?_
        refine trO_eqA (p := ((r11.Off == r12.Off) && ((r11.Size == r12.Size) && true))) rfl rfl rfl rfl ⟨rfl, ⟨rfl, trivial⟩⟩ rfl ?_
        refine trO_pick_true rfl rfl rfl rfl ?_
        refine trO_asg rfl rfl ?_
        refine trO_nil_draw (by kernel_rfl) ?_
        refine trX_seq ?_
        refine tr_ret ?_
        exact ret_ground (b := ((r11.Off == r12.Off) && ((r11.Size == r12.Size) && true))) rfl (by first | (simp; done) | (simp; omega)) rfl rfl (by first | (simp; done) | (simp; omega)) rfl
      ·
        refine trO_off rfl ?_
        refine trO_off rfl ?_
        refine trO_off rfl ?_
        refine trO_off rfl ?_
        refine trO_off rfl ?_
        refine trO_off rfl ?_
        refine trO_off rfl ?_
        refine trO_pick_false rfl rfl rfl rfl ?_
        refine trO_asg rfl rfl ?_
        refine trO_nil_draw (by kernel_rfl) ?_
        refine trX_seq ?_
        refine tr_ret ?_
        exact ret_ground (b := false) rfl (by first | (simp; done) | (simp; omega)) rfl rfl (by first | (simp; done) | (simp; omega)) rfl

end Go.Proofs.Ytlphpepmbcbmiaa
