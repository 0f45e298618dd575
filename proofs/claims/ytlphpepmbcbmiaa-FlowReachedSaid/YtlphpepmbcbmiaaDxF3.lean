/-
  Programs on typed data, and the proofs that the code does what they say; written by a program (dx.py).
-/
import Derived.Test.YtlphpepmbcbmiaaProg
import Derived.Test.YtlphpepmbcbmiaaDx4
import Derived.Test.YtlphpepmbcbmiaaDy1
import Derived.KernelRfl
import Derived.Test.YtlphpepmbcbmiaaDxP
import Derived.Test.YtlphpepmbcbmiaaDxF1
import Derived.Test.YtlphpepmbcbmiaaDxF2
namespace Go.Proofs.Ytlphpepmbcbmiaa
open Go Go.Dw Go.Proofs
set_option maxRecDepth 100000
def dc22 : DCode := (.seq (.reg [⟨(some 1), (.box (.t 0) 3 27), none, []⟩, ⟨(some 2), (.asg (.c .nils) (some ⟨1, 4⟩)), none, []⟩] false) (.seq (.reg [⟨(some 8), (.fldA 2 (.t 1)), none, []⟩, ⟨(some 9), (.ld 1 false (.t 8)), none, []⟩, ⟨(some 10), (.len false (.t 9)), none, []⟩, ⟨(some 11), (.mkS 1 4 1 (.bool false) (.t 10) (.t 10)), none, []⟩, ⟨(some 3), (.asg (.t 11) (some ⟨1, 4⟩)), none, []⟩] false) (.seq (.seq (.reg [⟨(some 12), (.mv (.t 3)), none, []⟩, ⟨(some 13), (.len false (.t 12)), none, []⟩, ⟨(some 14), (.bin .gtr (.t 13) (.c (.int .i64 0))), none, []⟩] false) (.cond (.t 14) (.reg [⟨(some 15), (.mv (.t 3)), none, []⟩, ⟨(some 16), (.ixA 1 (.t 15) (.c (.int .i64 0))), none, []⟩, ⟨none, (.st 1 (.t 16) (.c (.bool true))), none, []⟩] false) .skip)) (.seq (.seq (.reg [⟨(some 4), (.asg (.c (.bool true)) none), none, []⟩] false) (.block 0 (.loop (.seq (.seq (.reg [⟨(some 17), (.mv (.t 4)), none, []⟩] false) (.cond (.t 17) .skip (.exit 0))) (.block 1 (.seq (.reg [⟨(some 4), (.asg (.c (.bool false)) none), none, []⟩] false) (.seq (.reg [⟨(some 5), (.asg (.c (.int .i64 0)) none), none, []⟩] false) (.block 2 (.loop (.seq (.seq (.reg [⟨(some 18), (.mv (.t 5)), none, []⟩, ⟨(some 19), (.fldA 2 (.t 1)), none, []⟩, ⟨(some 20), (.ld 1 false (.t 19)), none, []⟩, ⟨(some 21), (.len false (.t 20)), none, []⟩, ⟨(some 22), (.bin .lss (.t 18) (.t 21)), none, []⟩] false) (.cond (.t 22) .skip (.exit 2))) (.seq (.block 3 (.seq (.reg [⟨(some 25), (.ld 3 true (.t 1)), none, []⟩, ⟨(some 26), (.mv (.t 5)), none, []⟩, ⟨(some 27), (.call (.c (.clo 16 [])) [(.t 25), (.t 26)]), none, []⟩, ⟨(some 6), (.asg (.t 27) (some ⟨1, 3⟩)), none, []⟩] false) (.seq (.reg [⟨(some 7), (.asg (.c (.int .i64 0)) none), none, []⟩] false) (.block 4 (.loop (.seq (.seq (.reg [⟨(some 28), (.mv (.t 7)), none, []⟩, ⟨(some 29), (.mv (.t 6)), none, []⟩, ⟨(some 30), (.len false (.t 29)), none, []⟩, ⟨(some 31), (.bin .lss (.t 28) (.t 30)), none, []⟩, ⟨(some 32), (.mv (.t 31)), none, []⟩, ⟨(some 33), (.mv (.t 3)), (some ⟨32, true⟩), []⟩, ⟨(some 34), (.mv (.t 5)), (some ⟨32, true⟩), []⟩, ⟨(some 35), (.ixA 1 (.t 33) (.t 34)), (some ⟨32, true⟩), []⟩, ⟨(some 36), (.ld 1 false (.t 35)), (some ⟨32, true⟩), []⟩, ⟨(some 37), (.pick (.t 32) (.t 36) (.c (.bool false))), none, []⟩] false) (.cond (.t 37) .skip (.exit 4))) (.seq (.block 5 (.seq (.reg [⟨(some 40), (.mv (.t 3)), none, []⟩, ⟨(some 41), (.mv (.t 6)), none, []⟩, ⟨(some 42), (.mv (.t 7)), none, []⟩, ⟨(some 43), (.ixA 1 (.t 41) (.t 42)), none, []⟩, ⟨(some 44), (.ld 1 false (.t 43)), none, []⟩, ⟨(some 45), (.ixA 1 (.t 40) (.t 44)), none, []⟩, ⟨(some 46), (.ld 1 false (.t 45)), none, []⟩, ⟨(some 47), (.un .not (.t 46)), none, []⟩] false) (.cond (.t 47) (.reg [⟨(some 48), (.mv (.t 3)), none, []⟩, ⟨(some 49), (.mv (.t 6)), none, []⟩, ⟨(some 50), (.mv (.t 7)), none, []⟩, ⟨(some 51), (.ixA 1 (.t 49) (.t 50)), none, []⟩, ⟨(some 52), (.ld 1 false (.t 51)), none, []⟩, ⟨(some 53), (.ixA 1 (.t 48) (.t 52)), none, []⟩, ⟨none, (.st 1 (.t 53) (.c (.bool true))), none, []⟩, ⟨(some 4), (.asg (.c (.bool true)) none), none, []⟩] false) .skip))) (.reg [⟨(some 38), (.mv (.t 7)), none, []⟩, ⟨(some 39), (.bin .add (.t 38) (.c (.int .i64 1))), none, []⟩, ⟨(some 7), (.asg (.t 39) none), none, []⟩] false)))))))) (.reg [⟨(some 23), (.mv (.t 5)), none, []⟩, ⟨(some 24), (.bin .add (.t 23) (.c (.int .i64 1))), none, []⟩, ⟨(some 5), (.asg (.t 24) none), none, []⟩] false)))))))))))) (.seq (.reg [⟨(some 54), (.mv (.t 3)), none, []⟩, ⟨(some 2), (.asg (.t 54) (some ⟨1, 4⟩)), none, []⟩] false) .ret)))))
theorem dc22_c : (Try.f22.body.bind (cCode Try.prog Try.f22.ntmps)) = some dc22 := by kernel_rfl
theorem dc22_r : Try.f22.results.toList.mapM (cRes Try.prog) = some [(.t 2)] := by kernel_rfl
def ref13_Reached_enc (a : TFunc) : List D := [eFunc a]
def ref13_Reached_dec (ds : List D) : TFunc := uFunc (ds.getD 0 .top)
theorem ref13_Reached_de (a : TFunc) : ref13_Reached_dec (ref13_Reached_enc a) = a := by simp [ref13_Reached_dec, ref13_Reached_enc, uI, uBo, uS]
def ref13_Reached_R (b : (List Bool)) : D := .sl (b.map D.bool)
def ref13_Reached_E (_b : (List Bool)) : List D := []
noncomputable def ref13_Reached_S : Dw.Spec := fSpec [] (.row 1 4) ref13_Reached_enc ref13_Reached_dec (fun a => ref13_Reached a) ref13_Reached_R ref13_Reached_E
set_option maxHeartbeats 4000000 in
theorem ref13_Reached_ok : SpecOk Try.prog 22 ref13_Reached_S := by
  refine fn_ok (specs_ok (l := [(16, ref13_Next_S)]) (by simp [ref13_Next_ok])) Try.func22 (by decide) dc22_c dc22_r (np := 1) (by decide) ref13_Reached_de (fun _ => rfl) ?_
  intro f1
  show Tr (specs [(16, ref13_Next_S)]) dc22 (kRet [] (.row 1 4) [(.t 2)] 1 ref13_Reached_R ref13_Reached_E) ⟨[(0, .agg [.int .i64 f1.Params, .sl (f1.Slots.map eSlot), .sl (f1.Code.map eInstr)])], [], 1⟩ (ref13_Reached f1)
  unfold dc22 ref13_Reached
  refine tr_seq ?_
  refine tr_reg ?_
  refine trO_box rfl rfl rfl rfl rfl ?_
  refine trO_asg_nil (α := Bool) rfl D.bool rfl ?_
  refine trO_nil ?_
  refine trX_seq ?_
  refine tr_seq ?_
  refine tr_reg ?_
  refine trO_fldA rfl rfl ?_
  refine trO_ld_obj (v := .sl (f1.Code.map eInstr)) (z := .agg [.int .i64 f1.Params, .sl (f1.Slots.map eSlot), .sl (f1.Code.map eInstr)]) rfl rfl rfl rfl rfl rfl ?_
  refine trO_len_sl rfl rfl ?_
  refine trO_chk fun hq => ?_
  refine trO_mkS (q := false) D.bool rfl rfl rfl rfl hq rfl ?_
  refine trO_asg_own (l := List.replicate (f1.Code.length : Int).toNat false) (en := D.bool) rfl rfl rfl rfl ?_
  refine trO_nil ?_
  refine trX_seq ?_
  refine tr_seq_cut (E := fun (s : (List Bool)) (g : Nat × Nat) => [(1, .optr 1 g.1 0 0), (3, .osl 3 g.2 0 s.length)]) (O := fun s g => [(1, some (g.1, ⟨false, true, 3, 27, [.agg [.int .i64 f1.Params, .sl (f1.Slots.map eSlot), .sl (f1.Code.map eInstr)]]⟩)), (3, some (g.2, ⟨false, false, 1, 4, s.map D.bool⟩))]) (j := fun s => ref13_Reached_j1 f1 s) ?_ ?_
  ·
    refine tr_seq ?_
    refine tr_reg ?_
    refine trO_mv rfl rfl ?_
    refine trO_len_own rfl rfl ?_
    refine trO_bin (v := .bool (decide (((List.replicate (f1.Code.length : Int).toNat false).length : Int) > 0))) rfl rfl rfl rfl rfl ?_
    refine trO_nil ?_
    refine trX_seq ?_
    refine tr_cond (c := (decide (((List.replicate (f1.Code.length : Int).toNat false).length : Int) > 0))) rfl ?_ ?_
    ·
      refine tr_reg ?_
      refine trO_mv rfl rfl ?_
      refine trO_chk fun hq => ?_
      refine trO_ixA_own (l := List.replicate (f1.Code.length : Int).toNat false) (en := D.bool) rfl rfl rfl rfl rfl hq ?_
      refine trO_bind fun out_o3 hout_o3 => ?_
      refine trO_st_elem (l := List.replicate (f1.Code.length : Int).toNat false) (en := D.bool) (q' := true) rfl rfl rfl rfl rfl rfl rfl (by simp) hout_o3 rfl rfl rfl rfl rfl ?_
      refine trO_nil ?_
      exact trX_cut (s := (List.replicate (f1.Code.length : Int).toNat false).set ((0 : Int).toNat) true) (_, _) (has_exact ⟨rfl, (osl_len (q := (List.replicate (f1.Code.length : Int).toNat false).length) rfl (by simp)), trivial⟩ ⟨rfl, rfl, trivial⟩)
    ·
      refine tr_skip ?_
      exact trX_cut (s := List.replicate (f1.Code.length : Int).toNat false) (_, _) (has_exact ⟨rfl, rfl, trivial⟩ ⟨rfl, rfl, trivial⟩)
  ·
    rintro out2 ⟨v1, v3⟩ nn
    show Tr _ _ _ ⟨[(1, .optr 1 v1 0 0), (3, .osl 3 v3 0 out2.length)], [(1, some (v1, ⟨false, true, 3, 27, [.agg [.int .i64 f1.Params, .sl (f1.Slots.map eSlot), .sl (f1.Code.map eInstr)]]⟩)), (3, some (v3, ⟨false, false, 1, 4, out2.map D.bool⟩))], _⟩ (ref13_Reached_j1 f1 out2)
    unfold ref13_Reached_j1
    refine tr_seq ?_
    refine tr_seq ?_
    refine tr_reg ?_
    refine trO_asg rfl rfl ?_
    refine trO_nil ?_
    refine trX_seq ?_
    refine tr_block ?_
    refine tr_loop (E := fun (s : (List Bool) × Bool) (g : Nat × Nat) => [(1, .optr 1 g.1 0 0), (3, .osl 3 g.2 0 s.1.length), (4, .bool s.2)]) (O := fun s g => [(1, some (g.1, ⟨false, true, 3, 27, [.agg [.int .i64 f1.Params, .sl (f1.Slots.map eSlot), .sl (f1.Code.map eInstr)]]⟩)), (3, some (g.2, ⟨false, false, 1, 4, s.1.map D.bool⟩))]) (body := fun s => ref13_Reached_b2 f1 s.1 s.2) (s := (out2, true)) (_, _) (has_exact ⟨rfl, rfl, rfl, trivial⟩ ⟨rfl, rfl, trivial⟩) ?_
    rintro ⟨out4, again5⟩ ⟨v1, v3⟩ nn
    show Tr _ _ _ ⟨[(1, .optr 1 v1 0 0), (3, .osl 3 v3 0 out4.length), (4, .bool again5)], [(1, some (v1, ⟨false, true, 3, 27, [.agg [.int .i64 f1.Params, .sl (f1.Slots.map eSlot), .sl (f1.Code.map eInstr)]]⟩)), (3, some (v3, ⟨false, false, 1, 4, out4.map D.bool⟩))], _⟩ (ref13_Reached_b2 f1 out4 again5)
    unfold ref13_Reached_b2
    refine tr_seq ?_
    refine tr_seq ?_
    refine tr_reg ?_
    refine trO_mv rfl rfl ?_
    refine trO_nil ?_
    refine trX_seq ?_
    refine tr_cond (c := again5) rfl ?_ ?_
    ·
      refine tr_skip ?_
      refine trX_seq ?_
      refine tr_block ?_
      refine tr_seq ?_
      refine tr_reg ?_
      refine trO_asg rfl rfl ?_
      refine trO_nil ?_
      refine trX_seq ?_
      refine tr_seq ?_
      refine tr_reg ?_
      refine trO_asg rfl rfl ?_
      refine trO_nil ?_
      refine trX_seq ?_
      refine tr_block ?_
      refine tr_loop (E := fun (s : (List Bool) × Bool × Int) (g : Nat × Nat) => [(1, .optr 1 g.1 0 0), (3, .osl 3 g.2 0 s.1.length), (4, .bool s.2.1), (5, .int .i64 s.2.2)]) (O := fun s g => [(1, some (g.1, ⟨false, true, 3, 27, [.agg [.int .i64 f1.Params, .sl (f1.Slots.map eSlot), .sl (f1.Code.map eInstr)]]⟩)), (3, some (g.2, ⟨false, false, 1, 4, s.1.map D.bool⟩))]) (body := fun s => ref13_Reached_b3 f1 s.1 s.2.1 s.2.2) (s := (out4, false, 0)) (_, _) (has_exact ⟨rfl, rfl, rfl, rfl, trivial⟩ ⟨rfl, rfl, trivial⟩) ?_
      rintro ⟨out6, again7, k8⟩ ⟨v1, v3⟩ nn
      show Tr _ _ _ ⟨[(1, .optr 1 v1 0 0), (3, .osl 3 v3 0 out6.length), (4, .bool again7), (5, .int .i64 k8)], [(1, some (v1, ⟨false, true, 3, 27, [.agg [.int .i64 f1.Params, .sl (f1.Slots.map eSlot), .sl (f1.Code.map eInstr)]]⟩)), (3, some (v3, ⟨false, false, 1, 4, out6.map D.bool⟩))], _⟩ (ref13_Reached_b3 f1 out6 again7 k8)
      unfold ref13_Reached_b3
      refine tr_seq ?_
      refine tr_seq ?_
      refine tr_reg ?_
      refine trO_mv rfl rfl ?_
      refine trO_fldA rfl rfl ?_
      refine trO_ld_obj (v := .sl (f1.Code.map eInstr)) (z := .agg [.int .i64 f1.Params, .sl (f1.Slots.map eSlot), .sl (f1.Code.map eInstr)]) rfl rfl rfl rfl rfl rfl ?_
      refine trO_len_sl rfl rfl ?_
      refine trO_bin (v := .bool (decide (k8 < (f1.Code.length : Int)))) rfl rfl rfl rfl rfl ?_
      refine trO_nil ?_
      refine trX_seq ?_
      refine tr_cond (c := (decide (k8 < (f1.Code.length : Int)))) rfl ?_ ?_
      ·
        refine tr_skip ?_
        refine trX_seq ?_
        refine tr_seq_blk_cut (E := fun (s : (List Bool) × Bool) (g : Nat × Nat) => [(1, .optr 1 g.1 0 0), (3, .osl 3 g.2 0 s.1.length), (4, .bool s.2), (5, .int .i64 k8)]) (O := fun s g => [(1, some (g.1, ⟨false, true, 3, 27, [.agg [.int .i64 f1.Params, .sl (f1.Slots.map eSlot), .sl (f1.Code.map eInstr)]]⟩)), (3, some (g.2, ⟨false, false, 1, 4, s.1.map D.bool⟩))]) (j := fun s => ref13_Reached_j4 k8 s.1 s.2) ?_ ?_
        ·
          refine tr_seq ?_
          refine tr_reg ?_
          refine trO_ld_obj (v := .agg [.int .i64 f1.Params, .sl (f1.Slots.map eSlot), .sl (f1.Code.map eInstr)]) (z := .agg [.int .i64 f1.Params, .sl (f1.Slots.map eSlot), .sl (f1.Code.map eInstr)]) rfl rfl rfl rfl rfl rfl ?_
          refine trO_mv rfl rfl ?_
          refine trO_bind fun r11 hr11 => ?_
          refine trO_call_row (l := r11) (en := eI64) (f1, k8) rfl rfl rfl ref13_Next_de rfl rfl (by simp) rfl hr11 rfl ?_
          refine trO_asg_own (l := r11) (en := eI64) rfl rfl rfl rfl ?_
          refine trO_nil ?_
          refine trX_seq ?_
          refine tr_seq ?_
          refine tr_reg ?_
          refine trO_asg rfl rfl ?_
          refine trO_nil ?_
          refine trX_seq ?_
          refine tr_block ?_
          refine tr_loop (E := fun (s : (List Bool) × Bool × Int) (g : Nat × Nat × Nat) => [(1, .optr 1 g.1 0 0), (3, .osl 3 g.2.1 0 s.1.length), (4, .bool s.2.1), (5, .int .i64 k8), (6, .osl 6 g.2.2 0 r11.length), (7, .int .i64 s.2.2)]) (O := fun s g => [(1, some (g.1, ⟨false, true, 3, 27, [.agg [.int .i64 f1.Params, .sl (f1.Slots.map eSlot), .sl (f1.Code.map eInstr)]]⟩)), (3, some (g.2.1, ⟨false, false, 1, 4, s.1.map D.bool⟩)), (6, some (g.2.2, ⟨false, false, 1, 3, r11.map eI64⟩))]) (body := fun s => ref13_Reached_b5 r11 k8 s.1 s.2.1 s.2.2) (s := (out6, again7, 0)) (_, _, _) (has_exact ⟨rfl, rfl, rfl, rfl, rfl, rfl, trivial⟩ ⟨rfl, rfl, rfl, trivial⟩) ?_
          rintro ⟨out12, again13, i14⟩ ⟨v1, v3, v6⟩ nn
          show Tr _ _ _ ⟨[(1, .optr 1 v1 0 0), (3, .osl 3 v3 0 out12.length), (4, .bool again13), (5, .int .i64 k8), (6, .osl 6 v6 0 r11.length), (7, .int .i64 i14)], [(1, some (v1, ⟨false, true, 3, 27, [.agg [.int .i64 f1.Params, .sl (f1.Slots.map eSlot), .sl (f1.Code.map eInstr)]]⟩)), (3, some (v3, ⟨false, false, 1, 4, out12.map D.bool⟩)), (6, some (v6, ⟨false, false, 1, 3, r11.map eI64⟩))], _⟩ (ref13_Reached_b5 r11 k8 out12 again13 i14)
          unfold ref13_Reached_b5
          refine tr_seq_cut (E := fun (s : Bool) (g : Nat × Nat × Nat) => [(1, .optr 1 g.1 0 0), (3, .osl 3 g.2.1 0 out12.length), (4, .bool again13), (5, .int .i64 k8), (6, .osl 6 g.2.2 0 r11.length), (7, .int .i64 i14), (33, .osl 3 g.2.1 0 out12.length), (34, .int .i64 k8), (35, .optr 3 g.2.1 k8.toNat 0), (36, .bool s)]) (O := fun s g => [(1, some (g.1, ⟨false, true, 3, 27, [.agg [.int .i64 f1.Params, .sl (f1.Slots.map eSlot), .sl (f1.Code.map eInstr)]]⟩)), (3, some (g.2.1, ⟨false, false, 1, 4, out12.map D.bool⟩)), (6, some (g.2.2, ⟨false, false, 1, 3, r11.map eI64⟩))]) (j := fun s => ref13_Reached_j6 i14 r11 out12 again13 s) ?_ ?_
          ·
            refine tr_seq ?_
            refine tr_reg ?_
            refine trO_mv rfl rfl ?_
            refine trO_mv rfl rfl ?_
            refine trO_len_own rfl rfl ?_
            refine trO_bin (v := .bool (decide (i14 < (r11.length : Int)))) rfl rfl rfl rfl rfl ?_
            refine trO_mv rfl rfl ?_
            refine trO_split 32 (b := (decide (i14 < (r11.length : Int)))) rfl ?_ ?_
            ·
              refine trO_mv rfl rfl ?_
              refine trO_mv rfl rfl ?_
              refine trO_chk fun hq => ?_
              refine trO_ixA_own (l := out12) (en := D.bool) rfl rfl rfl rfl rfl hq ?_
              refine trO_bind fun out_e16 hout_e16 => ?_
              refine trO_ld_obj (v := .bool out_e16) (z := D.bool out_e16) rfl rfl rfl (map_get hout_e16) rfl rfl ?_
              refine trO_pick_true rfl rfl rfl rfl ?_
              refine trO_nil ?_
              refine trX_seq ?_
              refine tr_cond (c := out_e16) rfl ?_ ?_
              ·
                refine tr_skip ?_
                exact trX_cut (s := out_e16) (_, _, _) (has_exact ⟨rfl, rfl, rfl, rfl, rfl, rfl, rfl, rfl, rfl, rfl, trivial⟩ ⟨rfl, rfl, rfl, trivial⟩)
              ·
                refine tr_exit ?_
                refine trX_cut_exit ?_
                refine trX_loop_exit ?_
                refine trX_blk_here ?_
                exact trX_bcut_normal (s := (out12, again13)) (_, _) (has_exact ⟨rfl, rfl, rfl, rfl, trivial⟩ ⟨rfl, rfl, trivial⟩)
            ·
              refine trO_off rfl ?_
              refine trO_off rfl ?_
              refine trO_off rfl ?_
              refine trO_off rfl ?_
              refine trO_pick_false rfl rfl rfl rfl ?_
              refine trO_nil ?_
              refine trX_seq ?_
              refine tr_cond_false rfl ?_
              refine tr_exit ?_
              refine trX_cut_exit ?_
              refine trX_loop_exit ?_
              refine trX_blk_here ?_
              exact trX_bcut_normal (s := (out12, again13)) (_, _) (has_exact ⟨rfl, rfl, rfl, rfl, trivial⟩ ⟨rfl, rfl, trivial⟩)
          ·
            rintro x15 ⟨v1, v3, v6⟩ nn
            show Tr _ _ _ ⟨[(1, .optr 1 v1 0 0), (3, .osl 3 v3 0 out12.length), (4, .bool again13), (5, .int .i64 k8), (6, .osl 6 v6 0 r11.length), (7, .int .i64 i14), (33, .osl 3 v3 0 out12.length), (34, .int .i64 k8), (35, .optr 3 v3 k8.toNat 0), (36, .bool x15)], [(1, some (v1, ⟨false, true, 3, 27, [.agg [.int .i64 f1.Params, .sl (f1.Slots.map eSlot), .sl (f1.Code.map eInstr)]]⟩)), (3, some (v3, ⟨false, false, 1, 4, out12.map D.bool⟩)), (6, some (v6, ⟨false, false, 1, 3, r11.map eI64⟩))], _⟩ (ref13_Reached_j6 i14 r11 out12 again13 x15)
            unfold ref13_Reached_j6
            refine tr_seq ?_
            refine tr_block ?_
            refine tr_seq ?_
            refine tr_reg ?_
            refine trO_mv rfl rfl ?_
            refine trO_mv rfl rfl ?_
            refine trO_mv rfl rfl ?_
            refine trO_chk fun hq => ?_
            refine trO_ixA_own (l := r11) (en := eI64) rfl rfl rfl rfl rfl hq ?_
            refine trO_bind fun l_e17 hl_e17 => ?_
            refine trO_ld_obj (v := .int .i64 l_e17) (z := eI64 l_e17) rfl rfl rfl (map_get hl_e17) rfl rfl ?_
            refine trO_chk fun hq => ?_
            refine trO_ixA_own (l := out12) (en := D.bool) rfl rfl rfl rfl rfl hq ?_
            refine trO_bind fun out_e18 hout_e18 => ?_
            refine trO_ld_obj (v := .bool out_e18) (z := D.bool out_e18) rfl rfl rfl (map_get hout_e18) rfl rfl ?_
            refine trO_un (w := .bool (!out_e18)) rfl rfl rfl rfl trivial ?_
            refine trO_nil ?_
            refine trX_seq ?_
            refine tr_cond (c := (!out_e18)) rfl ?_ ?_
            ·
              refine tr_reg ?_
              refine trO_mv rfl rfl ?_
              refine trO_mv rfl rfl ?_
              refine trO_mv rfl rfl ?_
              refine trO_chk fun hq => ?_
              refine trO_ixA_own (l := r11) (en := eI64) rfl rfl rfl rfl rfl hq ?_
              refine trO_bind fun l_e19 hl_e19 => ?_
              refine trO_ld_obj (v := .int .i64 l_e19) (z := eI64 l_e19) rfl rfl rfl (map_get hl_e19) rfl rfl ?_
              refine trO_chk fun hq => ?_
              refine trO_ixA_own (l := out12) (en := D.bool) rfl rfl rfl rfl rfl hq ?_
              refine trO_bind fun out_o20 hout_o20 => ?_
              refine trO_st_elem (l := out12) (en := D.bool) (q' := true) rfl rfl rfl rfl rfl rfl rfl (by simp) hout_o20 rfl rfl rfl rfl rfl ?_
              refine trO_asg rfl rfl ?_
              refine trO_nil ?_
              refine trX_blk_normal ?_
              refine trX_seq ?_
              refine tr_reg ?_
              refine trO_mv rfl rfl ?_
              refine trO_bin (v := .int .i64 (IntKind.i64.wrap (i14 + 1))) rfl rfl rfl rfl rfl ?_
              refine trO_asg rfl rfl ?_
              refine trO_nil ?_
              exact trX_loop (s := (out12.set l_e19.toNat true, true, IntKind.i64.wrap (i14 + 1))) (_, _, _) (has_exact ⟨rfl, (osl_len (q := out12.length) rfl (by simp)), rfl, rfl, rfl, rfl, trivial⟩ ⟨rfl, rfl, rfl, trivial⟩)
            ·
              refine tr_skip ?_
              refine trX_blk_normal ?_
              refine trX_seq ?_
              refine tr_reg ?_
              refine trO_mv rfl rfl ?_
              refine trO_bin (v := .int .i64 (IntKind.i64.wrap (i14 + 1))) rfl rfl rfl rfl rfl ?_
              refine trO_asg rfl rfl ?_
              refine trO_nil ?_
              exact trX_loop (s := (out12, again13, IntKind.i64.wrap (i14 + 1))) (_, _, _) (has_exact ⟨rfl, rfl, rfl, rfl, rfl, rfl, trivial⟩ ⟨rfl, rfl, rfl, trivial⟩)
        ·
          rintro ⟨out9, again10⟩ ⟨v1, v3⟩ nn
          show Tr _ _ _ ⟨[(1, .optr 1 v1 0 0), (3, .osl 3 v3 0 out9.length), (4, .bool again10), (5, .int .i64 k8)], [(1, some (v1, ⟨false, true, 3, 27, [.agg [.int .i64 f1.Params, .sl (f1.Slots.map eSlot), .sl (f1.Code.map eInstr)]]⟩)), (3, some (v3, ⟨false, false, 1, 4, out9.map D.bool⟩))], _⟩ (ref13_Reached_j4 k8 out9 again10)
          unfold ref13_Reached_j4
          refine tr_reg ?_
          refine trO_mv rfl rfl ?_
          refine trO_bin (v := .int .i64 (IntKind.i64.wrap (k8 + 1))) rfl rfl rfl rfl rfl ?_
          refine trO_asg rfl rfl ?_
          refine trO_nil ?_
          exact trX_loop (s := (out9, again10, IntKind.i64.wrap (k8 + 1))) (_, _) (has_exact ⟨rfl, rfl, rfl, rfl, trivial⟩ ⟨rfl, rfl, trivial⟩)
      ·
        refine tr_exit ?_
        refine trX_seq_exit ?_
        refine trX_loop_exit ?_
        refine trX_blk_here ?_
        refine trX_blk_normal ?_
        exact trX_loop (s := (out6, again7)) (_, _) (has_exact ⟨rfl, rfl, rfl, trivial⟩ ⟨rfl, rfl, trivial⟩)
    ·
      refine tr_exit ?_
      refine trX_seq_exit ?_
      refine trX_loop_exit ?_
      refine trX_blk_here ?_
      refine trX_seq ?_
      refine tr_seq ?_
      refine tr_reg ?_
      refine trO_mv rfl rfl ?_
      refine trO_asg_own (l := out4) (en := D.bool) rfl rfl rfl rfl ?_
      refine trO_nil ?_
      refine trX_seq ?_
      refine tr_ret ?_
      exact ret_row (b := out4) rfl (by first | (simp; done) | (simp; omega)) rfl rfl (by first | (simp; done) | (simp; omega)) rfl (by first | (simp; done) | (simp; omega)) (congrArg D.sl (take_len_map' _ _ rfl)) rfl

def dc5 : DCode := (.seq (.reg [⟨(some 2), (.asg (.c (.bool false)) none), none, []⟩] false) (.seq (.seq (.reg [⟨(some 8), (.call (.c (.clo 12 [])) []), none, []⟩, ⟨(some 9), (.un .not (.t 8)), none, []⟩] false) (.cond (.t 9) (.seq (.reg [⟨(some 2), (.asg (.c (.bool false)) none), none, []⟩] false) .ret) .skip)) (.seq (.reg [⟨(some 11), (.mv (.t 0)), none, []⟩, ⟨(some 12), (.call (.c (.clo 13 [])) [(.t 11)]), none, []⟩, ⟨(some 10), (.mv (.t 12)), none, []⟩, ⟨(some 13), (.ext (.t 10) 0), none, []⟩, ⟨(some 14), (.ext (.t 10) 1), none, []⟩, ⟨(some 3), (.new (.agg [(.int .i64 0), .nils, .nils]) 3 27), none, []⟩, ⟨none, (.st 3 (.t 3) (.t 13)), none, []⟩, ⟨(some 4), (.asg (.t 14) none), none, []⟩] false) (.seq (.reg [⟨(some 15), (.ld 3 true (.t 3)), none, []⟩, ⟨(some 16), (.call (.c (.clo 21 [])) [(.t 15)]), none, [0]⟩, ⟨(some 17), (.ld 3 true (.t 3)), none, []⟩, ⟨(some 18), (.call (.c (.clo 22 [])) [(.t 17)]), none, [2, 1]⟩, ⟨(some 5), (.asg (.t 16) (some ⟨1, 4⟩)), none, [1, 3, 0, 1]⟩, ⟨(some 6), (.asg (.t 18) (some ⟨1, 4⟩)), none, [3, 4, 0, 1, 2, 3, 4]⟩] true) (.seq (.seq (.reg [⟨(some 19), (.mv (.t 5)), none, []⟩, ⟨(some 20), (.len false (.t 19)), none, []⟩, ⟨(some 21), (.mv (.t 6)), none, []⟩, ⟨(some 22), (.len false (.t 21)), none, []⟩, ⟨(some 23), (.bin .neq (.t 20) (.t 22)), none, []⟩] false) (.cond (.t 23) (.seq (.reg [⟨(some 2), (.asg (.c (.bool false)) none), none, []⟩] false) .ret) .skip)) (.seq (.seq (.reg [⟨(some 7), (.asg (.c (.int .i64 0)) none), none, []⟩] false) (.block 0 (.loop (.seq (.seq (.reg [⟨(some 24), (.mv (.t 7)), none, []⟩, ⟨(some 25), (.mv (.t 5)), none, []⟩, ⟨(some 26), (.len false (.t 25)), none, []⟩, ⟨(some 27), (.bin .lss (.t 24) (.t 26)), none, []⟩] false) (.cond (.t 27) .skip (.exit 0))) (.seq (.block 1 (.seq (.reg [⟨(some 30), (.mv (.t 5)), none, []⟩, ⟨(some 31), (.mv (.t 7)), none, []⟩, ⟨(some 32), (.ixA 1 (.t 30) (.t 31)), none, [0, 1]⟩, ⟨(some 33), (.ld 1 false (.t 32)), none, [2]⟩, ⟨(some 34), (.mv (.t 6)), none, []⟩, ⟨(some 35), (.mv (.t 7)), none, []⟩, ⟨(some 36), (.ixA 1 (.t 34) (.t 35)), none, [4, 5]⟩, ⟨(some 37), (.ld 1 false (.t 36)), none, [6]⟩, ⟨(some 38), (.eqB true (.t 33) (.t 37)), none, [3, 7]⟩] true) (.cond (.t 38) (.seq (.reg [⟨(some 2), (.asg (.c (.bool false)) none), none, []⟩] false) .ret) .skip))) (.reg [⟨(some 28), (.mv (.t 7)), none, []⟩, ⟨(some 29), (.bin .add (.t 28) (.c (.int .i64 1))), none, []⟩, ⟨(some 7), (.asg (.t 29) none), none, []⟩] false)))))) (.seq (.reg [⟨(some 2), (.asg (.c (.bool true)) none), none, []⟩] false) .ret)))))))
theorem dc5_c : (Try.f5.body.bind (cCode Try.prog Try.f5.ntmps)) = some dc5 := by kernel_rfl
theorem dc5_r : Try.f5.results.toList.mapM (cRes Try.prog) = some [(.t 2)] := by kernel_rfl
def law13_FlowReached_enc (a : (List Int)) : List D := [.sl (a.map eU8)]
def law13_FlowReached_dec (ds : List D) : (List Int) := (uL uI) (ds.getD 0 .top)
theorem law13_FlowReached_de (a : (List Int)) : law13_FlowReached_dec (law13_FlowReached_enc a) = a := by simp [law13_FlowReached_dec, law13_FlowReached_enc, uI, uBo, uS, uL_e (u := uI) (en := eU8) (fun _ => rfl)]
def law13_FlowReached_R (b : Bool) : D := .bool b
def law13_FlowReached_E (_b : Bool) : List D := []
noncomputable def law13_FlowReached_S : Dw.Spec := fSpec [] .ground law13_FlowReached_enc law13_FlowReached_dec (fun a => law13_FlowReached a) law13_FlowReached_R law13_FlowReached_E
set_option maxHeartbeats 4000000 in
theorem law13_FlowReached_ok : SpecOk Try.prog 5 law13_FlowReached_S := by
  refine fn_ok (specs_ok (l := [(12, law13_awake_S), (13, law13_function_S), (21, flow_Reached_S), (22, ref13_Reached_S)]) (by simp [law13_awake_ok, law13_function_ok, flow_Reached_ok, ref13_Reached_ok])) Try.func5 (by decide) dc5_c dc5_r (np := 1) (by decide) law13_FlowReached_de (fun _ => rfl) ?_
  intro codes1
  show Tr (specs [(12, law13_awake_S), (13, law13_function_S), (21, flow_Reached_S), (22, ref13_Reached_S)]) dc5 (kRet [] .ground [(.t 2)] 1 law13_FlowReached_R law13_FlowReached_E) ⟨[(0, .sl (codes1.map eU8))], [], 1⟩ (law13_FlowReached codes1)
  unfold dc5 law13_FlowReached
  refine tr_seq ?_
  refine tr_reg ?_
  refine trO_asg rfl rfl ?_
  refine trO_nil ?_
  refine trX_seq ?_
  refine tr_seq ?_
  refine tr_seq ?_
  refine tr_reg ?_
  refine trO_bind fun r2 hr2 => ?_
  refine trO_call_ground () rfl rfl rfl law13_awake_de rfl rfl (by simp) rfl hr2 rfl ?_
  refine trO_un (w := .bool (!r2)) rfl rfl rfl rfl trivial ?_
  refine trO_nil ?_
  refine trX_seq ?_
  refine tr_cond (c := (!r2)) rfl ?_ ?_
  ·
    refine tr_seq ?_
    refine tr_reg ?_
    refine trO_asg rfl rfl ?_
    refine trO_nil ?_
    refine trX_seq ?_
    refine tr_ret ?_
    refine trX_seq_ret ?_
    exact ret_ground (b := false) rfl (by first | (simp; done) | (simp; omega)) rfl rfl (by first | (simp; done) | (simp; omega)) rfl
  ·
    refine tr_skip ?_
    refine trX_seq ?_
    refine tr_seq ?_
    refine tr_reg ?_
    refine trO_mv rfl rfl ?_
    refine trO_bind fun r3 hr3 => ?_
    refine trO_call_tupPtr (rs := [eFunc r3.1, edraw_Codes r3.2]) (z := edraw_Codes r3.2) codes1 rfl rfl rfl law13_function_de rfl rfl (by simp) rfl hr3 rfl rfl ?_
    refine trO_mv rfl rfl ?_
    refine trO_ext (v := .agg [.int .i64 r3.1.Params, .sl (r3.1.Slots.map eSlot), .sl (r3.1.Code.map eInstr)]) rfl rfl rfl ?_
    refine trO_ext (v := .optr 12 _ 0 0) rfl rfl rfl ?_
    refine trO_new rfl ?_
    refine trO_st_var (z' := .agg [.int .i64 r3.1.Params, .sl (r3.1.Slots.map eSlot), .sl (r3.1.Code.map eInstr)]) rfl rfl rfl rfl rfl rfl rfl rfl rfl ?_
    refine trO_asg rfl rfl ?_
    refine trO_nil ?_
    refine trX_seq ?_
    refine tr_seq ?_
    refine tr_reg ?_
    refine trO_ld_obj (v := .agg [.int .i64 r3.1.Params, .sl (r3.1.Slots.map eSlot), .sl (r3.1.Code.map eInstr)]) (z := .agg [.int .i64 r3.1.Params, .sl (r3.1.Slots.map eSlot), .sl (r3.1.Code.map eInstr)]) rfl rfl rfl rfl rfl rfl ?_
    refine trO_bind fun r4 hr4 => ?_
    refine trO_call_row (l := r4) (en := D.bool) r3.1 rfl rfl rfl flow_Reached_de rfl rfl (by simp) rfl hr4 rfl ?_
    refine trO_ld_obj (v := .agg [.int .i64 r3.1.Params, .sl (r3.1.Slots.map eSlot), .sl (r3.1.Code.map eInstr)]) (z := .agg [.int .i64 r3.1.Params, .sl (r3.1.Slots.map eSlot), .sl (r3.1.Code.map eInstr)]) rfl rfl rfl rfl rfl rfl ?_
    refine trO_bind fun r5 hr5 => ?_
    refine trO_call_row (l := r5) (en := D.bool) r3.1 rfl rfl rfl ref13_Reached_de rfl rfl (by simp) rfl hr5 rfl ?_
    refine trO_asg_own (l := r4) (en := D.bool) rfl rfl rfl rfl ?_
    refine trO_asg_own (l := r5) (en := D.bool) rfl rfl rfl rfl ?_
    refine trO_nil_draw (by kernel_rfl) ?_
    refine trX_seq ?_
    refine tr_seq ?_
    refine tr_seq ?_
    refine tr_reg ?_
    refine trO_mv rfl rfl ?_
    refine trO_len_own rfl rfl ?_
    refine trO_mv rfl rfl ?_
    refine trO_len_own rfl rfl ?_
    refine trO_bin (v := .bool ((r4.length : Int) != (r5.length : Int))) rfl rfl rfl rfl rfl ?_
    refine trO_nil ?_
    refine trX_seq ?_
    refine tr_cond (c := ((r4.length : Int) != (r5.length : Int))) rfl ?_ ?_
    ·
      refine tr_seq ?_
      refine tr_reg ?_
      refine trO_asg rfl rfl ?_
      refine trO_nil ?_
      refine trX_seq ?_
      refine tr_ret ?_
      refine trX_seq_ret ?_
      exact ret_ground (b := false) rfl (by first | (simp; done) | (simp; omega)) rfl rfl (by first | (simp; done) | (simp; omega)) rfl
    ·
      refine tr_skip ?_
      refine trX_seq ?_
      refine tr_seq ?_
      refine tr_seq ?_
      refine tr_reg ?_
      refine trO_asg rfl rfl ?_
      refine trO_nil ?_
      refine trX_seq ?_
      refine tr_block ?_
      refine tr_loop (E := fun (s : Int) (g : Nat × Nat) => [(5, .osl 5 g.1 0 r4.length), (6, .osl 6 g.2 0 r5.length), (7, .int .i64 s)]) (O := fun s g => [(5, some (g.1, ⟨false, false, 1, 4, r4.map D.bool⟩)), (6, some (g.2, ⟨false, false, 1, 4, r5.map D.bool⟩))]) (body := fun s => law13_FlowReached_b1 r4 r5 s) (s := 0) (_, _) (has_exact ⟨rfl, rfl, rfl, trivial⟩ ⟨rfl, rfl, trivial⟩) ?_
      rintro k6 ⟨v5, v6⟩ nn
      show Tr _ _ _ ⟨[(5, .osl 5 v5 0 r4.length), (6, .osl 6 v6 0 r5.length), (7, .int .i64 k6)], [(5, some (v5, ⟨false, false, 1, 4, r4.map D.bool⟩)), (6, some (v6, ⟨false, false, 1, 4, r5.map D.bool⟩))], _⟩ (law13_FlowReached_b1 r4 r5 k6)
      unfold law13_FlowReached_b1
      refine tr_seq ?_
      refine tr_seq ?_
      refine tr_reg ?_
      refine trO_mv rfl rfl ?_
      refine trO_mv rfl rfl ?_
      refine trO_len_own rfl rfl ?_
      refine trO_bin (v := .bool (decide (k6 < (r4.length : Int)))) rfl rfl rfl rfl rfl ?_
      refine trO_nil ?_
      refine trX_seq ?_
      refine tr_cond (c := (decide (k6 < (r4.length : Int)))) rfl ?_ ?_
      ·
        refine tr_skip ?_
        refine trX_seq ?_
        refine tr_seq ?_
        refine tr_block ?_
        refine tr_seq ?_
        refine tr_reg ?_
        refine trO_mv rfl rfl ?_
        refine trO_mv rfl rfl ?_
        refine trO_chk fun hq => ?_
        refine trO_ixA_own (l := r4) (en := D.bool) rfl rfl rfl rfl rfl hq ?_
        refine trO_bind fun a_e7 ha_e7 => ?_
        refine trO_ld_obj (v := .bool a_e7) (z := D.bool a_e7) rfl rfl rfl (map_get ha_e7) rfl rfl ?_
        refine trO_mv rfl rfl ?_
        refine trO_mv rfl rfl ?_
        refine trO_chk fun hq => ?_
        refine trO_ixA_own (l := r5) (en := D.bool) rfl rfl rfl rfl rfl hq ?_
        refine trO_bind fun b_e8 hb_e8 => ?_
        refine trO_ld_obj (v := .bool b_e8) (z := D.bool b_e8) rfl rfl rfl (map_get hb_e8) rfl rfl ?_
        refine trO_eqB rfl rfl rfl ?_
        refine trO_nil_draw (by kernel_rfl) ?_
        refine trX_seq ?_
        refine tr_cond (c := (!(a_e7 == b_e8))) rfl ?_ ?_
        ·
          refine tr_seq ?_
          refine tr_reg ?_
          refine trO_asg rfl rfl ?_
          refine trO_nil ?_
          refine trX_seq ?_
          refine tr_ret ?_
          refine trX_blk_ret ?_
          refine trX_seq_ret ?_
          refine trX_loop_ret ?_
          refine trX_blk_ret ?_
          refine trX_seq_ret ?_
          exact ret_ground (b := false) rfl (by first | (simp; done) | (simp; omega)) rfl rfl (by first | (simp; done) | (simp; omega)) rfl
        ·
          refine tr_skip ?_
          refine trX_blk_normal ?_
          refine trX_seq ?_
          refine tr_reg ?_
          refine trO_mv rfl rfl ?_
          refine trO_bin (v := .int .i64 (IntKind.i64.wrap (k6 + 1))) rfl rfl rfl rfl rfl ?_
          refine trO_asg rfl rfl ?_
          refine trO_nil ?_
          exact trX_loop (s := IntKind.i64.wrap (k6 + 1)) (_, _) (has_exact ⟨rfl, rfl, rfl, trivial⟩ ⟨rfl, rfl, trivial⟩)
      ·
        refine tr_exit ?_
        refine trX_seq_exit ?_
        refine trX_loop_exit ?_
        refine trX_blk_here ?_
        refine trX_seq ?_
        refine tr_seq ?_
        refine tr_reg ?_
        refine trO_asg rfl rfl ?_
        refine trO_nil ?_
        refine trX_seq ?_
        refine tr_ret ?_
        exact ret_ground (b := true) rfl (by first | (simp; done) | (simp; omega)) rfl rfl (by first | (simp; done) | (simp; omega)) rfl

end Go.Proofs.Ytlphpepmbcbmiaa
