/-
  Programs on typed data, and the proofs that the code does what they say; written by a program (dx.py).
-/
import Derived.Test.YtihomlbcppfngaaProg
import Derived.Test.YtihomlbcppfngaaDx4
import Derived.KernelRfl
import Derived.Test.YtihomlbcppfngaaDxP
import Derived.Test.YtihomlbcppfngaaDxF1
namespace Go.Proofs.Ytihomlbcppfngaa
open Go Go.Dw Go.Proofs
set_option maxRecDepth 100000
def dc31 : DCode := (.seq (.reg [⟨(some 4), (.asg (.c (.int .i64 0)) none), none, []⟩, ⟨(some 5), (.asg (.c (.bool false)) none), none, []⟩] false) (.seq (.reg [⟨(some 10), (.mv (.t 0)), none, []⟩, ⟨(some 11), (.len false (.t 10)), none, []⟩, ⟨(some 6), (.asg (.t 11) none), none, []⟩] false) (.seq (.reg [⟨(some 12), (.mv (.t 6)), none, []⟩, ⟨(some 7), (.asg (.c (.int .i64 0)) none), none, []⟩, ⟨(some 8), (.asg (.t 12) none), none, []⟩] false) (.seq (.block 0 (.loop (.seq (.seq (.reg [⟨(some 13), (.mv (.t 7)), none, []⟩, ⟨(some 14), (.mv (.t 8)), none, []⟩, ⟨(some 15), (.bin .lss (.t 13) (.t 14)), none, []⟩] false) (.cond (.t 15) .skip (.exit 0))) (.block 1 (.seq (.reg [⟨(some 16), (.mv (.t 7)), none, []⟩, ⟨(some 17), (.mv (.t 8)), none, []⟩, ⟨(some 18), (.bin .add (.t 16) (.t 17)), none, []⟩, ⟨(some 19), (.cvt .u64 (.t 18)), none, []⟩, ⟨(some 20), (.bin .shr (.t 19) (.c (.int .u64 1))), none, []⟩, ⟨(some 21), (.cvt .i64 (.t 20)), none, []⟩, ⟨(some 9), (.asg (.t 21) none), none, []⟩] false) (.seq (.reg [⟨(some 22), (.mv (.t 0)), none, []⟩, ⟨(some 23), (.mv (.t 9)), none, []⟩, ⟨(some 24), (.ixA 1 (.t 22) (.t 23)), none, []⟩, ⟨(some 25), (.ld 1 false (.t 24)), none, []⟩, ⟨(some 26), (.mv (.t 1)), none, []⟩, ⟨(some 27), (.call (.c (.clo 45 [])) [(.t 25), (.t 26)]), none, []⟩] false) (.cond (.t 27) (.reg [⟨(some 28), (.mv (.t 9)), none, []⟩, ⟨(some 29), (.bin .add (.t 28) (.c (.int .i64 1))), none, []⟩, ⟨(some 7), (.asg (.t 29) none), none, []⟩] false) (.reg [⟨(some 30), (.mv (.t 9)), none, []⟩, ⟨(some 8), (.asg (.t 30) none), none, []⟩] false)))))))) (.seq (.reg [⟨(some 31), (.mv (.t 7)), none, []⟩, ⟨(some 32), (.mv (.t 7)), none, []⟩, ⟨(some 33), (.mv (.t 6)), none, []⟩, ⟨(some 34), (.bin .lss (.t 32) (.t 33)), none, []⟩, ⟨(some 35), (.mv (.t 34)), none, []⟩, ⟨(some 36), (.mv (.t 0)), (some ⟨35, true⟩), []⟩, ⟨(some 37), (.mv (.t 7)), (some ⟨35, true⟩), []⟩, ⟨(some 38), (.ixA 1 (.t 36) (.t 37)), (some ⟨35, true⟩), []⟩, ⟨(some 39), (.ld 1 false (.t 38)), (some ⟨35, true⟩), []⟩, ⟨(some 40), (.mv (.t 1)), (some ⟨35, true⟩), []⟩, ⟨(some 41), (.bin .eql (.t 39) (.t 40)), (some ⟨35, true⟩), []⟩, ⟨(some 42), (.mv (.t 41)), (some ⟨35, true⟩), []⟩, ⟨(some 43), (.mv (.t 0)), (some ⟨42, false⟩), []⟩, ⟨(some 44), (.mv (.t 7)), (some ⟨42, false⟩), []⟩, ⟨(some 45), (.ixA 1 (.t 43) (.t 44)), (some ⟨42, false⟩), []⟩, ⟨(some 46), (.ld 1 false (.t 45)), (some ⟨42, false⟩), []⟩, ⟨(some 47), (.call (.c (.clo 46 [])) [(.t 46)]), (some ⟨42, false⟩), []⟩, ⟨(some 48), (.mv (.t 47)), (some ⟨42, false⟩), []⟩, ⟨(some 49), (.mv (.t 1)), (some ⟨48, true⟩), []⟩, ⟨(some 50), (.call (.c (.clo 46 [])) [(.t 49)]), (some ⟨48, true⟩), []⟩, ⟨(some 51), (.pick (.t 48) (.t 50) (.c (.bool false))), (some ⟨42, false⟩), []⟩, ⟨(some 52), (.pick (.t 42) (.c (.bool true)) (.t 51)), (some ⟨35, true⟩), []⟩, ⟨(some 53), (.pick (.t 35) (.t 52) (.c (.bool false))), none, []⟩, ⟨(some 4), (.asg (.t 31) none), none, []⟩, ⟨(some 5), (.asg (.t 53) none), none, []⟩] false) .ret)))))
theorem dc31_c : (Try.f31.body.bind (cCode Try.prog Try.f31.ntmps)) = some dc31 := by kernel_rfl
theorem dc31_r : Try.f31.results.toList.mapM (cRes Try.prog) = some [(.t 4), (.t 5)] := by kernel_rfl
def slices_BinarySearch_int_int_enc (a : (List Int) × Int) : List D := [.sl (a.1.map eI64), .int .i64 a.2]
def slices_BinarySearch_int_int_dec (ds : List D) : (List Int) × Int := ((uL uI) (ds.getD 0 .top), uI (ds.getD 1 .top))
theorem slices_BinarySearch_int_int_de (a : (List Int) × Int) : slices_BinarySearch_int_int_dec (slices_BinarySearch_int_int_enc a) = a := by simp [slices_BinarySearch_int_int_dec, slices_BinarySearch_int_int_enc, uI, uBo, uS, uL_e (u := uI) (en := eI64) (fun _ => rfl)]
def slices_BinarySearch_int_int_R (b : Int × Bool) : D := .tup [.int .i64 b.1, .bool b.2]
def slices_BinarySearch_int_int_E (_b : Int × Bool) : List D := []
noncomputable def slices_BinarySearch_int_int_S : Dw.Spec := fSpec [] .ground slices_BinarySearch_int_int_enc slices_BinarySearch_int_int_dec (fun a => slices_BinarySearch_int_int a.1 a.2) slices_BinarySearch_int_int_R slices_BinarySearch_int_int_E
set_option maxHeartbeats 4000000 in
theorem slices_BinarySearch_int_int_ok : SpecOk Try.prog 31 slices_BinarySearch_int_int_S := by
  refine fn_ok (specs_ok (l := [(45, cmp_Less_int_S), (46, slices_isNaN_int_S)]) (by simp [cmp_Less_int_ok, slices_isNaN_int_ok])) Try.func31 (by decide) dc31_c dc31_r (np := 2) (by decide) slices_BinarySearch_int_int_de (fun _ => rfl) ?_
  rintro ⟨x1, target2⟩
  show Tr (specs [(45, cmp_Less_int_S), (46, slices_isNaN_int_S)]) dc31 (kRet [] .ground [(.t 4), (.t 5)] 2 slices_BinarySearch_int_int_R slices_BinarySearch_int_int_E) ⟨[(0, .sl (x1.map eI64)), (1, .int .i64 target2)], [], 2⟩ (slices_BinarySearch_int_int x1 target2)
  unfold dc31 slices_BinarySearch_int_int
  refine tr_seq ?_
  refine tr_reg ?_
  refine trO_asg rfl rfl ?_
  refine trO_asg rfl rfl ?_
  refine trO_nil ?_
  refine trX_seq ?_
  refine tr_seq ?_
  refine tr_reg ?_
  refine trO_mv rfl rfl ?_
  refine trO_len_sl rfl rfl ?_
  refine trO_asg rfl rfl ?_
  refine trO_nil ?_
  refine trX_seq ?_
  refine tr_seq ?_
  refine tr_reg ?_
  refine trO_mv rfl rfl ?_
  refine trO_asg rfl rfl ?_
  refine trO_asg rfl rfl ?_
  refine trO_nil ?_
  refine trX_seq ?_
  refine tr_seq_blk_cut (E := fun (s : Int) (g : Unit) => [(0, .sl (x1.map eI64)), (1, .int .i64 target2), (6, .int .i64 (x1.length : Int)), (7, .int .i64 s)]) (O := fun s g => []) (j := fun s => slices_BinarySearch_int_int_j1 x1 target2 s) ?_ ?_
  ·
    refine tr_loop (E := fun (s : Int × Int) (g : Unit) => [(0, .sl (x1.map eI64)), (1, .int .i64 target2), (6, .int .i64 (x1.length : Int)), (7, .int .i64 s.1), (8, .int .i64 s.2)]) (O := fun s g => []) (body := fun s => slices_BinarySearch_int_int_b2 x1 target2 s.1 s.2) (s := (0, (x1.length : Int))) () (has_exact ⟨rfl, rfl, rfl, rfl, rfl, trivial⟩ trivial) ?_
    rintro ⟨i4, j5⟩ ⟨⟩ nn
    show Tr _ _ _ ⟨[(0, .sl (x1.map eI64)), (1, .int .i64 target2), (6, .int .i64 (x1.length : Int)), (7, .int .i64 i4), (8, .int .i64 j5)], [], _⟩ (slices_BinarySearch_int_int_b2 x1 target2 i4 j5)
    unfold slices_BinarySearch_int_int_b2
    refine tr_seq ?_
    refine tr_seq ?_
    refine tr_reg ?_
    refine trO_mv rfl rfl ?_
    refine trO_mv rfl rfl ?_
    refine trO_bin (v := .bool (decide (i4 < j5))) rfl rfl rfl rfl rfl ?_
    refine trO_nil ?_
    refine trX_seq ?_
    refine tr_cond (c := (decide (i4 < j5))) rfl ?_ ?_
    ·
      refine tr_skip ?_
      refine trX_seq ?_
      refine tr_block ?_
      refine tr_seq ?_
      refine tr_reg ?_
      refine trO_mv rfl rfl ?_
      refine trO_mv rfl rfl ?_
      refine trO_bin (v := .int .i64 (IntKind.i64.wrap (i4 + j5))) rfl rfl rfl rfl rfl ?_
      refine trO_cvt rfl rfl ?_
      refine trO_bin (v := .int .u64 ((IntKind.u64.wrap (IntKind.i64.wrap (i4 + j5))).fdiv (2 ^ (Nat.min (1 : Int).toNat IntKind.u64.bits)))) rfl rfl rfl rfl (by decide) ?_
      refine trO_cvt rfl rfl ?_
      refine trO_asg rfl rfl ?_
      refine trO_nil ?_
      refine trX_seq ?_
      refine tr_seq ?_
      refine tr_reg ?_
      refine trO_mv rfl rfl ?_
      refine trO_mv rfl rfl ?_
      refine trO_bind fun x_x6 hx_x6 => ?_
      refine trO_ixA_sl (en := eI64) rfl rfl rfl hx_x6 rfl ?_
      refine trO_ld_f (v := .int .i64 x_x6) rfl rfl rfl rfl ?_
      refine trO_mv rfl rfl ?_
      refine trO_bind fun r7 hr7 => ?_
      refine trO_call_ground (x_x6, target2) rfl rfl rfl cmp_Less_int_de rfl rfl (by simp) rfl hr7 rfl ?_
      refine trO_nil ?_
      refine trX_seq ?_
      refine tr_cond (c := r7) rfl ?_ ?_
      ·
        refine tr_reg ?_
        refine trO_mv rfl rfl ?_
        refine trO_bin (v := .int .i64 (IntKind.i64.wrap ((IntKind.i64.wrap ((IntKind.u64.wrap (IntKind.i64.wrap (i4 + j5))).fdiv (2 ^ (Nat.min (1 : Int).toNat IntKind.u64.bits)))) + 1))) rfl rfl rfl rfl rfl ?_
        refine trO_asg rfl rfl ?_
        refine trO_nil ?_
        refine trX_blk_normal ?_
        exact trX_loop (s := (IntKind.i64.wrap ((IntKind.i64.wrap ((IntKind.u64.wrap (IntKind.i64.wrap (i4 + j5))).fdiv (2 ^ (Nat.min (1 : Int).toNat IntKind.u64.bits)))) + 1), j5)) () (has_exact ⟨rfl, rfl, rfl, rfl, rfl, trivial⟩ trivial)
      ·
        refine tr_reg ?_
        refine trO_mv rfl rfl ?_
        refine trO_asg rfl rfl ?_
        refine trO_nil ?_
        refine trX_blk_normal ?_
        exact trX_loop (s := (i4, IntKind.i64.wrap ((IntKind.u64.wrap (IntKind.i64.wrap (i4 + j5))).fdiv (2 ^ (Nat.min (1 : Int).toNat IntKind.u64.bits))))) () (has_exact ⟨rfl, rfl, rfl, rfl, rfl, trivial⟩ trivial)
    ·
      refine tr_exit ?_
      refine trX_seq_exit ?_
      refine trX_loop_exit ?_
      exact trX_bcut_here (s := i4) () (has_exact ⟨rfl, rfl, rfl, rfl, trivial⟩ trivial)
  ·
    rintro i3 ⟨⟩ nn
    show Tr _ _ _ ⟨[(0, .sl (x1.map eI64)), (1, .int .i64 target2), (6, .int .i64 (x1.length : Int)), (7, .int .i64 i3)], [], _⟩ (slices_BinarySearch_int_int_j1 x1 target2 i3)
    unfold slices_BinarySearch_int_int_j1
    refine tr_seq ?_
    refine tr_reg ?_
    refine trO_mv rfl rfl ?_
    refine trO_mv rfl rfl ?_
    refine trO_mv rfl rfl ?_
    refine trO_bin (v := .bool (decide (i3 < (x1.length : Int)))) rfl rfl rfl rfl rfl ?_
    refine trO_mv rfl rfl ?_
    refine trO_split 35 (b := (decide (i3 < (x1.length : Int)))) rfl ?_ ?_
    ·
      refine trO_mv rfl rfl ?_
      refine trO_mv rfl rfl ?_
      refine trO_bind fun x_x8 hx_x8 => ?_
      refine trO_ixA_sl (en := eI64) rfl rfl rfl hx_x8 rfl ?_
      refine trO_ld_f (v := .int .i64 x_x8) rfl rfl rfl rfl ?_
      refine trO_mv rfl rfl ?_
      refine trO_bin (v := .bool (x_x8 == target2)) rfl rfl rfl rfl rfl ?_
      refine trO_mv rfl rfl ?_
      refine trO_split 42 (b := (x_x8 == target2)) rfl ?_ ?_
      ·
        refine trO_off rfl ?_
        refine trO_off rfl ?_
        refine trO_off rfl ?_
        refine trO_off rfl ?_
        refine trO_off rfl ?_
        refine trO_off rfl ?_
        refine trO_off rfl ?_
        refine trO_off rfl ?_
        refine trO_off rfl ?_
        refine trO_pick_true rfl rfl rfl rfl ?_
        refine trO_pick_true rfl rfl rfl rfl ?_
        refine trO_asg rfl rfl ?_
        refine trO_asg rfl rfl ?_
        refine trO_nil ?_
        refine trX_seq ?_
        refine tr_ret ?_
        exact ret_tup_ground (b := (i3, true)) rfl (by first | (simp; done) | (simp; omega)) rfl rfl (by first | (simp; done) | (simp; omega)) rfl (by decide)
      ·
        refine trO_mv rfl rfl ?_
        refine trO_mv rfl rfl ?_
        refine trO_bind fun x_x9 hx_x9 => ?_
        refine trO_ixA_sl (en := eI64) rfl rfl rfl hx_x9 rfl ?_
        refine trO_ld_f (v := .int .i64 x_x9) rfl rfl rfl rfl ?_
        refine trO_bind fun r10 hr10 => ?_
        refine trO_call_ground x_x9 rfl rfl rfl slices_isNaN_int_de rfl rfl (by simp) rfl hr10 rfl ?_
        refine trO_mv rfl rfl ?_
        refine trO_split 48 (b := r10) rfl ?_ ?_
        ·
          refine trO_mv rfl rfl ?_
          refine trO_bind fun r11 hr11 => ?_
          refine trO_call_ground target2 rfl rfl rfl slices_isNaN_int_de rfl rfl (by simp) rfl hr11 rfl ?_
          refine trO_pick_true rfl rfl rfl rfl ?_
          refine trO_pick_false rfl rfl rfl rfl ?_
          refine trO_pick_true rfl rfl rfl rfl ?_
          refine trO_asg rfl rfl ?_
          refine trO_asg rfl rfl ?_
          refine trO_nil ?_
          refine trX_seq ?_
          refine tr_ret ?_
          exact ret_tup_ground (b := (i3, r11)) rfl (by first | (simp; done) | (simp; omega)) rfl rfl (by first | (simp; done) | (simp; omega)) rfl (by decide)
        ·
          refine trO_off rfl ?_
          refine trO_off rfl ?_
          refine trO_pick_false rfl rfl rfl rfl ?_
          refine trO_pick_false rfl rfl rfl rfl ?_
          refine trO_pick_true rfl rfl rfl rfl ?_
          refine trO_asg rfl rfl ?_
          refine trO_asg rfl rfl ?_
          refine trO_nil ?_
          refine trX_seq ?_
          refine tr_ret ?_
          exact ret_tup_ground (b := (i3, false)) rfl (by first | (simp; done) | (simp; omega)) rfl rfl (by first | (simp; done) | (simp; omega)) rfl (by decide)
    ·
      refine trO_off rfl ?_
      refine trO_off rfl ?_
      refine trO_off rfl ?_
      refine trO_off rfl ?_
      refine trO_off rfl ?_
      refine trO_off rfl ?_
      refine trO_off rfl ?_
      refine trO_off rfl ?_
      refine trO_off rfl ?_
      refine trO_off rfl ?_
      refine trO_off rfl ?_
      refine trO_off rfl ?_
      refine trO_off rfl ?_
      refine trO_off rfl ?_
      refine trO_off rfl ?_
      refine trO_off rfl ?_
      refine trO_off rfl ?_
      refine trO_pick_false rfl rfl rfl rfl ?_
      refine trO_asg rfl rfl ?_
      refine trO_asg rfl rfl ?_
      refine trO_nil ?_
      refine trX_seq ?_
      refine tr_ret ?_
      exact ret_tup_ground (b := (i3, false)) rfl (by first | (simp; done) | (simp; omega)) rfl rfl (by first | (simp; done) | (simp; omega)) rfl (by decide)

def dc17 : DCode := (.seq (.reg [⟨(some 4), (.asg (.c (.bool false)) none), none, []⟩] false) (.seq (.seq (.reg [⟨(some 13), (.mv (.t 0)), none, []⟩, ⟨(some 14), (.len false (.t 13)), none, []⟩, ⟨(some 15), (.mv (.t 1)), none, []⟩, ⟨(some 16), (.bin .neq (.t 14) (.t 15)), none, []⟩] false) (.cond (.t 16) (.seq (.reg [⟨(some 4), (.asg (.c (.bool false)) none), none, []⟩] false) .ret) .skip)) (.seq (.seq (.reg [⟨(some 17), (.mv (.t 0)), none, []⟩, ⟨(some 18), (.len false (.t 17)), none, []⟩, ⟨(some 19), (.mv (.c (.int .i64 0))), none, []⟩] false) (.block 0 (.loop (.seq (.reg [⟨(some 20), (.bin .lss (.t 19) (.t 18)), none, []⟩] false) (.seq (.cond (.t 20) .skip (.exit 0)) (.seq (.block 1 (.seq (.reg [⟨(some 21), (.mv (.t 19)), none, []⟩, ⟨(some 22), (.ixA 1 (.t 17) (.t 19)), none, []⟩, ⟨(some 23), (.ld 1 false (.t 22)), none, []⟩, ⟨(some 5), (.asg (.t 21) none), none, []⟩, ⟨(some 6), (.asg (.t 23) (some ⟨1, 3⟩)), none, []⟩] false) (.seq (.reg [⟨(some 24), (.mv (.t 6)), none, []⟩, ⟨(some 25), (.call (.c (.clo 29 [])) [(.t 24)]), none, []⟩, ⟨(some 26), (.un .not (.t 25)), none, []⟩, ⟨(some 27), (.mv (.t 26)), none, []⟩, ⟨(some 28), (.mv (.t 6)), (some ⟨27, false⟩), []⟩, ⟨(some 29), (.len false (.t 28)), (some ⟨27, false⟩), []⟩, ⟨(some 30), (.bin .gtr (.t 29) (.c (.int .i64 0))), (some ⟨27, false⟩), []⟩, ⟨(some 31), (.mv (.t 30)), (some ⟨27, false⟩), []⟩, ⟨(some 32), (.mv (.t 6)), (some ⟨31, true⟩), []⟩, ⟨(some 33), (.mv (.t 6)), (some ⟨31, true⟩), []⟩, ⟨(some 34), (.len false (.t 33)), (some ⟨31, true⟩), []⟩, ⟨(some 35), (.bin .sub (.t 34) (.c (.int .i64 1))), (some ⟨31, true⟩), []⟩, ⟨(some 36), (.ixA 1 (.t 32) (.t 35)), (some ⟨31, true⟩), []⟩, ⟨(some 37), (.ld 1 false (.t 36)), (some ⟨31, true⟩), []⟩, ⟨(some 38), (.mv (.t 1)), (some ⟨31, true⟩), []⟩, ⟨(some 39), (.bin .geq (.t 37) (.t 38)), (some ⟨31, true⟩), []⟩, ⟨(some 40), (.pick (.t 31) (.t 39) (.c (.bool false))), (some ⟨27, false⟩), []⟩, ⟨(some 41), (.pick (.t 27) (.c (.bool true)) (.t 40)), none, []⟩, ⟨(some 42), (.mv (.t 41)), none, []⟩, ⟨(some 43), (.mv (.t 6)), (some ⟨42, false⟩), []⟩, ⟨(some 44), (.mv (.t 5)), (some ⟨42, false⟩), []⟩, ⟨(some 45), (.call (.c (.clo 30 [])) [(.t 43), (.t 44)]), (some ⟨42, false⟩), []⟩, ⟨(some 46), (.pick (.t 42) (.c (.bool true)) (.t 45)), none, []⟩] false) (.cond (.t 46) (.seq (.reg [⟨(some 4), (.asg (.c (.bool false)) none), none, []⟩] false) .ret) .skip)))) (.reg [⟨(some 47), (.bin .add (.t 19) (.c (.int .i64 1))), none, []⟩, ⟨(some 19), (.mv (.t 47)), none, []⟩] false))))))) (.seq (.seq (.reg [⟨(some 48), (.mv (.t 0)), none, []⟩, ⟨(some 49), (.len false (.t 48)), none, []⟩, ⟨(some 50), (.mv (.c (.int .i64 0))), none, []⟩] false) (.block 2 (.loop (.seq (.reg [⟨(some 51), (.bin .lss (.t 50) (.t 49)), none, []⟩] false) (.seq (.cond (.t 51) .skip (.exit 2)) (.seq (.block 3 (.seq (.reg [⟨(some 52), (.mv (.t 50)), none, []⟩, ⟨(some 53), (.ixA 1 (.t 48) (.t 50)), none, []⟩, ⟨(some 54), (.ld 1 false (.t 53)), none, []⟩, ⟨(some 7), (.asg (.t 52) none), none, []⟩, ⟨(some 8), (.asg (.t 54) (some ⟨1, 3⟩)), none, []⟩] false) (.seq (.reg [⟨(some 55), (.mv (.t 8)), none, []⟩, ⟨(some 56), (.len false (.t 55)), none, []⟩, ⟨(some 57), (.mv (.c (.int .i64 0))), none, []⟩] false) (.block 4 (.loop (.seq (.reg [⟨(some 58), (.bin .lss (.t 57) (.t 56)), none, []⟩] false) (.seq (.cond (.t 58) .skip (.exit 4)) (.seq (.block 5 (.seq (.reg [⟨(some 59), (.ixA 1 (.t 55) (.t 57)), none, []⟩, ⟨(some 60), (.ld 1 false (.t 59)), none, []⟩, ⟨(some 10), (.asg (.t 60) none), none, []⟩] false) (.seq (.reg [⟨(some 62), (.mv (.t 0)), none, []⟩, ⟨(some 63), (.mv (.t 10)), none, []⟩, ⟨(some 64), (.ixA 1 (.t 62) (.t 63)), none, []⟩, ⟨(some 65), (.ld 1 false (.t 64)), none, []⟩, ⟨(some 66), (.mv (.t 7)), none, []⟩, ⟨(some 67), (.call (.c (.clo 31 [])) [(.t 65), (.t 66)]), none, []⟩, ⟨(some 61), (.mv (.t 67)), none, []⟩, ⟨(some 68), (.ext (.t 61) 0), none, []⟩, ⟨(some 69), (.ext (.t 61) 1), none, []⟩, ⟨(some 11), (.asg (.t 68) none), none, []⟩, ⟨(some 12), (.asg (.t 69) none), none, []⟩] false) (.seq (.reg [⟨(some 70), (.mv (.t 12)), none, []⟩, ⟨(some 71), (.un .not (.t 70)), none, []⟩] false) (.cond (.t 71) (.seq (.reg [⟨(some 4), (.asg (.c (.bool false)) none), none, []⟩] false) .ret) .skip))))) (.reg [⟨(some 72), (.bin .add (.t 57) (.c (.int .i64 1))), none, []⟩, ⟨(some 57), (.mv (.t 72)), none, []⟩] false))))))))) (.reg [⟨(some 73), (.bin .add (.t 50) (.c (.int .i64 1))), none, []⟩, ⟨(some 50), (.mv (.t 73)), none, []⟩] false))))))) (.seq (.reg [⟨(some 4), (.asg (.c (.bool true)) none), none, []⟩] false) .ret)))))
theorem dc17_c : (Try.f17.body.bind (cCode Try.prog Try.f17.ntmps)) = some dc17 := by kernel_rfl
theorem dc17_r : Try.f17.results.toList.mapM (cRes Try.prog) = some [(.t 4)] := by kernel_rfl
def interfere_Check_enc (a : (List (List Int)) × Int) : List D := [.sl (a.1.map (eL eI64)), .int .i64 a.2]
def interfere_Check_dec (ds : List D) : (List (List Int)) × Int := ((uL (uL uI)) (ds.getD 0 .top), uI (ds.getD 1 .top))
theorem interfere_Check_de (a : (List (List Int)) × Int) : interfere_Check_dec (interfere_Check_enc a) = a := by simp [interfere_Check_dec, interfere_Check_enc, uI, uBo, uS, uL_e (u := (uL uI)) (en := (eL eI64)) (uL_e (u := uI) (en := eI64) (fun _ => rfl))]
def interfere_Check_R (b : Bool) : D := .bool b
def interfere_Check_E (_b : Bool) : List D := []
noncomputable def interfere_Check_S : Dw.Spec := fSpec [] .ground interfere_Check_enc interfere_Check_dec (fun a => interfere_Check a.1 a.2) interfere_Check_R interfere_Check_E
set_option maxHeartbeats 4000000 in
theorem interfere_Check_ok : SpecOk Try.prog 17 interfere_Check_S := by
  refine fn_ok (specs_ok (l := [(29, bitset_Check_S), (30, slices_Contains_int_int_S), (31, slices_BinarySearch_int_int_S)]) (by simp [bitset_Check_ok, slices_Contains_int_int_ok, slices_BinarySearch_int_int_ok])) Try.func17 (by decide) dc17_c dc17_r (np := 2) (by decide) interfere_Check_de (fun _ => rfl) ?_
  rintro ⟨g1, n2⟩
  show Tr (specs [(29, bitset_Check_S), (30, slices_Contains_int_int_S), (31, slices_BinarySearch_int_int_S)]) dc17 (kRet [] .ground [(.t 4)] 2 interfere_Check_R interfere_Check_E) ⟨[(0, .sl (g1.map (eL eI64))), (1, .int .i64 n2)], [], 2⟩ (interfere_Check g1 n2)
  unfold dc17 interfere_Check
  refine tr_seq ?_
  refine tr_reg ?_
  refine trO_asg rfl rfl ?_
  refine trO_nil ?_
  refine trX_seq ?_
  refine tr_seq ?_
  refine tr_seq ?_
  refine tr_reg ?_
  refine trO_mv rfl rfl ?_
  refine trO_len_sl rfl rfl ?_
  refine trO_mv rfl rfl ?_
  refine trO_bin (v := .bool ((g1.length : Int) != n2)) rfl rfl rfl rfl rfl ?_
  refine trO_nil ?_
  refine trX_seq ?_
  refine tr_cond (c := ((g1.length : Int) != n2)) rfl ?_ ?_
  ·
    refine tr_seq ?_
    refine tr_reg ?_
    refine trO_asg rfl rfl ?_
    refine trO_nil ?_
    refine trX_seq ?_
    refine tr_ret ?_
    refine trX_seq_ret ?_
    exact ret_ground (b := false) rfl (by first | (simp; done) | (simp; omega)) rfl rfl (by first | (simp; done) | (simp; omega)) rfl
  ·
    refine tr_skip ?_
    refine trX_seq ?_
    refine tr_seq ?_
    refine tr_seq ?_
    refine tr_reg ?_
    refine trO_mv rfl rfl ?_
    refine trO_len_sl rfl rfl ?_
    refine trO_mv rfl rfl ?_
    refine trO_nil ?_
    refine trX_seq ?_
    refine tr_block ?_
    refine tr_loop (E := fun (s : Int) (g : Unit) => [(0, .sl (g1.map (eL eI64))), (1, .int .i64 n2), (17, .sl (g1.map (eL eI64))), (18, .int .i64 (g1.length : Int)), (19, .int .i64 s)]) (O := fun s g => []) (body := fun s => interfere_Check_b1 g1 n2 s) (s := 0) () (has_exact ⟨rfl, rfl, rfl, rfl, rfl, trivial⟩ trivial) ?_
    rintro x3 ⟨⟩ nn
    show Tr _ _ _ ⟨[(0, .sl (g1.map (eL eI64))), (1, .int .i64 n2), (17, .sl (g1.map (eL eI64))), (18, .int .i64 (g1.length : Int)), (19, .int .i64 x3)], [], _⟩ (interfere_Check_b1 g1 n2 x3)
    unfold interfere_Check_b1
    refine tr_seq ?_
    refine tr_reg ?_
    refine trO_bin (v := .bool (decide (x3 < (g1.length : Int)))) rfl rfl rfl rfl rfl ?_
    refine trO_nil ?_
    refine trX_seq ?_
    refine tr_seq ?_
    refine tr_cond (c := (decide (x3 < (g1.length : Int)))) rfl ?_ ?_
    ·
      refine tr_skip ?_
      refine trX_seq ?_
      refine tr_seq ?_
      refine tr_block ?_
      refine tr_seq ?_
      refine tr_reg ?_
      refine trO_mv rfl rfl ?_
      refine trO_bind fun x_x4 hx_x4 => ?_
      refine trO_ixA_sl (en := (eL eI64)) rfl rfl rfl hx_x4 rfl ?_
      refine trO_ld_f (v := .sl (x_x4.map eI64)) rfl rfl rfl rfl ?_
      refine trO_asg rfl rfl ?_
      refine trO_asg_sl rfl rfl ?_
      refine trO_nil ?_
      refine trX_seq ?_
      refine tr_seq ?_
      refine tr_reg ?_
      refine trO_mv rfl rfl ?_
      refine trO_bind fun r5 hr5 => ?_
      refine trO_call_ground x_x4 rfl rfl rfl bitset_Check_de rfl rfl (by simp) rfl hr5 rfl ?_
      refine trO_un (w := .bool (!r5)) rfl rfl rfl rfl trivial ?_
      refine trO_mv rfl rfl ?_
      refine trO_split 27 (b := (!r5)) rfl ?_ ?_
      ·
        refine trO_off rfl ?_
        refine trO_off rfl ?_
        refine trO_off rfl ?_
        refine trO_off rfl ?_
        refine trO_off rfl ?_
        refine trO_off rfl ?_
        refine trO_off rfl ?_
        refine trO_off rfl ?_
        refine trO_off rfl ?_
        refine trO_off rfl ?_
        refine trO_off rfl ?_
        refine trO_off rfl ?_
        refine trO_off rfl ?_
        refine trO_pick_true rfl rfl rfl rfl ?_
        refine trO_mv rfl rfl ?_
        refine trO_off rfl ?_
        refine trO_off rfl ?_
        refine trO_off rfl ?_
        refine trO_pick_true rfl rfl rfl rfl ?_
        refine trO_nil ?_
        refine trX_seq ?_
        refine tr_cond_true rfl ?_
        refine tr_seq ?_
        refine tr_reg ?_
        refine trO_asg rfl rfl ?_
        refine trO_nil ?_
        refine trX_seq ?_
        refine tr_ret ?_
        refine trX_blk_ret ?_
        refine trX_seq_ret ?_
        refine trX_loop_ret ?_
        refine trX_blk_ret ?_
        refine trX_seq_ret ?_
        exact ret_ground (b := false) rfl (by first | (simp; done) | (simp; omega)) rfl rfl (by first | (simp; done) | (simp; omega)) rfl
      ·
        refine trO_mv rfl rfl ?_
        refine trO_len_sl rfl rfl ?_
        refine trO_bin (v := .bool (decide ((x_x4.length : Int) > 0))) rfl rfl rfl rfl rfl ?_
        refine trO_mv rfl rfl ?_
        refine trO_split 31 (b := (decide ((x_x4.length : Int) > 0))) rfl ?_ ?_
        ·
          refine trO_mv rfl rfl ?_
          refine trO_mv rfl rfl ?_
          refine trO_len_sl rfl rfl ?_
          refine trO_bin (v := .int .i64 (IntKind.i64.wrap ((x_x4.length : Int) - 1))) rfl rfl rfl rfl rfl ?_
          refine trO_bind fun x_x6 hx_x6 => ?_
          refine trO_ixA_sl (en := eI64) rfl rfl rfl hx_x6 rfl ?_
          refine trO_ld_f (v := .int .i64 x_x6) rfl rfl rfl rfl ?_
          refine trO_mv rfl rfl ?_
          refine trO_bin (v := .bool (decide (x_x6 ≥ n2))) rfl rfl rfl rfl rfl ?_
          refine trO_pick_true rfl rfl rfl rfl ?_
          refine trO_pick_false rfl rfl rfl rfl ?_
          refine trO_mv rfl rfl ?_
          refine trO_split 42 (b := (decide (x_x6 ≥ n2))) rfl ?_ ?_
          ·
            refine trO_off rfl ?_
            refine trO_off rfl ?_
            refine trO_off rfl ?_
            refine trO_pick_true rfl rfl rfl rfl ?_
            refine trO_nil ?_
            refine trX_seq ?_
            refine tr_cond_true rfl ?_
            refine tr_seq ?_
            refine tr_reg ?_
            refine trO_asg rfl rfl ?_
            refine trO_nil ?_
            refine trX_seq ?_
            refine tr_ret ?_
            refine trX_blk_ret ?_
            refine trX_seq_ret ?_
            refine trX_loop_ret ?_
            refine trX_blk_ret ?_
            refine trX_seq_ret ?_
            exact ret_ground (b := false) rfl (by first | (simp; done) | (simp; omega)) rfl rfl (by first | (simp; done) | (simp; omega)) rfl
          ·
            refine trO_mv rfl rfl ?_
            refine trO_mv rfl rfl ?_
            refine trO_bind fun r7 hr7 => ?_
            refine trO_call_ground (x_x4, x3) rfl rfl rfl slices_Contains_int_int_de rfl rfl (by simp) rfl hr7 rfl ?_
            refine trO_pick_false rfl rfl rfl rfl ?_
            refine trO_nil ?_
            refine trX_seq ?_
            refine tr_cond (c := r7) rfl ?_ ?_
            ·
              refine tr_seq ?_
              refine tr_reg ?_
              refine trO_asg rfl rfl ?_
              refine trO_nil ?_
              refine trX_seq ?_
              refine tr_ret ?_
              refine trX_blk_ret ?_
              refine trX_seq_ret ?_
              refine trX_loop_ret ?_
              refine trX_blk_ret ?_
              refine trX_seq_ret ?_
              exact ret_ground (b := false) rfl (by first | (simp; done) | (simp; omega)) rfl rfl (by first | (simp; done) | (simp; omega)) rfl
            ·
              refine tr_skip ?_
              refine trX_blk_normal ?_
              refine trX_seq ?_
              refine tr_reg ?_
              refine trO_bin (v := .int .i64 (IntKind.i64.wrap (x3 + 1))) rfl rfl rfl rfl rfl ?_
              refine trO_mv rfl rfl ?_
              refine trO_nil ?_
              exact trX_loop (s := IntKind.i64.wrap (x3 + 1)) () (has_exact ⟨rfl, rfl, rfl, rfl, rfl, trivial⟩ trivial)
        ·
          refine trO_off rfl ?_
          refine trO_off rfl ?_
          refine trO_off rfl ?_
          refine trO_off rfl ?_
          refine trO_off rfl ?_
          refine trO_off rfl ?_
          refine trO_off rfl ?_
          refine trO_off rfl ?_
          refine trO_pick_false rfl rfl rfl rfl ?_
          refine trO_pick_false rfl rfl rfl rfl ?_
          refine trO_mv rfl rfl ?_
          refine trO_mv rfl rfl ?_
          refine trO_mv rfl rfl ?_
          refine trO_bind fun r8 hr8 => ?_
          refine trO_call_ground (x_x4, x3) rfl rfl rfl slices_Contains_int_int_de rfl rfl (by simp) rfl hr8 rfl ?_
          refine trO_pick_false rfl rfl rfl rfl ?_
          refine trO_nil ?_
          refine trX_seq ?_
          refine tr_cond (c := r8) rfl ?_ ?_
          ·
            refine tr_seq ?_
            refine tr_reg ?_
            refine trO_asg rfl rfl ?_
            refine trO_nil ?_
            refine trX_seq ?_
            refine tr_ret ?_
            refine trX_blk_ret ?_
            refine trX_seq_ret ?_
            refine trX_loop_ret ?_
            refine trX_blk_ret ?_
            refine trX_seq_ret ?_
            exact ret_ground (b := false) rfl (by first | (simp; done) | (simp; omega)) rfl rfl (by first | (simp; done) | (simp; omega)) rfl
          ·
            refine tr_skip ?_
            refine trX_blk_normal ?_
            refine trX_seq ?_
            refine tr_reg ?_
            refine trO_bin (v := .int .i64 (IntKind.i64.wrap (x3 + 1))) rfl rfl rfl rfl rfl ?_
            refine trO_mv rfl rfl ?_
            refine trO_nil ?_
            exact trX_loop (s := IntKind.i64.wrap (x3 + 1)) () (has_exact ⟨rfl, rfl, rfl, rfl, rfl, trivial⟩ trivial)
    ·
      refine tr_exit ?_
      refine trX_seq_exit ?_
      refine trX_loop_exit ?_
      refine trX_blk_here ?_
      refine trX_seq ?_
      refine tr_seq ?_
      refine tr_seq ?_
      refine tr_reg ?_
      refine trO_mv rfl rfl ?_
      refine trO_len_sl rfl rfl ?_
      refine trO_mv rfl rfl ?_
      refine trO_nil ?_
      refine trX_seq ?_
      refine tr_block ?_
      refine tr_loop (E := fun (s : Int) (g : Unit) => [(0, .sl (g1.map (eL eI64))), (48, .sl (g1.map (eL eI64))), (49, .int .i64 (g1.length : Int)), (50, .int .i64 s)]) (O := fun s g => []) (body := fun s => interfere_Check_b2 g1 s) (s := 0) () (has_exact ⟨rfl, rfl, rfl, rfl, trivial⟩ trivial) ?_
      rintro x9 ⟨⟩ nn
      show Tr _ _ _ ⟨[(0, .sl (g1.map (eL eI64))), (48, .sl (g1.map (eL eI64))), (49, .int .i64 (g1.length : Int)), (50, .int .i64 x9)], [], _⟩ (interfere_Check_b2 g1 x9)
      unfold interfere_Check_b2
      refine tr_seq ?_
      refine tr_reg ?_
      refine trO_bin (v := .bool (decide (x9 < (g1.length : Int)))) rfl rfl rfl rfl rfl ?_
      refine trO_nil ?_
      refine trX_seq ?_
      refine tr_seq ?_
      refine tr_cond (c := (decide (x9 < (g1.length : Int)))) rfl ?_ ?_
      ·
        refine tr_skip ?_
        refine trX_seq ?_
        refine tr_seq ?_
        refine tr_block ?_
        refine tr_seq ?_
        refine tr_reg ?_
        refine trO_mv rfl rfl ?_
        refine trO_bind fun x_x10 hx_x10 => ?_
        refine trO_ixA_sl (en := (eL eI64)) rfl rfl rfl hx_x10 rfl ?_
        refine trO_ld_f (v := .sl (x_x10.map eI64)) rfl rfl rfl rfl ?_
        refine trO_asg rfl rfl ?_
        refine trO_asg_sl rfl rfl ?_
        refine trO_nil ?_
        refine trX_seq ?_
        refine tr_seq ?_
        refine tr_reg ?_
        refine trO_mv rfl rfl ?_
        refine trO_len_sl rfl rfl ?_
        refine trO_mv rfl rfl ?_
        refine trO_nil ?_
        refine trX_seq ?_
        refine tr_block ?_
        refine tr_loop (E := fun (s : Int) (g : Unit) => [(0, .sl (g1.map (eL eI64))), (7, .int .i64 x9), (48, .sl (g1.map (eL eI64))), (49, .int .i64 (g1.length : Int)), (50, .int .i64 x9), (55, .sl (x_x10.map eI64)), (56, .int .i64 (x_x10.length : Int)), (57, .int .i64 s)]) (O := fun s g => []) (body := fun s => interfere_Check_b3 x_x10 g1 x9 s) (s := 0) () (has_exact ⟨rfl, rfl, rfl, rfl, rfl, rfl, rfl, rfl, trivial⟩ trivial) ?_
        rintro x11 ⟨⟩ nn
        show Tr _ _ _ ⟨[(0, .sl (g1.map (eL eI64))), (7, .int .i64 x9), (48, .sl (g1.map (eL eI64))), (49, .int .i64 (g1.length : Int)), (50, .int .i64 x9), (55, .sl (x_x10.map eI64)), (56, .int .i64 (x_x10.length : Int)), (57, .int .i64 x11)], [], _⟩ (interfere_Check_b3 x_x10 g1 x9 x11)
        unfold interfere_Check_b3
        refine tr_seq ?_
        refine tr_reg ?_
        refine trO_bin (v := .bool (decide (x11 < (x_x10.length : Int)))) rfl rfl rfl rfl rfl ?_
        refine trO_nil ?_
        refine trX_seq ?_
        refine tr_seq ?_
        refine tr_cond (c := (decide (x11 < (x_x10.length : Int)))) rfl ?_ ?_
        ·
          refine tr_skip ?_
          refine trX_seq ?_
          refine tr_seq ?_
          refine tr_block ?_
          refine tr_seq ?_
          refine tr_reg ?_
          refine trO_bind fun x_x12 hx_x12 => ?_
          refine trO_ixA_sl (en := eI64) rfl rfl rfl hx_x12 rfl ?_
          refine trO_ld_f (v := .int .i64 x_x12) rfl rfl rfl rfl ?_
          refine trO_asg rfl rfl ?_
          refine trO_nil ?_
          refine trX_seq ?_
          refine tr_seq ?_
          refine tr_reg ?_
          refine trO_mv rfl rfl ?_
          refine trO_mv rfl rfl ?_
          refine trO_bind fun x_x13 hx_x13 => ?_
          refine trO_ixA_sl (en := (eL eI64)) rfl rfl rfl hx_x13 rfl ?_
          refine trO_ld_f (v := .sl (x_x13.map eI64)) rfl rfl rfl rfl ?_
          refine trO_mv rfl rfl ?_
          refine trO_bind fun r14 hr14 => ?_
          refine trO_call_ground (x_x13, x9) rfl rfl rfl slices_BinarySearch_int_int_de rfl rfl (by simp) rfl hr14 rfl ?_
          refine trO_mv rfl rfl ?_
          refine trO_ext (v := .int .i64 r14.1) rfl rfl rfl ?_
          refine trO_ext (v := .bool r14.2) rfl rfl rfl ?_
          refine trO_asg rfl rfl ?_
          refine trO_asg rfl rfl ?_
          refine trO_nil ?_
          refine trX_seq ?_
          refine tr_seq ?_
          refine tr_reg ?_
          refine trO_mv rfl rfl ?_
          refine trO_un (w := .bool (!r14.2)) rfl rfl rfl rfl trivial ?_
          refine trO_nil ?_
          refine trX_seq ?_
          refine tr_cond (c := (!r14.2)) rfl ?_ ?_
          ·
            refine tr_seq ?_
            refine tr_reg ?_
            refine trO_asg rfl rfl ?_
            refine trO_nil ?_
            refine trX_seq ?_
            refine tr_ret ?_
            refine trX_blk_ret ?_
            refine trX_seq_ret ?_
            refine trX_loop_ret ?_
            refine trX_blk_ret ?_
            refine trX_blk_ret ?_
            refine trX_seq_ret ?_
            refine trX_loop_ret ?_
            refine trX_blk_ret ?_
            refine trX_seq_ret ?_
            exact ret_ground (b := false) rfl (by first | (simp; done) | (simp; omega)) rfl rfl (by first | (simp; done) | (simp; omega)) rfl
          ·
            refine tr_skip ?_
            refine trX_blk_normal ?_
            refine trX_seq ?_
            refine tr_reg ?_
            refine trO_bin (v := .int .i64 (IntKind.i64.wrap (x11 + 1))) rfl rfl rfl rfl rfl ?_
            refine trO_mv rfl rfl ?_
            refine trO_nil ?_
            exact trX_loop (s := IntKind.i64.wrap (x11 + 1)) () (has_exact ⟨rfl, rfl, rfl, rfl, rfl, rfl, rfl, rfl, trivial⟩ trivial)
        ·
          refine tr_exit ?_
          refine trX_seq_exit ?_
          refine trX_loop_exit ?_
          refine trX_blk_here ?_
          refine trX_blk_normal ?_
          refine trX_seq ?_
          refine tr_reg ?_
          refine trO_bin (v := .int .i64 (IntKind.i64.wrap (x9 + 1))) rfl rfl rfl rfl rfl ?_
          refine trO_mv rfl rfl ?_
          refine trO_nil ?_
          exact trX_loop (s := IntKind.i64.wrap (x9 + 1)) () (has_exact ⟨rfl, rfl, rfl, rfl, trivial⟩ trivial)
      ·
        refine tr_exit ?_
        refine trX_seq_exit ?_
        refine trX_loop_exit ?_
        refine trX_blk_here ?_
        refine trX_seq ?_
        refine tr_seq ?_
        refine tr_reg ?_
        refine trO_asg rfl rfl ?_
        refine trO_nil ?_
        refine trX_seq ?_
        refine tr_ret ?_
        exact ret_ground (b := true) rfl (by first | (simp; done) | (simp; omega)) rfl rfl (by first | (simp; done) | (simp; omega)) rfl

def dc32 : DCode := (.seq (.reg [⟨(some 2), (.asg (.c (.bool false)) none), none, []⟩] false) (.seq (.seq (.reg [⟨(some 3), (.asg (.c (.int .i64 0)) none), none, []⟩] false) (.block 0 (.loop (.seq (.seq (.reg [⟨(some 4), (.mv (.t 3)), none, []⟩, ⟨(some 5), (.mv (.t 0)), none, []⟩, ⟨(some 6), (.len false (.t 5)), none, []⟩, ⟨(some 7), (.bin .lss (.t 4) (.t 6)), none, []⟩] false) (.cond (.t 7) .skip (.exit 0))) (.seq (.block 1 (.seq (.reg [⟨(some 10), (.mv (.t 0)), none, []⟩, ⟨(some 11), (.mv (.t 3)), none, []⟩, ⟨(some 12), (.ixA 1 (.t 10) (.t 11)), none, [0, 1]⟩, ⟨(some 13), (.ld 1 false (.t 12)), none, [2]⟩, ⟨(some 14), (.call (.c (.clo 28 [])) [(.t 13)]), none, [3]⟩, ⟨(some 15), (.un .not (.t 14)), none, [4]⟩, ⟨(some 16), (.mv (.t 15)), none, [5, 4]⟩, ⟨(some 17), (.mv (.t 3)), (some ⟨16, false⟩), [6]⟩, ⟨(some 18), (.bin .gtr (.t 17) (.c (.int .i64 0))), (some ⟨16, false⟩), [7, 6]⟩, ⟨(some 19), (.mv (.t 18)), (some ⟨16, false⟩), [8, 6, 6]⟩, ⟨(some 20), (.mv (.t 0)), (some ⟨19, true⟩), [9]⟩, ⟨(some 21), (.mv (.t 3)), (some ⟨19, true⟩), [9]⟩, ⟨(some 22), (.ixA 1 (.t 20) (.t 21)), (some ⟨19, true⟩), [10, 11, 9]⟩, ⟨(some 23), (.ld 1 false (.t 22)), (some ⟨19, true⟩), [12, 9]⟩, ⟨(some 24), (.mv (.t 0)), (some ⟨19, true⟩), [9]⟩, ⟨(some 25), (.mv (.t 3)), (some ⟨19, true⟩), [9]⟩, ⟨(some 26), (.bin .sub (.t 25) (.c (.int .i64 1))), (some ⟨19, true⟩), [15, 9]⟩, ⟨(some 27), (.ixA 1 (.t 24) (.t 26)), (some ⟨19, true⟩), [14, 16, 9]⟩, ⟨(some 28), (.ld 1 false (.t 27)), (some ⟨19, true⟩), [17, 9]⟩, ⟨(some 29), (.bin .leq (.t 23) (.t 28)), (some ⟨19, true⟩), [13, 18, 9]⟩, ⟨(some 30), (.pick (.t 19) (.t 29) (.c (.bool false))), (some ⟨16, false⟩), [9, 19, 6]⟩, ⟨(some 31), (.pick (.t 16) (.c (.bool true)) (.t 30)), none, [6, 20]⟩] true) (.cond (.t 31) (.seq (.reg [⟨(some 2), (.asg (.c (.bool false)) none), none, []⟩] false) .ret) .skip))) (.reg [⟨(some 8), (.mv (.t 3)), none, []⟩, ⟨(some 9), (.bin .add (.t 8) (.c (.int .i64 1))), none, []⟩, ⟨(some 3), (.asg (.t 9) none), none, []⟩] false)))))) (.seq (.reg [⟨(some 2), (.asg (.c (.bool true)) none), none, []⟩] false) .ret)))
theorem dc32_c : (Try.f32.body.bind (cCode Try.prog Try.f32.ntmps)) = some dc32 := by kernel_rfl
theorem dc32_r : Try.f32.results.toList.mapM (cRes Try.prog) = some [(.t 2)] := by kernel_rfl
def ref04_Check_enc (a : (List Int)) : List D := [.sl (a.map eI64)]
def ref04_Check_dec (ds : List D) : (List Int) := (uL uI) (ds.getD 0 .top)
theorem ref04_Check_de (a : (List Int)) : ref04_Check_dec (ref04_Check_enc a) = a := by simp [ref04_Check_dec, ref04_Check_enc, uI, uBo, uS, uL_e (u := uI) (en := eI64) (fun _ => rfl)]
def ref04_Check_R (b : Bool) : D := .bool b
def ref04_Check_E (_b : Bool) : List D := []
noncomputable def ref04_Check_S : Dw.Spec := fSpec [] .ground ref04_Check_enc ref04_Check_dec (fun a => ref04_Check a) ref04_Check_R ref04_Check_E
set_option maxHeartbeats 4000000 in
theorem ref04_Check_ok : SpecOk Try.prog 32 ref04_Check_S := by
  refine fn_ok (specs_ok (l := [(28, ref04_good_S)]) (by simp [ref04_good_ok])) Try.func32 (by decide) dc32_c dc32_r (np := 1) (by decide) ref04_Check_de (fun _ => rfl) ?_
  intro s1
  show Tr (specs [(28, ref04_good_S)]) dc32 (kRet [] .ground [(.t 2)] 1 ref04_Check_R ref04_Check_E) ⟨[(0, .sl (s1.map eI64))], [], 1⟩ (ref04_Check s1)
  unfold dc32 ref04_Check
  refine tr_seq ?_
  refine tr_reg ?_
  refine trO_asg rfl rfl ?_
  refine trO_nil ?_
  refine trX_seq ?_
  refine tr_seq ?_
  refine tr_seq ?_
  refine tr_reg ?_
  refine trO_asg rfl rfl ?_
  refine trO_nil ?_
  refine trX_seq ?_
  refine tr_block ?_
  refine tr_loop (E := fun (s : Int) (g : Unit) => [(0, .sl (s1.map eI64)), (3, .int .i64 s)]) (O := fun s g => []) (body := fun s => ref04_Check_b1 s1 s) (s := 0) () (has_exact ⟨rfl, rfl, trivial⟩ trivial) ?_
  rintro i2 ⟨⟩ nn
  show Tr _ _ _ ⟨[(0, .sl (s1.map eI64)), (3, .int .i64 i2)], [], _⟩ (ref04_Check_b1 s1 i2)
  unfold ref04_Check_b1
  refine tr_seq ?_
  refine tr_seq ?_
  refine tr_reg ?_
  refine trO_mv rfl rfl ?_
  refine trO_mv rfl rfl ?_
  refine trO_len_sl rfl rfl ?_
  refine trO_bin (v := .bool (decide (i2 < (s1.length : Int)))) rfl rfl rfl rfl rfl ?_
  refine trO_nil ?_
  refine trX_seq ?_
  refine tr_cond (c := (decide (i2 < (s1.length : Int)))) rfl ?_ ?_
  ·
    refine tr_skip ?_
    refine trX_seq ?_
    refine tr_seq ?_
    refine tr_block ?_
    refine tr_seq ?_
    refine tr_reg ?_
    refine trO_mv rfl rfl ?_
    refine trO_mv rfl rfl ?_
    refine trO_bind fun x_x3 hx_x3 => ?_
    refine trO_ixA_sl (en := eI64) rfl rfl rfl hx_x3 rfl ?_
    refine trO_ld_f (v := .int .i64 x_x3) rfl rfl rfl rfl ?_
    refine trO_bind fun r4 hr4 => ?_
    refine trO_call_ground x_x3 rfl rfl rfl ref04_good_de rfl rfl (by simp) rfl hr4 rfl ?_
    refine trO_un (w := .bool (!r4)) rfl rfl rfl rfl trivial ?_
    refine trO_mv rfl rfl ?_
    refine trO_split 16 (b := (!r4)) rfl ?_ ?_
    ·
      refine trO_off rfl ?_
      refine trO_off rfl ?_
      refine trO_off rfl ?_
      refine trO_off rfl ?_
      refine trO_off rfl ?_
      refine trO_off rfl ?_
      refine trO_off rfl ?_
      refine trO_off rfl ?_
      refine trO_off rfl ?_
      refine trO_off rfl ?_
      refine trO_off rfl ?_
      refine trO_off rfl ?_
      refine trO_off rfl ?_
      refine trO_off rfl ?_
      refine trO_pick_true rfl rfl rfl rfl ?_
      refine trO_nil_draw (by kernel_rfl) ?_
      refine trX_seq ?_
      refine tr_cond_true rfl ?_
      refine tr_seq ?_
      refine tr_reg ?_
      refine trO_asg rfl rfl ?_
      refine trO_nil ?_
      refine trX_seq ?_
      refine tr_ret ?_
      refine trX_blk_ret ?_
      refine trX_seq_ret ?_
      refine trX_loop_ret ?_
      refine trX_blk_ret ?_
      refine trX_seq_ret ?_
      exact ret_ground (b := false) rfl (by first | (simp; done) | (simp; omega)) rfl rfl (by first | (simp; done) | (simp; omega)) rfl
    ·
      refine trO_mv rfl rfl ?_
      refine trO_bin (v := .bool (decide (i2 > 0))) rfl rfl rfl rfl rfl ?_
      refine trO_mv rfl rfl ?_
      refine trO_split 19 (b := (decide (i2 > 0))) rfl ?_ ?_
      ·
        refine trO_mv rfl rfl ?_
        refine trO_mv rfl rfl ?_
        refine trO_bind fun x_x5 hx_x5 => ?_
        refine trO_ixA_sl (en := eI64) rfl rfl rfl hx_x5 rfl ?_
        refine trO_ld_f (v := .int .i64 x_x5) rfl rfl rfl rfl ?_
        refine trO_mv rfl rfl ?_
        refine trO_mv rfl rfl ?_
        refine trO_bin (v := .int .i64 (IntKind.i64.wrap (i2 - 1))) rfl rfl rfl rfl rfl ?_
        refine trO_bind fun x_x6 hx_x6 => ?_
        refine trO_ixA_sl (en := eI64) rfl rfl rfl hx_x6 rfl ?_
        refine trO_ld_f (v := .int .i64 x_x6) rfl rfl rfl rfl ?_
        refine trO_bin (v := .bool (decide (x_x5 ≤ x_x6))) rfl rfl rfl rfl rfl ?_
        refine trO_pick_true rfl rfl rfl rfl ?_
        refine trO_pick_false rfl rfl rfl rfl ?_
        refine trO_nil_draw (by kernel_rfl) ?_
        refine trX_seq ?_
        refine tr_cond (c := (decide (x_x5 ≤ x_x6))) rfl ?_ ?_
        ·
          refine tr_seq ?_
          refine tr_reg ?_
          refine trO_asg rfl rfl ?_
          refine trO_nil ?_
          refine trX_seq ?_
          refine tr_ret ?_
          refine trX_blk_ret ?_
          refine trX_seq_ret ?_
          refine trX_loop_ret ?_
          refine trX_blk_ret ?_
          refine trX_seq_ret ?_
          exact ret_ground (b := false) rfl (by first | (simp; done) | (simp; omega)) rfl rfl (by first | (simp; done) | (simp; omega)) rfl
        ·
          refine tr_skip ?_
          refine trX_blk_normal ?_
          refine trX_seq ?_
          refine tr_reg ?_
          refine trO_mv rfl rfl ?_
          refine trO_bin (v := .int .i64 (IntKind.i64.wrap (i2 + 1))) rfl rfl rfl rfl rfl ?_
          refine trO_asg rfl rfl ?_
          refine trO_nil ?_
          exact trX_loop (s := IntKind.i64.wrap (i2 + 1)) () (has_exact ⟨rfl, rfl, trivial⟩ trivial)
      ·
        refine trO_off rfl ?_
        refine trO_off rfl ?_
        refine trO_off rfl ?_
        refine trO_off rfl ?_
        refine trO_off rfl ?_
        refine trO_off rfl ?_
        refine trO_off rfl ?_
        refine trO_off rfl ?_
        refine trO_off rfl ?_
        refine trO_off rfl ?_
        refine trO_pick_false rfl rfl rfl rfl ?_
        refine trO_pick_false rfl rfl rfl rfl ?_
        refine trO_nil_draw (by kernel_rfl) ?_
        refine trX_seq ?_
        refine tr_cond_false rfl ?_
        refine tr_skip ?_
        refine trX_blk_normal ?_
        refine trX_seq ?_
        refine tr_reg ?_
        refine trO_mv rfl rfl ?_
        refine trO_bin (v := .int .i64 (IntKind.i64.wrap (i2 + 1))) rfl rfl rfl rfl rfl ?_
        refine trO_asg rfl rfl ?_
        refine trO_nil ?_
        exact trX_loop (s := IntKind.i64.wrap (i2 + 1)) () (has_exact ⟨rfl, rfl, trivial⟩ trivial)
  ·
    refine tr_exit ?_
    refine trX_seq_exit ?_
    refine trX_loop_exit ?_
    refine trX_blk_here ?_
    refine trX_seq ?_
    refine tr_seq ?_
    refine tr_reg ?_
    refine trO_asg rfl rfl ?_
    refine trO_nil ?_
    refine trX_seq ?_
    refine tr_ret ?_
    exact ret_ground (b := true) rfl (by first | (simp; done) | (simp; omega)) rfl rfl (by first | (simp; done) | (simp; omega)) rfl

def dc33 : DCode := (.seq (.reg [⟨(some 4), (.asg (.c (.bool false)) none), none, []⟩] false) (.seq (.seq (.reg [⟨(some 5), (.asg (.c (.int .i64 0)) none), none, []⟩] false) (.block 0 (.loop (.seq (.seq (.reg [⟨(some 6), (.mv (.t 5)), none, []⟩, ⟨(some 7), (.mv (.t 0)), none, []⟩, ⟨(some 8), (.len false (.t 7)), none, []⟩, ⟨(some 9), (.bin .lss (.t 6) (.t 8)), none, []⟩] false) (.cond (.t 9) .skip (.exit 0))) (.seq (.block 1 (.seq (.reg [⟨(some 12), (.mv (.t 0)), none, []⟩, ⟨(some 13), (.mv (.t 5)), none, []⟩, ⟨(some 14), (.ixA 1 (.t 12) (.t 13)), none, []⟩, ⟨(some 15), (.ld 1 false (.t 14)), none, []⟩, ⟨(some 16), (.mv (.t 1)), none, []⟩, ⟨(some 17), (.bin .eql (.t 15) (.t 16)), none, []⟩] false) (.cond (.t 17) (.seq (.reg [⟨(some 4), (.asg (.c (.bool true)) none), none, []⟩] false) .ret) .skip))) (.reg [⟨(some 10), (.mv (.t 5)), none, []⟩, ⟨(some 11), (.bin .add (.t 10) (.c (.int .i64 1))), none, []⟩, ⟨(some 5), (.asg (.t 11) none), none, []⟩] false)))))) (.seq (.reg [⟨(some 4), (.asg (.c (.bool false)) none), none, []⟩] false) .ret)))
theorem dc33_c : (Try.f33.body.bind (cCode Try.prog Try.f33.ntmps)) = some dc33 := by kernel_rfl
theorem dc33_r : Try.f33.results.toList.mapM (cRes Try.prog) = some [(.t 4)] := by kernel_rfl
def ref04_Has_enc (a : (List Int) × Int) : List D := [.sl (a.1.map eI64), .int .i64 a.2]
def ref04_Has_dec (ds : List D) : (List Int) × Int := ((uL uI) (ds.getD 0 .top), uI (ds.getD 1 .top))
theorem ref04_Has_de (a : (List Int) × Int) : ref04_Has_dec (ref04_Has_enc a) = a := by simp [ref04_Has_dec, ref04_Has_enc, uI, uBo, uS, uL_e (u := uI) (en := eI64) (fun _ => rfl)]
def ref04_Has_R (b : Bool) : D := .bool b
def ref04_Has_E (_b : Bool) : List D := []
noncomputable def ref04_Has_S : Dw.Spec := fSpec [] .ground ref04_Has_enc ref04_Has_dec (fun a => ref04_Has a.1 a.2) ref04_Has_R ref04_Has_E
set_option maxHeartbeats 4000000 in
theorem ref04_Has_ok : SpecOk Try.prog 33 ref04_Has_S := by
  refine fn_ok (specs_nil) Try.func33 (by decide) dc33_c dc33_r (np := 2) (by decide) ref04_Has_de (fun _ => rfl) ?_
  rintro ⟨s1, n2⟩
  show Tr (specs []) dc33 (kRet [] .ground [(.t 4)] 2 ref04_Has_R ref04_Has_E) ⟨[(0, .sl (s1.map eI64)), (1, .int .i64 n2)], [], 2⟩ (ref04_Has s1 n2)
  unfold dc33 ref04_Has
  refine tr_seq ?_
  refine tr_reg ?_
  refine trO_asg rfl rfl ?_
  refine trO_nil ?_
  refine trX_seq ?_
  refine tr_seq ?_
  refine tr_seq ?_
  refine tr_reg ?_
  refine trO_asg rfl rfl ?_
  refine trO_nil ?_
  refine trX_seq ?_
  refine tr_block ?_
  refine tr_loop (E := fun (s : Int) (g : Unit) => [(0, .sl (s1.map eI64)), (1, .int .i64 n2), (5, .int .i64 s)]) (O := fun s g => []) (body := fun s => ref04_Has_b1 s1 n2 s) (s := 0) () (has_exact ⟨rfl, rfl, rfl, trivial⟩ trivial) ?_
  rintro i3 ⟨⟩ nn
  show Tr _ _ _ ⟨[(0, .sl (s1.map eI64)), (1, .int .i64 n2), (5, .int .i64 i3)], [], _⟩ (ref04_Has_b1 s1 n2 i3)
  unfold ref04_Has_b1
  refine tr_seq ?_
  refine tr_seq ?_
  refine tr_reg ?_
  refine trO_mv rfl rfl ?_
  refine trO_mv rfl rfl ?_
  refine trO_len_sl rfl rfl ?_
  refine trO_bin (v := .bool (decide (i3 < (s1.length : Int)))) rfl rfl rfl rfl rfl ?_
  refine trO_nil ?_
  refine trX_seq ?_
  refine tr_cond (c := (decide (i3 < (s1.length : Int)))) rfl ?_ ?_
  ·
    refine tr_skip ?_
    refine trX_seq ?_
    refine tr_seq ?_
    refine tr_block ?_
    refine tr_seq ?_
    refine tr_reg ?_
    refine trO_mv rfl rfl ?_
    refine trO_mv rfl rfl ?_
    refine trO_bind fun x_x4 hx_x4 => ?_
    refine trO_ixA_sl (en := eI64) rfl rfl rfl hx_x4 rfl ?_
    refine trO_ld_f (v := .int .i64 x_x4) rfl rfl rfl rfl ?_
    refine trO_mv rfl rfl ?_
    refine trO_bin (v := .bool (x_x4 == n2)) rfl rfl rfl rfl rfl ?_
    refine trO_nil ?_
    refine trX_seq ?_
    refine tr_cond (c := (x_x4 == n2)) rfl ?_ ?_
    ·
      refine tr_seq ?_
      refine tr_reg ?_
      refine trO_asg rfl rfl ?_
      refine trO_nil ?_
      refine trX_seq ?_
      refine tr_ret ?_
      refine trX_blk_ret ?_
      refine trX_seq_ret ?_
      refine trX_loop_ret ?_
      refine trX_blk_ret ?_
      refine trX_seq_ret ?_
      exact ret_ground (b := true) rfl (by first | (simp; done) | (simp; omega)) rfl rfl (by first | (simp; done) | (simp; omega)) rfl
    ·
      refine tr_skip ?_
      refine trX_blk_normal ?_
      refine trX_seq ?_
      refine tr_reg ?_
      refine trO_mv rfl rfl ?_
      refine trO_bin (v := .int .i64 (IntKind.i64.wrap (i3 + 1))) rfl rfl rfl rfl rfl ?_
      refine trO_asg rfl rfl ?_
      refine trO_nil ?_
      exact trX_loop (s := IntKind.i64.wrap (i3 + 1)) () (has_exact ⟨rfl, rfl, rfl, trivial⟩ trivial)
  ·
    refine tr_exit ?_
    refine trX_seq_exit ?_
    refine trX_loop_exit ?_
    refine trX_blk_here ?_
    refine trX_seq ?_
    refine tr_seq ?_
    refine tr_reg ?_
    refine trO_asg rfl rfl ?_
    refine trO_nil ?_
    refine trX_seq ?_
    refine tr_ret ?_
    exact ret_ground (b := false) rfl (by first | (simp; done) | (simp; omega)) rfl rfl (by first | (simp; done) | (simp; omega)) rfl

def dc18 : DCode := (.seq (.reg [⟨(some 4), (.asg (.c (.bool false)) none), none, []⟩] false) (.seq (.seq (.reg [⟨(some 8), (.mv (.t 0)), none, []⟩, ⟨(some 9), (.len false (.t 8)), none, []⟩, ⟨(some 10), (.mv (.t 1)), none, []⟩, ⟨(some 11), (.bin .neq (.t 9) (.t 10)), none, []⟩] false) (.cond (.t 11) (.seq (.reg [⟨(some 4), (.asg (.c (.bool false)) none), none, []⟩] false) .ret) .skip)) (.seq (.seq (.reg [⟨(some 5), (.asg (.c (.int .i64 0)) none), none, []⟩] false) (.block 0 (.loop (.seq (.seq (.reg [⟨(some 12), (.mv (.t 5)), none, []⟩, ⟨(some 13), (.mv (.t 1)), none, []⟩, ⟨(some 14), (.bin .lss (.t 12) (.t 13)), none, []⟩] false) (.cond (.t 14) .skip (.exit 0))) (.seq (.block 1 (.seq (.seq (.reg [⟨(some 17), (.mv (.t 0)), none, []⟩, ⟨(some 18), (.mv (.t 5)), none, []⟩, ⟨(some 19), (.ixA 1 (.t 17) (.t 18)), none, []⟩, ⟨(some 20), (.ld 1 false (.t 19)), none, []⟩, ⟨(some 21), (.call (.c (.clo 32 [])) [(.t 20)]), none, []⟩, ⟨(some 22), (.un .not (.t 21)), none, []⟩, ⟨(some 23), (.mv (.t 22)), none, []⟩, ⟨(some 24), (.mv (.t 0)), (some ⟨23, false⟩), []⟩, ⟨(some 25), (.mv (.t 5)), (some ⟨23, false⟩), []⟩, ⟨(some 26), (.ixA 1 (.t 24) (.t 25)), (some ⟨23, false⟩), []⟩, ⟨(some 27), (.ld 1 false (.t 26)), (some ⟨23, false⟩), []⟩, ⟨(some 28), (.mv (.t 5)), (some ⟨23, false⟩), []⟩, ⟨(some 29), (.call (.c (.clo 33 [])) [(.t 27), (.t 28)]), (some ⟨23, false⟩), []⟩, ⟨(some 30), (.pick (.t 23) (.c (.bool true)) (.t 29)), none, []⟩] false) (.cond (.t 30) (.seq (.reg [⟨(some 4), (.asg (.c (.bool false)) none), none, []⟩] false) .ret) .skip)) (.seq (.reg [⟨(some 6), (.asg (.c (.int .i64 0)) none), none, []⟩] false) (.block 2 (.loop (.seq (.seq (.reg [⟨(some 31), (.mv (.t 6)), none, []⟩, ⟨(some 32), (.mv (.t 0)), none, []⟩, ⟨(some 33), (.mv (.t 5)), none, []⟩, ⟨(some 34), (.ixA 1 (.t 32) (.t 33)), none, []⟩, ⟨(some 35), (.ld 1 false (.t 34)), none, []⟩, ⟨(some 36), (.len false (.t 35)), none, []⟩, ⟨(some 37), (.bin .lss (.t 31) (.t 36)), none, []⟩] false) (.cond (.t 37) .skip (.exit 2))) (.seq (.block 3 (.seq (.reg [⟨(some 40), (.mv (.t 0)), none, []⟩, ⟨(some 41), (.mv (.t 5)), none, []⟩, ⟨(some 42), (.ixA 1 (.t 40) (.t 41)), none, []⟩, ⟨(some 43), (.ld 1 false (.t 42)), none, []⟩, ⟨(some 44), (.mv (.t 6)), none, []⟩, ⟨(some 45), (.ixA 1 (.t 43) (.t 44)), none, []⟩, ⟨(some 46), (.ld 1 false (.t 45)), none, []⟩, ⟨(some 7), (.asg (.t 46) none), none, []⟩] false) (.seq (.reg [⟨(some 47), (.mv (.t 7)), none, []⟩, ⟨(some 48), (.mv (.t 1)), none, []⟩, ⟨(some 49), (.bin .geq (.t 47) (.t 48)), none, []⟩, ⟨(some 50), (.mv (.t 49)), none, []⟩, ⟨(some 51), (.mv (.t 0)), (some ⟨50, false⟩), []⟩, ⟨(some 52), (.mv (.t 7)), (some ⟨50, false⟩), []⟩, ⟨(some 53), (.ixA 1 (.t 51) (.t 52)), (some ⟨50, false⟩), []⟩, ⟨(some 54), (.ld 1 false (.t 53)), (some ⟨50, false⟩), []⟩, ⟨(some 55), (.mv (.t 5)), (some ⟨50, false⟩), []⟩, ⟨(some 56), (.call (.c (.clo 33 [])) [(.t 54), (.t 55)]), (some ⟨50, false⟩), []⟩, ⟨(some 57), (.un .not (.t 56)), (some ⟨50, false⟩), []⟩, ⟨(some 58), (.pick (.t 50) (.c (.bool true)) (.t 57)), none, []⟩] false) (.cond (.t 58) (.seq (.reg [⟨(some 4), (.asg (.c (.bool false)) none), none, []⟩] false) .ret) .skip)))) (.reg [⟨(some 38), (.mv (.t 6)), none, []⟩, ⟨(some 39), (.bin .add (.t 38) (.c (.int .i64 1))), none, []⟩, ⟨(some 6), (.asg (.t 39) none), none, []⟩] false)))))))) (.reg [⟨(some 15), (.mv (.t 5)), none, []⟩, ⟨(some 16), (.bin .add (.t 15) (.c (.int .i64 1))), none, []⟩, ⟨(some 5), (.asg (.t 16) none), none, []⟩] false)))))) (.seq (.reg [⟨(some 4), (.asg (.c (.bool true)) none), none, []⟩] false) .ret))))
theorem dc18_c : (Try.f18.body.bind (cCode Try.prog Try.f18.ntmps)) = some dc18 := by kernel_rfl
theorem dc18_r : Try.f18.results.toList.mapM (cRes Try.prog) = some [(.t 4)] := by kernel_rfl
def ref18_Check_enc (a : (List (List Int)) × Int) : List D := [.sl (a.1.map (eL eI64)), .int .i64 a.2]
def ref18_Check_dec (ds : List D) : (List (List Int)) × Int := ((uL (uL uI)) (ds.getD 0 .top), uI (ds.getD 1 .top))
theorem ref18_Check_de (a : (List (List Int)) × Int) : ref18_Check_dec (ref18_Check_enc a) = a := by simp [ref18_Check_dec, ref18_Check_enc, uI, uBo, uS, uL_e (u := (uL uI)) (en := (eL eI64)) (uL_e (u := uI) (en := eI64) (fun _ => rfl))]
def ref18_Check_R (b : Bool) : D := .bool b
def ref18_Check_E (_b : Bool) : List D := []
noncomputable def ref18_Check_S : Dw.Spec := fSpec [] .ground ref18_Check_enc ref18_Check_dec (fun a => ref18_Check a.1 a.2) ref18_Check_R ref18_Check_E
set_option maxHeartbeats 4000000 in
theorem ref18_Check_ok : SpecOk Try.prog 18 ref18_Check_S := by
  refine fn_ok (specs_ok (l := [(32, ref04_Check_S), (33, ref04_Has_S)]) (by simp [ref04_Check_ok, ref04_Has_ok])) Try.func18 (by decide) dc18_c dc18_r (np := 2) (by decide) ref18_Check_de (fun _ => rfl) ?_
  rintro ⟨g1, n2⟩
  show Tr (specs [(32, ref04_Check_S), (33, ref04_Has_S)]) dc18 (kRet [] .ground [(.t 4)] 2 ref18_Check_R ref18_Check_E) ⟨[(0, .sl (g1.map (eL eI64))), (1, .int .i64 n2)], [], 2⟩ (ref18_Check g1 n2)
  unfold dc18 ref18_Check
  refine tr_seq ?_
  refine tr_reg ?_
  refine trO_asg rfl rfl ?_
  refine trO_nil ?_
  refine trX_seq ?_
  refine tr_seq ?_
  refine tr_seq ?_
  refine tr_reg ?_
  refine trO_mv rfl rfl ?_
  refine trO_len_sl rfl rfl ?_
  refine trO_mv rfl rfl ?_
  refine trO_bin (v := .bool ((g1.length : Int) != n2)) rfl rfl rfl rfl rfl ?_
  refine trO_nil ?_
  refine trX_seq ?_
  refine tr_cond (c := ((g1.length : Int) != n2)) rfl ?_ ?_
  ·
    refine tr_seq ?_
    refine tr_reg ?_
    refine trO_asg rfl rfl ?_
    refine trO_nil ?_
    refine trX_seq ?_
    refine tr_ret ?_
    refine trX_seq_ret ?_
    exact ret_ground (b := false) rfl (by first | (simp; done) | (simp; omega)) rfl rfl (by first | (simp; done) | (simp; omega)) rfl
  ·
    refine tr_skip ?_
    refine trX_seq ?_
    refine tr_seq ?_
    refine tr_seq ?_
    refine tr_reg ?_
    refine trO_asg rfl rfl ?_
    refine trO_nil ?_
    refine trX_seq ?_
    refine tr_block ?_
    refine tr_loop (E := fun (s : Int) (g : Unit) => [(0, .sl (g1.map (eL eI64))), (1, .int .i64 n2), (5, .int .i64 s)]) (O := fun s g => []) (body := fun s => ref18_Check_b1 n2 g1 s) (s := 0) () (has_exact ⟨rfl, rfl, rfl, trivial⟩ trivial) ?_
    rintro x3 ⟨⟩ nn
    show Tr _ _ _ ⟨[(0, .sl (g1.map (eL eI64))), (1, .int .i64 n2), (5, .int .i64 x3)], [], _⟩ (ref18_Check_b1 n2 g1 x3)
    unfold ref18_Check_b1
    refine tr_seq ?_
    refine tr_seq ?_
    refine tr_reg ?_
    refine trO_mv rfl rfl ?_
    refine trO_mv rfl rfl ?_
    refine trO_bin (v := .bool (decide (x3 < n2))) rfl rfl rfl rfl rfl ?_
    refine trO_nil ?_
    refine trX_seq ?_
    refine tr_cond (c := (decide (x3 < n2))) rfl ?_ ?_
    ·
      refine tr_skip ?_
      refine trX_seq ?_
      refine tr_seq_blk_cut (E := fun (s : (List Int) × (List Int) × Bool) (g : Unit) => [(0, .sl (g1.map (eL eI64))), (1, .int .i64 n2), (5, .int .i64 x3), (24, .sl (g1.map (eL eI64))), (25, .int .i64 x3), (26, .fptr (.sl (s.1.map eI64)) 0), (27, .sl (s.2.1.map eI64)), (28, .int .i64 x3), (29, .bool s.2.2)]) (O := fun s g => []) (j := fun s => ref18_Check_j2 x3 s.1 s.2.1 s.2.2) ?_ ?_
      ·
        refine tr_seq_cut (E := fun (s : (List Int) × (List Int) × Bool) (g : Unit) => [(0, .sl (g1.map (eL eI64))), (1, .int .i64 n2), (5, .int .i64 x3), (24, .sl (g1.map (eL eI64))), (25, .int .i64 x3), (26, .fptr (.sl (s.1.map eI64)) 0), (27, .sl (s.2.1.map eI64)), (28, .int .i64 x3), (29, .bool s.2.2)]) (O := fun s g => []) (j := fun s => ref18_Check_j3 g1 x3 n2 s.1 s.2.1 s.2.2) ?_ ?_
        ·
          refine tr_seq ?_
          refine tr_reg ?_
          refine trO_mv rfl rfl ?_
          refine trO_mv rfl rfl ?_
          refine trO_bind fun x_x10 hx_x10 => ?_
          refine trO_ixA_sl (en := (eL eI64)) rfl rfl rfl hx_x10 rfl ?_
          refine trO_ld_f (v := .sl (x_x10.map eI64)) rfl rfl rfl rfl ?_
          refine trO_bind fun r11 hr11 => ?_
          refine trO_call_ground x_x10 rfl rfl rfl ref04_Check_de rfl rfl (by simp) rfl hr11 rfl ?_
          refine trO_un (w := .bool (!r11)) rfl rfl rfl rfl trivial ?_
          refine trO_mv rfl rfl ?_
          refine trO_split 23 (b := (!r11)) rfl ?_ ?_
          ·
            refine trO_off rfl ?_
            refine trO_off rfl ?_
            refine trO_off rfl ?_
            refine trO_off rfl ?_
            refine trO_off rfl ?_
            refine trO_off rfl ?_
            refine trO_pick_true rfl rfl rfl rfl ?_
            refine trO_nil ?_
            refine trX_seq ?_
            refine tr_cond_true rfl ?_
            refine tr_seq ?_
            refine tr_reg ?_
            refine trO_asg rfl rfl ?_
            refine trO_nil ?_
            refine trX_seq ?_
            refine tr_ret ?_
            refine trX_cut_ret ?_
            refine trX_bcut_ret ?_
            refine trX_loop_ret ?_
            refine trX_blk_ret ?_
            refine trX_seq_ret ?_
            exact ret_ground (b := false) rfl (by first | (simp; done) | (simp; omega)) rfl rfl (by first | (simp; done) | (simp; omega)) rfl
          ·
            refine trO_mv rfl rfl ?_
            refine trO_mv rfl rfl ?_
            refine trO_bind fun x_x12 hx_x12 => ?_
            refine trO_ixA_sl (en := (eL eI64)) rfl rfl rfl hx_x12 rfl ?_
            refine trO_ld_f (v := .sl (x_x12.map eI64)) rfl rfl rfl rfl ?_
            refine trO_mv rfl rfl ?_
            refine trO_bind fun r13 hr13 => ?_
            refine trO_call_ground (x_x12, x3) rfl rfl rfl ref04_Has_de rfl rfl (by simp) rfl hr13 rfl ?_
            refine trO_pick_false rfl rfl rfl rfl ?_
            refine trO_nil ?_
            refine trX_seq ?_
            refine tr_cond (c := r13) rfl ?_ ?_
            ·
              refine tr_seq ?_
              refine tr_reg ?_
              refine trO_asg rfl rfl ?_
              refine trO_nil ?_
              refine trX_seq ?_
              refine tr_ret ?_
              refine trX_cut_ret ?_
              refine trX_bcut_ret ?_
              refine trX_loop_ret ?_
              refine trX_blk_ret ?_
              refine trX_seq_ret ?_
              exact ret_ground (b := false) rfl (by first | (simp; done) | (simp; omega)) rfl rfl (by first | (simp; done) | (simp; omega)) rfl
            ·
              refine tr_skip ?_
              exact trX_cut (s := (x_x12, x_x12, r13)) () (has_exact ⟨rfl, rfl, rfl, rfl, rfl, rfl, rfl, rfl, rfl, trivial⟩ trivial)
        ·
          rintro ⟨x7, x8, x9⟩ ⟨⟩ nn
          show Tr _ _ _ ⟨[(0, .sl (g1.map (eL eI64))), (1, .int .i64 n2), (5, .int .i64 x3), (24, .sl (g1.map (eL eI64))), (25, .int .i64 x3), (26, .fptr (.sl (x7.map eI64)) 0), (27, .sl (x8.map eI64)), (28, .int .i64 x3), (29, .bool x9)], [], _⟩ (ref18_Check_j3 g1 x3 n2 x7 x8 x9)
          unfold ref18_Check_j3
          refine tr_seq ?_
          refine tr_reg ?_
          refine trO_asg rfl rfl ?_
          refine trO_nil ?_
          refine trX_seq ?_
          refine tr_block ?_
          refine tr_loop (E := fun (s : Int) (g : Unit) => [(0, .sl (g1.map (eL eI64))), (1, .int .i64 n2), (5, .int .i64 x3), (6, .int .i64 s), (24, .sl (g1.map (eL eI64))), (25, .int .i64 x3), (26, .fptr (.sl (x7.map eI64)) 0), (27, .sl (x8.map eI64)), (28, .int .i64 x3), (29, .bool x9)]) (O := fun s g => []) (body := fun s => ref18_Check_b4 g1 x3 n2 x7 x8 x9 s) (s := 0) () (has_exact ⟨rfl, rfl, rfl, rfl, rfl, rfl, rfl, rfl, rfl, rfl, trivial⟩ trivial) ?_
          rintro i14 ⟨⟩ nn
          show Tr _ _ _ ⟨[(0, .sl (g1.map (eL eI64))), (1, .int .i64 n2), (5, .int .i64 x3), (6, .int .i64 i14), (24, .sl (g1.map (eL eI64))), (25, .int .i64 x3), (26, .fptr (.sl (x7.map eI64)) 0), (27, .sl (x8.map eI64)), (28, .int .i64 x3), (29, .bool x9)], [], _⟩ (ref18_Check_b4 g1 x3 n2 x7 x8 x9 i14)
          unfold ref18_Check_b4
          refine tr_seq ?_
          refine tr_seq ?_
          refine tr_reg ?_
          refine trO_mv rfl rfl ?_
          refine trO_mv rfl rfl ?_
          refine trO_mv rfl rfl ?_
          refine trO_bind fun x_x15 hx_x15 => ?_
          refine trO_ixA_sl (en := (eL eI64)) rfl rfl rfl hx_x15 rfl ?_
          refine trO_ld_f (v := .sl (x_x15.map eI64)) rfl rfl rfl rfl ?_
          refine trO_len_sl rfl rfl ?_
          refine trO_bin (v := .bool (decide (i14 < (x_x15.length : Int)))) rfl rfl rfl rfl rfl ?_
          refine trO_nil ?_
          refine trX_seq ?_
          refine tr_cond (c := (decide (i14 < (x_x15.length : Int)))) rfl ?_ ?_
          ·
            refine tr_skip ?_
            refine trX_seq ?_
            refine tr_seq ?_
            refine tr_block ?_
            refine tr_seq ?_
            refine tr_reg ?_
            refine trO_mv rfl rfl ?_
            refine trO_mv rfl rfl ?_
            refine trO_bind fun x_x16 hx_x16 => ?_
            refine trO_ixA_sl (en := (eL eI64)) rfl rfl rfl hx_x16 rfl ?_
            refine trO_ld_f (v := .sl (x_x16.map eI64)) rfl rfl rfl rfl ?_
            refine trO_mv rfl rfl ?_
            refine trO_bind fun x_x17 hx_x17 => ?_
            refine trO_ixA_sl (en := eI64) rfl rfl rfl hx_x17 rfl ?_
            refine trO_ld_f (v := .int .i64 x_x17) rfl rfl rfl rfl ?_
            refine trO_asg rfl rfl ?_
            refine trO_nil ?_
            refine trX_seq ?_
            refine tr_seq ?_
            refine tr_reg ?_
            refine trO_mv rfl rfl ?_
            refine trO_mv rfl rfl ?_
            refine trO_bin (v := .bool (decide (x_x17 ≥ n2))) rfl rfl rfl rfl rfl ?_
            refine trO_mv rfl rfl ?_
            refine trO_split 50 (b := (decide (x_x17 ≥ n2))) rfl ?_ ?_
            ·
              refine trO_off rfl ?_
              refine trO_off rfl ?_
              refine trO_off rfl ?_
              refine trO_off rfl ?_
              refine trO_off rfl ?_
              refine trO_off rfl ?_
              refine trO_off rfl ?_
              refine trO_pick_true rfl rfl rfl rfl ?_
              refine trO_nil ?_
              refine trX_seq ?_
              refine tr_cond_true rfl ?_
              refine tr_seq ?_
              refine tr_reg ?_
              refine trO_asg rfl rfl ?_
              refine trO_nil ?_
              refine trX_seq ?_
              refine tr_ret ?_
              refine trX_blk_ret ?_
              refine trX_seq_ret ?_
              refine trX_loop_ret ?_
              refine trX_blk_ret ?_
              refine trX_bcut_ret ?_
              refine trX_loop_ret ?_
              refine trX_blk_ret ?_
              refine trX_seq_ret ?_
              exact ret_ground (b := false) rfl (by first | (simp; done) | (simp; omega)) rfl rfl (by first | (simp; done) | (simp; omega)) rfl
            ·
              refine trO_mv rfl rfl ?_
              refine trO_mv rfl rfl ?_
              refine trO_bind fun x_x18 hx_x18 => ?_
              refine trO_ixA_sl (en := (eL eI64)) rfl rfl rfl hx_x18 rfl ?_
              refine trO_ld_f (v := .sl (x_x18.map eI64)) rfl rfl rfl rfl ?_
              refine trO_mv rfl rfl ?_
              refine trO_bind fun r19 hr19 => ?_
              refine trO_call_ground (x_x18, x3) rfl rfl rfl ref04_Has_de rfl rfl (by simp) rfl hr19 rfl ?_
              refine trO_un (w := .bool (!r19)) rfl rfl rfl rfl trivial ?_
              refine trO_pick_false rfl rfl rfl rfl ?_
              refine trO_nil ?_
              refine trX_seq ?_
              refine tr_cond (c := (!r19)) rfl ?_ ?_
              ·
                refine tr_seq ?_
                refine tr_reg ?_
                refine trO_asg rfl rfl ?_
                refine trO_nil ?_
                refine trX_seq ?_
                refine tr_ret ?_
                refine trX_blk_ret ?_
                refine trX_seq_ret ?_
                refine trX_loop_ret ?_
                refine trX_blk_ret ?_
                refine trX_bcut_ret ?_
                refine trX_loop_ret ?_
                refine trX_blk_ret ?_
                refine trX_seq_ret ?_
                exact ret_ground (b := false) rfl (by first | (simp; done) | (simp; omega)) rfl rfl (by first | (simp; done) | (simp; omega)) rfl
              ·
                refine tr_skip ?_
                refine trX_blk_normal ?_
                refine trX_seq ?_
                refine tr_reg ?_
                refine trO_mv rfl rfl ?_
                refine trO_bin (v := .int .i64 (IntKind.i64.wrap (i14 + 1))) rfl rfl rfl rfl rfl ?_
                refine trO_asg rfl rfl ?_
                refine trO_nil ?_
                exact trX_loop (s := IntKind.i64.wrap (i14 + 1)) () (has_exact ⟨rfl, rfl, rfl, rfl, rfl, rfl, rfl, rfl, rfl, rfl, trivial⟩ trivial)
          ·
            refine tr_exit ?_
            refine trX_seq_exit ?_
            refine trX_loop_exit ?_
            refine trX_blk_here ?_
            exact trX_bcut_normal (s := (x7, x8, x9)) () (has_exact ⟨rfl, rfl, rfl, rfl, rfl, rfl, rfl, rfl, rfl, trivial⟩ trivial)
      ·
        rintro ⟨x4, x5, x6⟩ ⟨⟩ nn
        show Tr _ _ _ ⟨[(0, .sl (g1.map (eL eI64))), (1, .int .i64 n2), (5, .int .i64 x3), (24, .sl (g1.map (eL eI64))), (25, .int .i64 x3), (26, .fptr (.sl (x4.map eI64)) 0), (27, .sl (x5.map eI64)), (28, .int .i64 x3), (29, .bool x6)], [], _⟩ (ref18_Check_j2 x3 x4 x5 x6)
        unfold ref18_Check_j2
        refine tr_reg ?_
        refine trO_mv rfl rfl ?_
        refine trO_bin (v := .int .i64 (IntKind.i64.wrap (x3 + 1))) rfl rfl rfl rfl rfl ?_
        refine trO_asg rfl rfl ?_
        refine trO_nil ?_
        exact trX_loop (s := IntKind.i64.wrap (x3 + 1)) () (has_exact ⟨rfl, rfl, rfl, trivial⟩ trivial)
    ·
      refine tr_exit ?_
      refine trX_seq_exit ?_
      refine trX_loop_exit ?_
      refine trX_blk_here ?_
      refine trX_seq ?_
      refine tr_seq ?_
      refine tr_reg ?_
      refine trO_asg rfl rfl ?_
      refine trO_nil ?_
      refine trX_seq ?_
      refine tr_ret ?_
      exact ret_ground (b := true) rfl (by first | (simp; done) | (simp; omega)) rfl rfl (by first | (simp; done) | (simp; omega)) rfl

def dc19 : DCode := (.seq (.reg [⟨(some 2), (.asg (.c (.int .i64 0)) none), none, []⟩] false) (.seq (.reg [⟨(some 3), (.asg (.c (.int .i64 0)) none), none, []⟩] false) (.seq (.seq (.reg [⟨(some 6), (.mv (.t 0)), none, []⟩, ⟨(some 7), (.len false (.t 6)), none, []⟩, ⟨(some 8), (.mv (.c (.int .i64 0))), none, []⟩] false) (.block 0 (.loop (.seq (.reg [⟨(some 9), (.bin .lss (.t 8) (.t 7)), none, []⟩] false) (.seq (.cond (.t 9) .skip (.exit 0)) (.seq (.block 1 (.seq (.reg [⟨(some 10), (.ixA 1 (.t 6) (.t 8)), none, []⟩, ⟨(some 11), (.ld 1 false (.t 10)), none, []⟩, ⟨(some 5), (.asg (.t 11) (some ⟨1, 3⟩)), none, []⟩] false) (.reg [⟨(some 12), (.mv (.t 3)), none, []⟩, ⟨(some 13), (.mv (.t 5)), none, []⟩, ⟨(some 14), (.len false (.t 13)), none, []⟩, ⟨(some 15), (.max [(.t 12), (.t 14)]), none, []⟩, ⟨(some 3), (.asg (.t 15) none), none, []⟩] false))) (.reg [⟨(some 16), (.bin .add (.t 8) (.c (.int .i64 1))), none, []⟩, ⟨(some 8), (.mv (.t 16)), none, []⟩] false))))))) (.seq (.reg [⟨(some 17), (.mv (.t 3)), none, []⟩, ⟨(some 2), (.asg (.t 17) none), none, []⟩] false) .ret))))
theorem dc19_c : (Try.f19.body.bind (cCode Try.prog Try.f19.ntmps)) = some dc19 := by kernel_rfl
theorem dc19_r : Try.f19.results.toList.mapM (cRes Try.prog) = some [(.t 2)] := by kernel_rfl
def interfere_Degree_enc (a : (List (List Int))) : List D := [.sl (a.map (eL eI64))]
def interfere_Degree_dec (ds : List D) : (List (List Int)) := (uL (uL uI)) (ds.getD 0 .top)
theorem interfere_Degree_de (a : (List (List Int))) : interfere_Degree_dec (interfere_Degree_enc a) = a := by simp [interfere_Degree_dec, interfere_Degree_enc, uI, uBo, uS, uL_e (u := (uL uI)) (en := (eL eI64)) (uL_e (u := uI) (en := eI64) (fun _ => rfl))]
def interfere_Degree_R (b : Int) : D := .int .i64 b
def interfere_Degree_E (_b : Int) : List D := []
noncomputable def interfere_Degree_S : Dw.Spec := fSpec [] .ground interfere_Degree_enc interfere_Degree_dec (fun a => interfere_Degree a) interfere_Degree_R interfere_Degree_E
set_option maxHeartbeats 4000000 in
theorem interfere_Degree_ok : SpecOk Try.prog 19 interfere_Degree_S := by
  refine fn_ok (specs_nil) Try.func19 (by decide) dc19_c dc19_r (np := 1) (by decide) interfere_Degree_de (fun _ => rfl) ?_
  intro g1
  show Tr (specs []) dc19 (kRet [] .ground [(.t 2)] 1 interfere_Degree_R interfere_Degree_E) ⟨[(0, .sl (g1.map (eL eI64)))], [], 1⟩ (interfere_Degree g1)
  unfold dc19 interfere_Degree
  refine tr_seq ?_
  refine tr_reg ?_
  refine trO_asg rfl rfl ?_
  refine trO_nil ?_
  refine trX_seq ?_
  refine tr_seq ?_
  refine tr_reg ?_
  refine trO_asg rfl rfl ?_
  refine trO_nil ?_
  refine trX_seq ?_
  refine tr_seq ?_
  refine tr_seq ?_
  refine tr_reg ?_
  refine trO_mv rfl rfl ?_
  refine trO_len_sl rfl rfl ?_
  refine trO_mv rfl rfl ?_
  refine trO_nil ?_
  refine trX_seq ?_
  refine tr_block ?_
  refine tr_loop (E := fun (s : Int × Int) (g : Unit) => [(3, .int .i64 s.1), (6, .sl (g1.map (eL eI64))), (7, .int .i64 (g1.length : Int)), (8, .int .i64 s.2)]) (O := fun s g => []) (body := fun s => interfere_Degree_b1 g1 s.1 s.2) (s := (0, 0)) () (has_exact ⟨rfl, rfl, rfl, rfl, trivial⟩ trivial) ?_
  rintro ⟨n2, x3⟩ ⟨⟩ nn
  show Tr _ _ _ ⟨[(3, .int .i64 n2), (6, .sl (g1.map (eL eI64))), (7, .int .i64 (g1.length : Int)), (8, .int .i64 x3)], [], _⟩ (interfere_Degree_b1 g1 n2 x3)
  unfold interfere_Degree_b1
  refine tr_seq ?_
  refine tr_reg ?_
  refine trO_bin (v := .bool (decide (x3 < (g1.length : Int)))) rfl rfl rfl rfl rfl ?_
  refine trO_nil ?_
  refine trX_seq ?_
  refine tr_seq ?_
  refine tr_cond (c := (decide (x3 < (g1.length : Int)))) rfl ?_ ?_
  ·
    refine tr_skip ?_
    refine trX_seq ?_
    refine tr_seq ?_
    refine tr_block ?_
    refine tr_seq ?_
    refine tr_reg ?_
    refine trO_bind fun x_x4 hx_x4 => ?_
    refine trO_ixA_sl (en := (eL eI64)) rfl rfl rfl hx_x4 rfl ?_
    refine trO_ld_f (v := .sl (x_x4.map eI64)) rfl rfl rfl rfl ?_
    refine trO_asg_sl rfl rfl ?_
    refine trO_nil ?_
    refine trX_seq ?_
    refine tr_reg ?_
    refine trO_mv rfl rfl ?_
    refine trO_mv rfl rfl ?_
    refine trO_len_sl rfl rfl ?_
    refine trO_max rfl rfl rfl ?_
    refine trO_asg rfl rfl ?_
    refine trO_nil ?_
    refine trX_blk_normal ?_
    refine trX_seq ?_
    refine tr_reg ?_
    refine trO_bin (v := .int .i64 (IntKind.i64.wrap (x3 + 1))) rfl rfl rfl rfl rfl ?_
    refine trO_mv rfl rfl ?_
    refine trO_nil ?_
    exact trX_loop (s := (maxI n2 (x_x4.length : Int), IntKind.i64.wrap (x3 + 1))) () (has_exact ⟨rfl, rfl, rfl, rfl, trivial⟩ trivial)
  ·
    refine tr_exit ?_
    refine trX_seq_exit ?_
    refine trX_loop_exit ?_
    refine trX_blk_here ?_
    refine trX_seq ?_
    refine tr_seq ?_
    refine tr_reg ?_
    refine trO_mv rfl rfl ?_
    refine trO_asg rfl rfl ?_
    refine trO_nil ?_
    refine trX_seq ?_
    refine tr_ret ?_
    exact ret_ground (b := n2) rfl (by first | (simp; done) | (simp; omega)) rfl rfl (by first | (simp; done) | (simp; omega)) rfl

def dc20 : DCode := (.seq (.reg [⟨(some 2), (.asg (.c (.int .i64 0)) none), none, []⟩] false) (.seq (.reg [⟨(some 3), (.asg (.c (.int .i64 0)) none), none, []⟩] false) (.seq (.seq (.reg [⟨(some 4), (.asg (.c (.int .i64 0)) none), none, []⟩] false) (.block 0 (.loop (.seq (.seq (.reg [⟨(some 5), (.mv (.t 4)), none, []⟩, ⟨(some 6), (.mv (.t 0)), none, []⟩, ⟨(some 7), (.len false (.t 6)), none, []⟩, ⟨(some 8), (.bin .lss (.t 5) (.t 7)), none, []⟩] false) (.cond (.t 8) .skip (.exit 0))) (.seq (.block 1 (.reg [⟨(some 11), (.mv (.t 3)), none, []⟩, ⟨(some 12), (.mv (.t 0)), none, []⟩, ⟨(some 13), (.mv (.t 4)), none, []⟩, ⟨(some 14), (.ixA 1 (.t 12) (.t 13)), none, []⟩, ⟨(some 15), (.ld 1 false (.t 14)), none, []⟩, ⟨(some 16), (.len false (.t 15)), none, []⟩, ⟨(some 17), (.max [(.t 11), (.t 16)]), none, []⟩, ⟨(some 3), (.asg (.t 17) none), none, []⟩] false)) (.reg [⟨(some 9), (.mv (.t 4)), none, []⟩, ⟨(some 10), (.bin .add (.t 9) (.c (.int .i64 1))), none, []⟩, ⟨(some 4), (.asg (.t 10) none), none, []⟩] false)))))) (.seq (.reg [⟨(some 18), (.mv (.t 3)), none, []⟩, ⟨(some 2), (.asg (.t 18) none), none, []⟩] false) .ret))))
theorem dc20_c : (Try.f20.body.bind (cCode Try.prog Try.f20.ntmps)) = some dc20 := by kernel_rfl
theorem dc20_r : Try.f20.results.toList.mapM (cRes Try.prog) = some [(.t 2)] := by kernel_rfl
def ref18_Degree_enc (a : (List (List Int))) : List D := [.sl (a.map (eL eI64))]
def ref18_Degree_dec (ds : List D) : (List (List Int)) := (uL (uL uI)) (ds.getD 0 .top)
theorem ref18_Degree_de (a : (List (List Int))) : ref18_Degree_dec (ref18_Degree_enc a) = a := by simp [ref18_Degree_dec, ref18_Degree_enc, uI, uBo, uS, uL_e (u := (uL uI)) (en := (eL eI64)) (uL_e (u := uI) (en := eI64) (fun _ => rfl))]
def ref18_Degree_R (b : Int) : D := .int .i64 b
def ref18_Degree_E (_b : Int) : List D := []
noncomputable def ref18_Degree_S : Dw.Spec := fSpec [] .ground ref18_Degree_enc ref18_Degree_dec (fun a => ref18_Degree a) ref18_Degree_R ref18_Degree_E
set_option maxHeartbeats 4000000 in
theorem ref18_Degree_ok : SpecOk Try.prog 20 ref18_Degree_S := by
  refine fn_ok (specs_nil) Try.func20 (by decide) dc20_c dc20_r (np := 1) (by decide) ref18_Degree_de (fun _ => rfl) ?_
  intro g1
  show Tr (specs []) dc20 (kRet [] .ground [(.t 2)] 1 ref18_Degree_R ref18_Degree_E) ⟨[(0, .sl (g1.map (eL eI64)))], [], 1⟩ (ref18_Degree g1)
  unfold dc20 ref18_Degree
  refine tr_seq ?_
  refine tr_reg ?_
  refine trO_asg rfl rfl ?_
  refine trO_nil ?_
  refine trX_seq ?_
  refine tr_seq ?_
  refine tr_reg ?_
  refine trO_asg rfl rfl ?_
  refine trO_nil ?_
  refine trX_seq ?_
  refine tr_seq ?_
  refine tr_seq ?_
  refine tr_reg ?_
  refine trO_asg rfl rfl ?_
  refine trO_nil ?_
  refine trX_seq ?_
  refine tr_block ?_
  refine tr_loop (E := fun (s : Int × Int) (g : Unit) => [(0, .sl (g1.map (eL eI64))), (3, .int .i64 s.1), (4, .int .i64 s.2)]) (O := fun s g => []) (body := fun s => ref18_Degree_b1 g1 s.1 s.2) (s := (0, 0)) () (has_exact ⟨rfl, rfl, rfl, trivial⟩ trivial) ?_
  rintro ⟨n2, x3⟩ ⟨⟩ nn
  show Tr _ _ _ ⟨[(0, .sl (g1.map (eL eI64))), (3, .int .i64 n2), (4, .int .i64 x3)], [], _⟩ (ref18_Degree_b1 g1 n2 x3)
  unfold ref18_Degree_b1
  refine tr_seq ?_
  refine tr_seq ?_
  refine tr_reg ?_
  refine trO_mv rfl rfl ?_
  refine trO_mv rfl rfl ?_
  refine trO_len_sl rfl rfl ?_
  refine trO_bin (v := .bool (decide (x3 < (g1.length : Int)))) rfl rfl rfl rfl rfl ?_
  refine trO_nil ?_
  refine trX_seq ?_
  refine tr_cond (c := (decide (x3 < (g1.length : Int)))) rfl ?_ ?_
  ·
    refine tr_skip ?_
    refine trX_seq ?_
    refine tr_seq ?_
    refine tr_block ?_
    refine tr_reg ?_
    refine trO_mv rfl rfl ?_
    refine trO_mv rfl rfl ?_
    refine trO_mv rfl rfl ?_
    refine trO_bind fun x_x4 hx_x4 => ?_
    refine trO_ixA_sl (en := (eL eI64)) rfl rfl rfl hx_x4 rfl ?_
    refine trO_ld_f (v := .sl (x_x4.map eI64)) rfl rfl rfl rfl ?_
    refine trO_len_sl rfl rfl ?_
    refine trO_max rfl rfl rfl ?_
    refine trO_asg rfl rfl ?_
    refine trO_nil ?_
    refine trX_blk_normal ?_
    refine trX_seq ?_
    refine tr_reg ?_
    refine trO_mv rfl rfl ?_
    refine trO_bin (v := .int .i64 (IntKind.i64.wrap (x3 + 1))) rfl rfl rfl rfl rfl ?_
    refine trO_asg rfl rfl ?_
    refine trO_nil ?_
    exact trX_loop (s := (maxI n2 (x_x4.length : Int), IntKind.i64.wrap (x3 + 1))) () (has_exact ⟨rfl, rfl, rfl, trivial⟩ trivial)
  ·
    refine tr_exit ?_
    refine trX_seq_exit ?_
    refine trX_loop_exit ?_
    refine trX_blk_here ?_
    refine trX_seq ?_
    refine tr_seq ?_
    refine tr_reg ?_
    refine trO_mv rfl rfl ?_
    refine trO_asg rfl rfl ?_
    refine trO_nil ?_
    refine trX_seq ?_
    refine tr_ret ?_
    exact ret_ground (b := n2) rfl (by first | (simp; done) | (simp; omega)) rfl rfl (by first | (simp; done) | (simp; omega)) rfl

def dc5 : DCode := (.seq (.reg [⟨(some 6), (.asg (.c (.bool false)) none), none, []⟩] false) (.seq (.seq (.reg [⟨(some 13), (.call (.c (.clo 6 [])) []), none, []⟩, ⟨(some 14), (.un .not (.t 13)), none, []⟩, ⟨(some 15), (.mv (.t 14)), none, []⟩, ⟨(some 16), (.mv (.t 0)), (some ⟨15, false⟩), []⟩, ⟨(some 17), (.len false (.t 16)), (some ⟨15, false⟩), []⟩, ⟨(some 18), (.bin .gtr (.t 17) (.c (.int .i64 100))), (some ⟨15, false⟩), []⟩, ⟨(some 19), (.pick (.t 15) (.c (.bool true)) (.t 18)), none, []⟩] false) (.cond (.t 19) (.seq (.reg [⟨(some 20), (.mv (.t 0)), none, []⟩, ⟨(some 21), (.len false (.t 20)), none, []⟩, ⟨(some 22), (.bin .gtr (.t 21) (.c (.int .i64 100))), none, []⟩, ⟨(some 6), (.asg (.t 22) none), none, []⟩] false) .ret) .skip)) (.seq (.reg [⟨(some 23), (.mv (.t 2)), none, []⟩, ⟨(some 24), (.call (.c (.clo 14 [])) [(.t 23), (.c (.int .i64 60))]), none, []⟩, ⟨(some 7), (.asg (.t 24) none), none, []⟩] false) (.seq (.reg [⟨(some 25), (.mv (.t 7)), none, []⟩, ⟨(some 26), (.call (.c (.clo 15 [])) [(.t 25), (.c (.int .i64 7)), (.c (.bool false))]), none, []⟩, ⟨(some 8), (.asg (.t 26) (some ⟨1, 43⟩)), none, []⟩] false) (.seq (.reg [⟨(some 27), (.mv (.t 8)), none, []⟩, ⟨(some 28), (.len false (.t 27)), none, []⟩, ⟨(some 29), (.mkS 1 43 24 (.sl []) (.t 28) (.t 28)), none, []⟩, ⟨(some 9), (.asg (.t 29) (some ⟨1, 43⟩)), none, []⟩] false) (.seq (.seq (.reg [⟨(some 10), (.asg (.c (.int .i64 0)) none), none, []⟩] false) (.block 0 (.loop (.seq (.seq (.reg [⟨(some 30), (.mv (.t 10)), none, []⟩, ⟨(some 31), (.mv (.t 8)), none, []⟩, ⟨(some 32), (.len false (.t 31)), none, []⟩, ⟨(some 33), (.bin .lss (.t 30) (.t 32)), none, []⟩] false) (.cond (.t 33) .skip (.exit 0))) (.seq (.block 1 (.seq (.reg [⟨(some 11), (.asg (.c (.int .i64 0)) none), none, []⟩] false) (.block 2 (.loop (.seq (.seq (.reg [⟨(some 36), (.mv (.t 11)), none, []⟩, ⟨(some 37), (.mv (.t 8)), none, []⟩, ⟨(some 38), (.mv (.t 10)), none, []⟩, ⟨(some 39), (.ixA 1 (.t 37) (.t 38)), none, []⟩, ⟨(some 40), (.ld 1 false (.t 39)), none, []⟩, ⟨(some 41), (.len false (.t 40)), none, []⟩, ⟨(some 42), (.bin .lss (.t 36) (.t 41)), none, []⟩] false) (.cond (.t 42) .skip (.exit 2))) (.seq (.block 3 (.seq (.reg [⟨(some 45), (.mv (.t 8)), none, []⟩, ⟨(some 46), (.mv (.t 10)), none, []⟩, ⟨(some 47), (.ixA 1 (.t 45) (.t 46)), none, []⟩, ⟨(some 48), (.ld 1 false (.t 47)), none, []⟩, ⟨(some 49), (.mv (.t 11)), none, []⟩, ⟨(some 50), (.ixA 1 (.t 48) (.t 49)), none, []⟩, ⟨(some 51), (.ld 1 false (.t 50)), none, []⟩, ⟨(some 12), (.asg (.t 51) none), none, []⟩] false) (.seq (.reg [⟨(some 52), (.mv (.t 12)), none, []⟩, ⟨(some 53), (.mv (.t 10)), none, []⟩, ⟨(some 54), (.bin .neq (.t 52) (.t 53)), none, []⟩] false) (.cond (.t 54) (.reg [⟨(some 55), (.mv (.t 9)), none, []⟩, ⟨(some 56), (.mv (.t 10)), none, []⟩, ⟨(some 57), (.mv (.t 9)), none, []⟩, ⟨(some 58), (.mv (.t 12)), none, []⟩, ⟨(some 59), (.mv (.t 9)), none, []⟩, ⟨(some 60), (.mv (.t 10)), none, []⟩, ⟨(some 61), (.ixA 1 (.t 59) (.t 60)), none, [4, 5]⟩, ⟨(some 62), (.ld 1 false (.t 61)), none, [6]⟩, ⟨(some 63), (.mv (.t 12)), none, []⟩, ⟨(some 64), (.call (.c (.clo 16 [])) [(.t 62), (.t 63)]), none, [7, 8]⟩, ⟨(some 65), (.mv (.t 9)), none, []⟩, ⟨(some 66), (.mv (.t 12)), none, []⟩, ⟨(some 67), (.ixA 1 (.t 65) (.t 66)), none, [10, 11]⟩, ⟨(some 68), (.ld 1 false (.t 67)), none, [12]⟩, ⟨(some 69), (.mv (.t 10)), none, []⟩, ⟨(some 70), (.call (.c (.clo 16 [])) [(.t 68), (.t 69)]), none, [13, 14, 9]⟩, ⟨(some 71), (.ixA 1 (.t 55) (.t 56)), none, [0, 1, 0, 1, 4, 5, 6, 7, 8, 9, 13, 15]⟩, ⟨none, (.st 1 (.t 71) (.t 64)), none, [16, 9, 15, 0, 1, 4, 5, 6, 7, 8, 9, 13, 15]⟩, ⟨(some 72), (.ixA 1 (.t 57) (.t 58)), none, [2, 3, 0, 1, 2, 3, 4, 5, 6, 7, 8, 9, 10, 11, 12, 13, 14, 15, 16, 17]⟩, ⟨none, (.st 1 (.t 72) (.t 70)), none, [18, 15, 17, 0, 1, 2, 3, 4, 5, 6, 7, 8, 9, 10, 11, 12, 13, 14, 15, 16, 17]⟩] true) .skip)))) (.reg [⟨(some 43), (.mv (.t 11)), none, []⟩, ⟨(some 44), (.bin .add (.t 43) (.c (.int .i64 1))), none, []⟩, ⟨(some 11), (.asg (.t 44) none), none, []⟩] false))))))) (.reg [⟨(some 34), (.mv (.t 10)), none, []⟩, ⟨(some 35), (.bin .add (.t 34) (.c (.int .i64 1))), none, []⟩, ⟨(some 10), (.asg (.t 35) none), none, []⟩] false)))))) (.seq (.reg [⟨(some 73), (.mv (.t 0)), none, []⟩, ⟨(some 74), (.mv (.t 1)), none, []⟩, ⟨(some 75), (.call (.c (.clo 17 [])) [(.t 73), (.t 74)]), none, []⟩, ⟨(some 76), (.mv (.t 0)), none, []⟩, ⟨(some 77), (.mv (.t 1)), none, []⟩, ⟨(some 78), (.call (.c (.clo 18 [])) [(.t 76), (.t 77)]), none, []⟩, ⟨(some 79), (.eqB false (.t 75) (.t 78)), none, []⟩, ⟨(some 80), (.mv (.t 79)), none, []⟩, ⟨(some 81), (.mv (.t 0)), (some ⟨80, true⟩), []⟩, ⟨(some 82), (.mv (.t 0)), (some ⟨80, true⟩), []⟩, ⟨(some 83), (.len false (.t 82)), (some ⟨80, true⟩), []⟩, ⟨(some 84), (.call (.c (.clo 17 [])) [(.t 81), (.t 83)]), (some ⟨80, true⟩), []⟩, ⟨(some 85), (.mv (.t 0)), (some ⟨80, true⟩), []⟩, ⟨(some 86), (.mv (.t 0)), (some ⟨80, true⟩), []⟩, ⟨(some 87), (.len false (.t 86)), (some ⟨80, true⟩), []⟩, ⟨(some 88), (.call (.c (.clo 18 [])) [(.t 85), (.t 87)]), (some ⟨80, true⟩), []⟩, ⟨(some 89), (.eqB false (.t 84) (.t 88)), (some ⟨80, true⟩), []⟩, ⟨(some 90), (.pick (.t 80) (.t 89) (.c (.bool false))), none, []⟩, ⟨(some 91), (.mv (.t 90)), none, []⟩, ⟨(some 92), (.mv (.t 8)), (some ⟨91, true⟩), []⟩, ⟨(some 93), (.mv (.t 8)), (some ⟨91, true⟩), []⟩, ⟨(some 94), (.len false (.t 93)), (some ⟨91, true⟩), []⟩, ⟨(some 95), (.call (.c (.clo 17 [])) [(.t 92), (.t 94)]), (some ⟨91, true⟩), []⟩, ⟨(some 96), (.mv (.t 8)), (some ⟨91, true⟩), []⟩, ⟨(some 97), (.mv (.t 8)), (some ⟨91, true⟩), []⟩, ⟨(some 98), (.len false (.t 97)), (some ⟨91, true⟩), []⟩, ⟨(some 99), (.call (.c (.clo 18 [])) [(.t 96), (.t 98)]), (some ⟨91, true⟩), []⟩, ⟨(some 100), (.eqB false (.t 95) (.t 99)), (some ⟨91, true⟩), []⟩, ⟨(some 101), (.pick (.t 91) (.t 100) (.c (.bool false))), none, []⟩, ⟨(some 102), (.mv (.t 101)), none, []⟩, ⟨(some 103), (.mv (.t 9)), (some ⟨102, true⟩), []⟩, ⟨(some 104), (.mv (.t 9)), (some ⟨102, true⟩), []⟩, ⟨(some 105), (.len false (.t 104)), (some ⟨102, true⟩), []⟩, ⟨(some 106), (.call (.c (.clo 17 [])) [(.t 103), (.t 105)]), (some ⟨102, true⟩), []⟩, ⟨(some 107), (.pick (.t 102) (.t 106) (.c (.bool false))), none, []⟩, ⟨(some 108), (.mv (.t 107)), none, []⟩, ⟨(some 109), (.mv (.t 9)), (some ⟨108, true⟩), []⟩, ⟨(some 110), (.call (.c (.clo 19 [])) [(.t 109)]), (some ⟨108, true⟩), []⟩, ⟨(some 111), (.mv (.t 9)), (some ⟨108, true⟩), []⟩, ⟨(some 112), (.call (.c (.clo 20 [])) [(.t 111)]), (some ⟨108, true⟩), []⟩, ⟨(some 113), (.bin .eql (.t 110) (.t 112)), (some ⟨108, true⟩), []⟩, ⟨(some 114), (.pick (.t 108) (.t 113) (.c (.bool false))), none, []⟩, ⟨(some 115), (.mv (.t 114)), none, []⟩, ⟨(some 116), (.mv (.t 8)), (some ⟨115, true⟩), []⟩, ⟨(some 117), (.call (.c (.clo 19 [])) [(.t 116)]), (some ⟨115, true⟩), []⟩, ⟨(some 118), (.mv (.t 8)), (some ⟨115, true⟩), []⟩, ⟨(some 119), (.call (.c (.clo 20 [])) [(.t 118)]), (some ⟨115, true⟩), []⟩, ⟨(some 120), (.bin .eql (.t 117) (.t 119)), (some ⟨115, true⟩), []⟩, ⟨(some 121), (.pick (.t 115) (.t 120) (.c (.bool false))), none, []⟩, ⟨(some 6), (.asg (.t 121) none), none, []⟩] false) .ret)))))))
theorem dc5_c : (Try.f5.body.bind (cCode Try.prog Try.f5.ntmps)) = some dc5 := by kernel_rfl
theorem dc5_r : Try.f5.results.toList.mapM (cRes Try.prog) = some [(.t 6)] := by kernel_rfl
def law18_InterfereCheck_enc (a : (List (List Int)) × Int × (List Int)) : List D := [.sl (a.1.map (eL eI64)), .int .i64 a.2.1, .sl (a.2.2.map eU8)]
def law18_InterfereCheck_dec (ds : List D) : (List (List Int)) × Int × (List Int) := ((uL (uL uI)) (ds.getD 0 .top), uI (ds.getD 1 .top), (uL uI) (ds.getD 2 .top))
theorem law18_InterfereCheck_de (a : (List (List Int)) × Int × (List Int)) : law18_InterfereCheck_dec (law18_InterfereCheck_enc a) = a := by simp [law18_InterfereCheck_dec, law18_InterfereCheck_enc, uI, uBo, uS, uL_e (u := (uL uI)) (en := (eL eI64)) (uL_e (u := uI) (en := eI64) (fun _ => rfl)), uL_e (u := uI) (en := eU8) (fun _ => rfl)]
def law18_InterfereCheck_R (b : Bool) : D := .bool b
def law18_InterfereCheck_E (_b : Bool) : List D := []
noncomputable def law18_InterfereCheck_S : Dw.Spec := fSpec [] .ground law18_InterfereCheck_enc law18_InterfereCheck_dec (fun a => law18_InterfereCheck a.1 a.2.1 a.2.2) law18_InterfereCheck_R law18_InterfereCheck_E
set_option maxHeartbeats 4000000 in
theorem law18_InterfereCheck_ok : SpecOk Try.prog 5 law18_InterfereCheck_S := by
  refine fn_ok (specs_ok (l := [(6, law18_awake_S), (14, draw_New_S), (15, draw_Codes_Graph_S), (16, ref04_Add_S), (17, interfere_Check_S), (18, ref18_Check_S), (19, interfere_Degree_S), (20, ref18_Degree_S)]) (by simp [law18_awake_ok, draw_New_ok, draw_Codes_Graph_ok, ref04_Add_ok, interfere_Check_ok, ref18_Check_ok, interfere_Degree_ok, ref18_Degree_ok])) Try.func5 (by decide) dc5_c dc5_r (np := 3) (by decide) law18_InterfereCheck_de (fun _ => rfl) ?_
  rintro ⟨g1, n2, codes3⟩
  show Tr (specs [(6, law18_awake_S), (14, draw_New_S), (15, draw_Codes_Graph_S), (16, ref04_Add_S), (17, interfere_Check_S), (18, ref18_Check_S), (19, interfere_Degree_S), (20, ref18_Degree_S)]) dc5 (kRet [] .ground [(.t 6)] 3 law18_InterfereCheck_R law18_InterfereCheck_E) ⟨[(0, .sl (g1.map (eL eI64))), (1, .int .i64 n2), (2, .sl (codes3.map eU8))], [], 3⟩ (law18_InterfereCheck g1 n2 codes3)
  unfold dc5 law18_InterfereCheck
  refine tr_seq ?_
  refine tr_reg ?_
  refine trO_asg rfl rfl ?_
  refine trO_nil ?_
  refine trX_seq ?_
  refine tr_seq_cut (E := fun (s : Unit) (g : Unit) => [(0, .sl (g1.map (eL eI64))), (1, .int .i64 n2), (2, .sl (codes3.map eU8))]) (O := fun s g => []) (j := fun s => law18_InterfereCheck_j1 codes3 g1 n2) ?_ ?_
  ·
    refine tr_seq ?_
    refine tr_reg ?_
    refine trO_bind fun r4 hr4 => ?_
    refine trO_call_ground () rfl rfl rfl law18_awake_de rfl rfl (by simp) rfl hr4 rfl ?_
    refine trO_un (w := .bool (!r4)) rfl rfl rfl rfl trivial ?_
    refine trO_mv rfl rfl ?_
    refine trO_split 15 (b := (!r4)) rfl ?_ ?_
    ·
      refine trO_off rfl ?_
      refine trO_off rfl ?_
      refine trO_off rfl ?_
      refine trO_pick_true rfl rfl rfl rfl ?_
      refine trO_nil ?_
      refine trX_seq ?_
      refine tr_cond_true rfl ?_
      refine tr_seq ?_
      refine tr_reg ?_
      refine trO_mv rfl rfl ?_
      refine trO_len_sl rfl rfl ?_
      refine trO_bin (v := .bool (decide ((g1.length : Int) > 100))) rfl rfl rfl rfl rfl ?_
      refine trO_asg rfl rfl ?_
      refine trO_nil ?_
      refine trX_seq ?_
      refine tr_ret ?_
      refine trX_cut_ret ?_
      exact ret_ground (b := (decide ((g1.length : Int) > 100))) rfl (by first | (simp; done) | (simp; omega)) rfl rfl (by first | (simp; done) | (simp; omega)) rfl
    ·
      refine trO_mv rfl rfl ?_
      refine trO_len_sl rfl rfl ?_
      refine trO_bin (v := .bool (decide ((g1.length : Int) > 100))) rfl rfl rfl rfl rfl ?_
      refine trO_pick_false rfl rfl rfl rfl ?_
      refine trO_nil ?_
      refine trX_seq ?_
      refine tr_cond (c := (decide ((g1.length : Int) > 100))) rfl ?_ ?_
      ·
        refine tr_seq ?_
        refine tr_reg ?_
        refine trO_mv rfl rfl ?_
        refine trO_len_sl rfl rfl ?_
        refine trO_bin (v := .bool (decide ((g1.length : Int) > 100))) rfl rfl rfl rfl rfl ?_
        refine trO_asg rfl rfl ?_
        refine trO_nil ?_
        refine trX_seq ?_
        refine tr_ret ?_
        refine trX_cut_ret ?_
        exact ret_ground (b := (decide ((g1.length : Int) > 100))) rfl (by first | (simp; done) | (simp; omega)) rfl rfl (by first | (simp; done) | (simp; omega)) rfl
      ·
        refine tr_skip ?_
        exact trX_cut (s := ()) () (has_exact ⟨rfl, rfl, rfl, trivial⟩ trivial)
  ·
    rintro ⟨⟩ ⟨⟩ nn
    show Tr _ _ _ ⟨[(0, .sl (g1.map (eL eI64))), (1, .int .i64 n2), (2, .sl (codes3.map eU8))], [], _⟩ (law18_InterfereCheck_j1 codes3 g1 n2)
    unfold law18_InterfereCheck_j1
    refine tr_seq ?_
    refine tr_reg ?_
    refine trO_mv rfl rfl ?_
    refine trO_bind fun r5 hr5 => ?_
    refine trO_call_ptr (codes3, 60) rfl rfl rfl draw_New_de rfl rfl (by simp) rfl hr5 ?_
    refine trO_asg rfl rfl ?_
    refine trO_nil ?_
    refine trX_seq ?_
    refine tr_seq ?_
    refine tr_reg ?_
    refine trO_mv rfl rfl ?_
    refine trO_bind fun r6 hr6 => ?_
    refine trO_call_row (l := r6.1) (en := (eL eI64)) (r5, 7, false) rfl rfl rfl draw_Codes_Graph_de rfl rfl (by simp) rfl hr6 rfl ?_
    refine trO_asg_own (l := r6.1) (en := (eL eI64)) rfl rfl rfl rfl ?_
    refine trO_nil ?_
    refine trX_seq ?_
    refine tr_seq ?_
    refine tr_reg ?_
    refine trO_mv rfl rfl ?_
    refine trO_len_own rfl rfl ?_
    refine trO_chk fun hq => ?_
    refine trO_mkS (q := ([] : List Int)) (eL eI64) rfl rfl rfl rfl hq rfl ?_
    refine trO_asg_own (l := List.replicate (r6.1.length : Int).toNat ([] : List Int)) (en := (eL eI64)) rfl rfl rfl rfl ?_
    refine trO_nil ?_
    refine trX_seq ?_
    refine tr_seq ?_
    refine tr_seq ?_
    refine tr_reg ?_
    refine trO_asg rfl rfl ?_
    refine trO_nil ?_
    refine trX_seq ?_
    refine tr_block ?_
    refine tr_loop (E := fun (s : (List (List Int)) × Int) (g : Nat × Nat) => [(0, .sl (g1.map (eL eI64))), (1, .int .i64 n2), (8, .osl 8 g.1 0 r6.1.length), (9, .osl 9 g.2 0 s.1.length), (10, .int .i64 s.2)]) (O := fun s g => [(8, some (g.1, ⟨false, false, 1, 43, r6.1.map (eL eI64)⟩)), (9, some (g.2, ⟨false, false, 1, 43, s.1.map (eL eI64)⟩))]) (body := fun s => law18_InterfereCheck_b2 r6 g1 n2 s.1 s.2) (s := (List.replicate (r6.1.length : Int).toNat ([] : List Int), 0)) (_, _) (has_exact ⟨rfl, rfl, rfl, rfl, rfl, trivial⟩ ⟨rfl, rfl, trivial⟩) ?_
    rintro ⟨y7, i8⟩ ⟨v8, v9⟩ nn
    show Tr _ _ _ ⟨[(0, .sl (g1.map (eL eI64))), (1, .int .i64 n2), (8, .osl 8 v8 0 r6.1.length), (9, .osl 9 v9 0 y7.length), (10, .int .i64 i8)], [(8, some (v8, ⟨false, false, 1, 43, r6.1.map (eL eI64)⟩)), (9, some (v9, ⟨false, false, 1, 43, y7.map (eL eI64)⟩))], _⟩ (law18_InterfereCheck_b2 r6 g1 n2 y7 i8)
    unfold law18_InterfereCheck_b2
    refine tr_seq ?_
    refine tr_seq ?_
    refine tr_reg ?_
    refine trO_mv rfl rfl ?_
    refine trO_mv rfl rfl ?_
    refine trO_len_own rfl rfl ?_
    refine trO_bin (v := .bool (decide (i8 < (r6.1.length : Int)))) rfl rfl rfl rfl rfl ?_
    refine trO_nil ?_
    refine trX_seq ?_
    refine tr_cond (c := (decide (i8 < (r6.1.length : Int)))) rfl ?_ ?_
    ·
      refine tr_skip ?_
      refine trX_seq ?_
      refine tr_seq_blk_cut (E := fun (s : (List (List Int))) (g : Nat × Nat) => [(0, .sl (g1.map (eL eI64))), (1, .int .i64 n2), (8, .osl 8 g.1 0 r6.1.length), (9, .osl 9 g.2 0 s.length), (10, .int .i64 i8)]) (O := fun s g => [(8, some (g.1, ⟨false, false, 1, 43, r6.1.map (eL eI64)⟩)), (9, some (g.2, ⟨false, false, 1, 43, s.map (eL eI64)⟩))]) (j := fun s => law18_InterfereCheck_j3 i8 s) ?_ ?_
      ·
        refine tr_seq ?_
        refine tr_reg ?_
        refine trO_asg rfl rfl ?_
        refine trO_nil ?_
        refine trX_seq ?_
        refine tr_block ?_
        refine tr_loop (E := fun (s : (List (List Int)) × Int) (g : Nat × Nat) => [(0, .sl (g1.map (eL eI64))), (1, .int .i64 n2), (8, .osl 8 g.1 0 r6.1.length), (9, .osl 9 g.2 0 s.1.length), (10, .int .i64 i8), (11, .int .i64 s.2)]) (O := fun s g => [(8, some (g.1, ⟨false, false, 1, 43, r6.1.map (eL eI64)⟩)), (9, some (g.2, ⟨false, false, 1, 43, s.1.map (eL eI64)⟩))]) (body := fun s => law18_InterfereCheck_b4 i8 r6 s.1 s.2) (s := (y7, 0)) (_, _) (has_exact ⟨rfl, rfl, rfl, rfl, rfl, rfl, trivial⟩ ⟨rfl, rfl, trivial⟩) ?_
        rintro ⟨y10, k11⟩ ⟨v8, v9⟩ nn
        show Tr _ _ _ ⟨[(0, .sl (g1.map (eL eI64))), (1, .int .i64 n2), (8, .osl 8 v8 0 r6.1.length), (9, .osl 9 v9 0 y10.length), (10, .int .i64 i8), (11, .int .i64 k11)], [(8, some (v8, ⟨false, false, 1, 43, r6.1.map (eL eI64)⟩)), (9, some (v9, ⟨false, false, 1, 43, y10.map (eL eI64)⟩))], _⟩ (law18_InterfereCheck_b4 i8 r6 y10 k11)
        unfold law18_InterfereCheck_b4
        refine tr_seq ?_
        refine tr_seq ?_
        refine tr_reg ?_
        refine trO_mv rfl rfl ?_
        refine trO_mv rfl rfl ?_
        refine trO_mv rfl rfl ?_
        refine trO_chk fun hq => ?_
        refine trO_ixA_own (l := r6.1) (en := (eL eI64)) rfl rfl rfl rfl rfl hq ?_
        refine trO_bind fun x_e12 hx_e12 => ?_
        refine trO_ld_obj (v := .sl (x_e12.map eI64)) (z := (eL eI64) x_e12) rfl rfl rfl (map_get hx_e12) rfl rfl ?_
        refine trO_len_sl rfl rfl ?_
        refine trO_bin (v := .bool (decide (k11 < (x_e12.length : Int)))) rfl rfl rfl rfl rfl ?_
        refine trO_nil ?_
        refine trX_seq ?_
        refine tr_cond (c := (decide (k11 < (x_e12.length : Int)))) rfl ?_ ?_
        ·
          refine tr_skip ?_
          refine trX_seq ?_
          refine tr_seq ?_
          refine tr_block ?_
          refine tr_seq ?_
          refine tr_reg ?_
          refine trO_mv rfl rfl ?_
          refine trO_mv rfl rfl ?_
          refine trO_chk fun hq => ?_
          refine trO_ixA_own (l := r6.1) (en := (eL eI64)) rfl rfl rfl rfl rfl hq ?_
          refine trO_bind fun x_e13 hx_e13 => ?_
          refine trO_ld_obj (v := .sl (x_e13.map eI64)) (z := (eL eI64) x_e13) rfl rfl rfl (map_get hx_e13) rfl rfl ?_
          refine trO_mv rfl rfl ?_
          refine trO_bind fun x_x14 hx_x14 => ?_
          refine trO_ixA_sl (en := eI64) rfl rfl rfl hx_x14 rfl ?_
          refine trO_ld_f (v := .int .i64 x_x14) rfl rfl rfl rfl ?_
          refine trO_asg rfl rfl ?_
          refine trO_nil ?_
          refine trX_seq ?_
          refine tr_seq ?_
          refine tr_reg ?_
          refine trO_mv rfl rfl ?_
          refine trO_mv rfl rfl ?_
          refine trO_bin (v := .bool (x_x14 != i8)) rfl rfl rfl rfl rfl ?_
          refine trO_nil ?_
          refine trX_seq ?_
          refine tr_cond (c := (x_x14 != i8)) rfl ?_ ?_
          ·
            refine tr_reg ?_
            refine trO_mv rfl rfl ?_
            refine trO_mv rfl rfl ?_
            refine trO_mv rfl rfl ?_
            refine trO_mv rfl rfl ?_
            refine trO_mv rfl rfl ?_
            refine trO_mv rfl rfl ?_
            refine trO_chk fun hq => ?_
            refine trO_ixA_own (l := y10) (en := (eL eI64)) rfl rfl rfl rfl rfl hq ?_
            refine trO_bind fun y_e15 hy_e15 => ?_
            refine trO_ld_obj (v := .sl (y_e15.map eI64)) (z := (eL eI64) y_e15) rfl rfl rfl (map_get hy_e15) rfl rfl ?_
            refine trO_mv rfl rfl ?_
            refine trO_bind fun r16 hr16 => ?_
            refine trO_call_row (l := r16) (en := eI64) (y_e15, x_x14) rfl rfl rfl ref04_Add_de rfl rfl (by simp) rfl hr16 rfl ?_
            refine trO_mv rfl rfl ?_
            refine trO_mv rfl rfl ?_
            refine trO_chk fun hq => ?_
            refine trO_ixA_own (l := y10) (en := (eL eI64)) rfl rfl rfl rfl rfl hq ?_
            refine trO_bind fun y_e17 hy_e17 => ?_
            refine trO_ld_obj (v := .sl (y_e17.map eI64)) (z := (eL eI64) y_e17) rfl rfl rfl (map_get hy_e17) rfl rfl ?_
            refine trO_mv rfl rfl ?_
            refine trO_bind fun r18 hr18 => ?_
            refine trO_call_row (l := r18) (en := eI64) (y_e17, i8) rfl rfl rfl ref04_Add_de rfl rfl (by simp) rfl hr18 rfl ?_
            refine trO_chk fun hq => ?_
            refine trO_ixA_own (l := y10) (en := (eL eI64)) rfl rfl rfl rfl rfl hq ?_
            refine trO_bind fun y_o19 hy_o19 => ?_
            refine trO_st_elem (l := y10) (en := (eL eI64)) (q' := r16) rfl rfl rfl rfl rfl rfl rfl (by simp) hy_o19 rfl rfl rfl (by simp [setE, cells, setAt, eL]) rfl ?_
            refine trO_chk fun hq => ?_
            refine trO_ixA_own (l := y10.set i8.toNat r16) (en := (eL eI64)) (by simp) rfl rfl rfl rfl hq ?_
            refine trO_bind fun y_o20 hy_o20 => ?_
            refine trO_st_elem (l := y10.set i8.toNat r16) (en := (eL eI64)) (q' := r18) rfl rfl rfl rfl rfl rfl rfl (by simp) hy_o20 rfl rfl rfl (by simp [setE, cells, setAt, eL]) rfl ?_
            refine trO_nil_draw (by kernel_rfl) ?_
            refine trX_blk_normal ?_
            refine trX_seq ?_
            refine tr_reg ?_
            refine trO_mv rfl rfl ?_
            refine trO_bin (v := .int .i64 (IntKind.i64.wrap (k11 + 1))) rfl rfl rfl rfl rfl ?_
            refine trO_asg rfl rfl ?_
            refine trO_nil ?_
            exact trX_loop (s := ((y10.set i8.toNat r16).set x_x14.toNat r18, IntKind.i64.wrap (k11 + 1))) (_, _) (has_exact ⟨rfl, rfl, rfl, (osl_len (q := y10.length) rfl (by simp)), rfl, rfl, trivial⟩ ⟨rfl, rfl, trivial⟩)
          ·
            refine tr_skip ?_
            refine trX_blk_normal ?_
            refine trX_seq ?_
            refine tr_reg ?_
            refine trO_mv rfl rfl ?_
            refine trO_bin (v := .int .i64 (IntKind.i64.wrap (k11 + 1))) rfl rfl rfl rfl rfl ?_
            refine trO_asg rfl rfl ?_
            refine trO_nil ?_
            exact trX_loop (s := (y10, IntKind.i64.wrap (k11 + 1))) (_, _) (has_exact ⟨rfl, rfl, rfl, rfl, rfl, rfl, trivial⟩ ⟨rfl, rfl, trivial⟩)
        ·
          refine tr_exit ?_
          refine trX_seq_exit ?_
          refine trX_loop_exit ?_
          refine trX_blk_here ?_
          exact trX_bcut_normal (s := y10) (_, _) (has_exact ⟨rfl, rfl, rfl, rfl, rfl, trivial⟩ ⟨rfl, rfl, trivial⟩)
      ·
        rintro y9 ⟨v8, v9⟩ nn
        show Tr _ _ _ ⟨[(0, .sl (g1.map (eL eI64))), (1, .int .i64 n2), (8, .osl 8 v8 0 r6.1.length), (9, .osl 9 v9 0 y9.length), (10, .int .i64 i8)], [(8, some (v8, ⟨false, false, 1, 43, r6.1.map (eL eI64)⟩)), (9, some (v9, ⟨false, false, 1, 43, y9.map (eL eI64)⟩))], _⟩ (law18_InterfereCheck_j3 i8 y9)
        unfold law18_InterfereCheck_j3
        refine tr_reg ?_
        refine trO_mv rfl rfl ?_
        refine trO_bin (v := .int .i64 (IntKind.i64.wrap (i8 + 1))) rfl rfl rfl rfl rfl ?_
        refine trO_asg rfl rfl ?_
        refine trO_nil ?_
        exact trX_loop (s := (y9, IntKind.i64.wrap (i8 + 1))) (_, _) (has_exact ⟨rfl, rfl, rfl, rfl, rfl, trivial⟩ ⟨rfl, rfl, trivial⟩)
    ·
      refine tr_exit ?_
      refine trX_seq_exit ?_
      refine trX_loop_exit ?_
      refine trX_blk_here ?_
      refine trX_seq ?_
      refine tr_seq ?_
      refine tr_reg ?_
      refine trO_mv rfl rfl ?_
      refine trO_mv rfl rfl ?_
      refine trO_bind fun r21 hr21 => ?_
      refine trO_call_ground (g1, n2) rfl rfl rfl interfere_Check_de rfl rfl (by simp) rfl hr21 rfl ?_
      refine trO_mv rfl rfl ?_
      refine trO_mv rfl rfl ?_
      refine trO_bind fun r22 hr22 => ?_
      refine trO_call_ground (g1, n2) rfl rfl rfl ref18_Check_de rfl rfl (by simp) rfl hr22 rfl ?_
      refine trO_eqB rfl rfl rfl ?_
      refine trO_mv rfl rfl ?_
      refine trO_split 80 (b := (r21 == r22)) rfl ?_ ?_
      ·
        refine trO_mv rfl rfl ?_
        refine trO_mv rfl rfl ?_
        refine trO_len_sl rfl rfl ?_
        refine trO_bind fun r23 hr23 => ?_
        refine trO_call_ground (g1, (g1.length : Int)) rfl rfl rfl interfere_Check_de rfl rfl (by simp) rfl hr23 rfl ?_
        refine trO_mv rfl rfl ?_
        refine trO_mv rfl rfl ?_
        refine trO_len_sl rfl rfl ?_
        refine trO_bind fun r24 hr24 => ?_
        refine trO_call_ground (g1, (g1.length : Int)) rfl rfl rfl ref18_Check_de rfl rfl (by simp) rfl hr24 rfl ?_
        refine trO_eqB rfl rfl rfl ?_
        refine trO_pick_true rfl rfl rfl rfl ?_
        refine trO_mv rfl rfl ?_
        refine trO_split 91 (b := (r23 == r24)) rfl ?_ ?_
        ·
          refine trO_mv rfl rfl ?_
          refine trO_mv rfl rfl ?_
          refine trO_len_own rfl rfl ?_
          refine trO_bind fun r25 hr25 => ?_
          refine trO_call_ground (r6.1, (r6.1.length : Int)) rfl rfl rfl interfere_Check_de rfl rfl (by simp) (by first | rfl | (simp only [take_drop0_map, take_sub_map]; rfl) | simp [interfere_Check_enc]) hr25 rfl ?_
          refine trO_mv rfl rfl ?_
          refine trO_mv rfl rfl ?_
          refine trO_len_own rfl rfl ?_
          refine trO_bind fun r26 hr26 => ?_
          refine trO_call_ground (r6.1, (r6.1.length : Int)) rfl rfl rfl ref18_Check_de rfl rfl (by simp) (by first | rfl | (simp only [take_drop0_map, take_sub_map]; rfl) | simp [ref18_Check_enc]) hr26 rfl ?_
          refine trO_eqB rfl rfl rfl ?_
          refine trO_pick_true rfl rfl rfl rfl ?_
          refine trO_mv rfl rfl ?_
          refine trO_split 102 (b := (r25 == r26)) rfl ?_ ?_
          ·
            refine trO_mv rfl rfl ?_
            refine trO_mv rfl rfl ?_
            refine trO_len_own rfl rfl ?_
            refine trO_bind fun r27 hr27 => ?_
            refine trO_call_ground (y7, (y7.length : Int)) rfl rfl rfl interfere_Check_de rfl rfl (by simp) (by first | rfl | (simp only [take_drop0_map, take_sub_map]; rfl) | simp [interfere_Check_enc]) hr27 rfl ?_
            refine trO_pick_true rfl rfl rfl rfl ?_
            refine trO_mv rfl rfl ?_
            refine trO_split 108 (b := r27) rfl ?_ ?_
            ·
              refine trO_mv rfl rfl ?_
              refine trO_bind fun r28 hr28 => ?_
              refine trO_call_ground y7 rfl rfl rfl interfere_Degree_de rfl rfl (by simp) (by first | rfl | (simp only [take_drop0_map, take_sub_map]; rfl) | simp [interfere_Degree_enc]) hr28 rfl ?_
              refine trO_mv rfl rfl ?_
              refine trO_bind fun r29 hr29 => ?_
              refine trO_call_ground y7 rfl rfl rfl ref18_Degree_de rfl rfl (by simp) (by first | rfl | (simp only [take_drop0_map, take_sub_map]; rfl) | simp [ref18_Degree_enc]) hr29 rfl ?_
              refine trO_bin (v := .bool (r28 == r29)) rfl rfl rfl rfl rfl ?_
              refine trO_pick_true rfl rfl rfl rfl ?_
              refine trO_mv rfl rfl ?_
              refine trO_split 115 (b := (r28 == r29)) rfl ?_ ?_
              ·
                refine trO_mv rfl rfl ?_
                refine trO_bind fun r30 hr30 => ?_
                refine trO_call_ground r6.1 rfl rfl rfl interfere_Degree_de rfl rfl (by simp) (by first | rfl | (simp only [take_drop0_map, take_sub_map]; rfl) | simp [interfere_Degree_enc]) hr30 rfl ?_
                refine trO_mv rfl rfl ?_
                refine trO_bind fun r31 hr31 => ?_
                refine trO_call_ground r6.1 rfl rfl rfl ref18_Degree_de rfl rfl (by simp) (by first | rfl | (simp only [take_drop0_map, take_sub_map]; rfl) | simp [ref18_Degree_enc]) hr31 rfl ?_
                refine trO_bin (v := .bool (r30 == r31)) rfl rfl rfl rfl rfl ?_
                refine trO_pick_true rfl rfl rfl rfl ?_
                refine trO_asg rfl rfl ?_
                refine trO_nil ?_
                refine trX_seq ?_
                refine tr_ret ?_
                exact ret_ground (b := (r30 == r31)) rfl (by first | (simp; done) | (simp; omega)) rfl rfl (by first | (simp; done) | (simp; omega)) rfl
              ·
                refine trO_off rfl ?_
                refine trO_off rfl ?_
                refine trO_off rfl ?_
                refine trO_off rfl ?_
                refine trO_off rfl ?_
                refine trO_pick_false rfl rfl rfl rfl ?_
                refine trO_asg rfl rfl ?_
                refine trO_nil ?_
                refine trX_seq ?_
                refine tr_ret ?_
                exact ret_ground (b := false) rfl (by first | (simp; done) | (simp; omega)) rfl rfl (by first | (simp; done) | (simp; omega)) rfl
            ·
              refine trO_off rfl ?_
              refine trO_off rfl ?_
              refine trO_off rfl ?_
              refine trO_off rfl ?_
              refine trO_off rfl ?_
              refine trO_pick_false rfl rfl rfl rfl ?_
              refine trO_mv rfl rfl ?_
              refine trO_off rfl ?_
              refine trO_off rfl ?_
              refine trO_off rfl ?_
              refine trO_off rfl ?_
              refine trO_off rfl ?_
              refine trO_pick_false rfl rfl rfl rfl ?_
              refine trO_asg rfl rfl ?_
              refine trO_nil ?_
              refine trX_seq ?_
              refine tr_ret ?_
              exact ret_ground (b := false) rfl (by first | (simp; done) | (simp; omega)) rfl rfl (by first | (simp; done) | (simp; omega)) rfl
          ·
            refine trO_off rfl ?_
            refine trO_off rfl ?_
            refine trO_off rfl ?_
            refine trO_off rfl ?_
            refine trO_pick_false rfl rfl rfl rfl ?_
            refine trO_mv rfl rfl ?_
            refine trO_off rfl ?_
            refine trO_off rfl ?_
            refine trO_off rfl ?_
            refine trO_off rfl ?_
            refine trO_off rfl ?_
            refine trO_pick_false rfl rfl rfl rfl ?_
            refine trO_mv rfl rfl ?_
            refine trO_off rfl ?_
            refine trO_off rfl ?_
            refine trO_off rfl ?_
            refine trO_off rfl ?_
            refine trO_off rfl ?_
            refine trO_pick_false rfl rfl rfl rfl ?_
            refine trO_asg rfl rfl ?_
            refine trO_nil ?_
            refine trX_seq ?_
            refine tr_ret ?_
            exact ret_ground (b := false) rfl (by first | (simp; done) | (simp; omega)) rfl rfl (by first | (simp; done) | (simp; omega)) rfl
        ·
          refine trO_off rfl ?_
          refine trO_off rfl ?_
          refine trO_off rfl ?_
          refine trO_off rfl ?_
          refine trO_off rfl ?_
          refine trO_off rfl ?_
          refine trO_off rfl ?_
          refine trO_off rfl ?_
          refine trO_off rfl ?_
          refine trO_pick_false rfl rfl rfl rfl ?_
          refine trO_mv rfl rfl ?_
          refine trO_off rfl ?_
          refine trO_off rfl ?_
          refine trO_off rfl ?_
          refine trO_off rfl ?_
          refine trO_pick_false rfl rfl rfl rfl ?_
          refine trO_mv rfl rfl ?_
          refine trO_off rfl ?_
          refine trO_off rfl ?_
          refine trO_off rfl ?_
          refine trO_off rfl ?_
          refine trO_off rfl ?_
          refine trO_pick_false rfl rfl rfl rfl ?_
          refine trO_mv rfl rfl ?_
          refine trO_off rfl ?_
          refine trO_off rfl ?_
          refine trO_off rfl ?_
          refine trO_off rfl ?_
          refine trO_off rfl ?_
          refine trO_pick_false rfl rfl rfl rfl ?_
          refine trO_asg rfl rfl ?_
          refine trO_nil ?_
          refine trX_seq ?_
          refine tr_ret ?_
          exact ret_ground (b := false) rfl (by first | (simp; done) | (simp; omega)) rfl rfl (by first | (simp; done) | (simp; omega)) rfl
      ·
        refine trO_off rfl ?_
        refine trO_off rfl ?_
        refine trO_off rfl ?_
        refine trO_off rfl ?_
        refine trO_off rfl ?_
        refine trO_off rfl ?_
        refine trO_off rfl ?_
        refine trO_off rfl ?_
        refine trO_off rfl ?_
        refine trO_pick_false rfl rfl rfl rfl ?_
        refine trO_mv rfl rfl ?_
        refine trO_off rfl ?_
        refine trO_off rfl ?_
        refine trO_off rfl ?_
        refine trO_off rfl ?_
        refine trO_off rfl ?_
        refine trO_off rfl ?_
        refine trO_off rfl ?_
        refine trO_off rfl ?_
        refine trO_off rfl ?_
        refine trO_pick_false rfl rfl rfl rfl ?_
        refine trO_mv rfl rfl ?_
        refine trO_off rfl ?_
        refine trO_off rfl ?_
        refine trO_off rfl ?_
        refine trO_off rfl ?_
        refine trO_pick_false rfl rfl rfl rfl ?_
        refine trO_mv rfl rfl ?_
        refine trO_off rfl ?_
        refine trO_off rfl ?_
        refine trO_off rfl ?_
        refine trO_off rfl ?_
        refine trO_off rfl ?_
        refine trO_pick_false rfl rfl rfl rfl ?_
        refine trO_mv rfl rfl ?_
        refine trO_off rfl ?_
        refine trO_off rfl ?_
        refine trO_off rfl ?_
        refine trO_off rfl ?_
        refine trO_off rfl ?_
        refine trO_pick_false rfl rfl rfl rfl ?_
        refine trO_asg rfl rfl ?_
        refine trO_nil ?_
        refine trX_seq ?_
        refine tr_ret ?_
        exact ret_ground (b := false) rfl (by first | (simp; done) | (simp; omega)) rfl rfl (by first | (simp; done) | (simp; omega)) rfl

end Go.Proofs.Ytihomlbcppfngaa
