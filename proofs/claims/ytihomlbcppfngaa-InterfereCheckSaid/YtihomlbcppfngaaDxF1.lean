/-
  Programs on typed data, and the proofs that the code does what they say; written by a program (dx.py).
-/
import Derived.Test.YtihomlbcppfngaaProg
import Derived.Test.YtihomlbcppfngaaDx4
import Derived.KernelRfl
import Derived.Test.YtihomlbcppfngaaDxP
namespace Go.Proofs.Ytihomlbcppfngaa
open Go Go.Dw Go.Proofs
set_option maxRecDepth 100000
def dc39 : DCode := (.seq (.reg [⟨(some 3), (.box (.t 1) 2 36), none, []⟩, ⟨(some 4), (.asg (.c (.int .i64 0)) none), none, []⟩] false) (.seq (.seq (.reg [⟨(some 6), (.mv (.t 0)), none, []⟩, ⟨(some 7), (.len false (.t 6)), none, []⟩, ⟨(some 8), (.mv (.c (.int .i64 0))), none, []⟩] false) (.block 0 (.loop (.seq (.reg [⟨(some 9), (.bin .lss (.t 8) (.t 7)), none, []⟩] false) (.seq (.cond (.t 9) .skip (.exit 0)) (.seq (.block 1 (.seq (.reg [⟨(some 10), (.mv (.t 8)), none, []⟩, ⟨(some 5), (.asg (.t 10) none), none, []⟩] false) (.seq (.reg [⟨(some 11), (.ld 2 true (.t 3)), none, []⟩, ⟨(some 12), (.mv (.t 0)), none, []⟩, ⟨(some 13), (.mv (.t 5)), none, []⟩, ⟨(some 14), (.ixA 2 (.t 12) (.t 13)), none, [1, 2]⟩, ⟨(some 15), (.ld 2 true (.t 14)), none, [3]⟩, ⟨(some 16), (.eqA 2 false (.t 11) (.t 15)), none, [0, 4]⟩] true) (.cond (.t 16) (.seq (.reg [⟨(some 17), (.mv (.t 5)), none, []⟩, ⟨(some 4), (.asg (.t 17) none), none, []⟩] false) .ret) .skip)))) (.reg [⟨(some 18), (.bin .add (.t 8) (.c (.int .i64 1))), none, []⟩, ⟨(some 8), (.mv (.t 18)), none, []⟩] false))))))) (.seq (.reg [⟨(some 4), (.asg (.c (.int .i64 (-1))) none), none, []⟩] false) .ret)))
theorem dc39_c : (Try.f39.body.bind (cCode Try.prog Try.f39.ntmps)) = some dc39 := by kernel_rfl
theorem dc39_r : Try.f39.results.toList.mapM (cRes Try.prog) = some [(.t 4)] := by kernel_rfl
def slices_Index_2_int_2_int_enc (a : (List TA2_Int) × TA2_Int) : List D := [.sl (a.1.map eA2_Int), eA2_Int a.2]
def slices_Index_2_int_2_int_dec (ds : List D) : (List TA2_Int) × TA2_Int := ((uL uA2_Int) (ds.getD 0 .top), uA2_Int (ds.getD 1 .top))
theorem slices_Index_2_int_2_int_de (a : (List TA2_Int) × TA2_Int) : slices_Index_2_int_2_int_dec (slices_Index_2_int_2_int_enc a) = a := by simp [slices_Index_2_int_2_int_dec, slices_Index_2_int_2_int_enc, uI, uBo, uS, uL_e (u := uA2_Int) (en := eA2_Int) uA2_Int_e]
def slices_Index_2_int_2_int_R (b : Int) : D := .int .i64 b
def slices_Index_2_int_2_int_E (_b : Int) : List D := []
noncomputable def slices_Index_2_int_2_int_S : Dw.Spec := fSpec [] .ground slices_Index_2_int_2_int_enc slices_Index_2_int_2_int_dec (fun a => slices_Index_2_int_2_int a.1 a.2) slices_Index_2_int_2_int_R slices_Index_2_int_2_int_E
set_option maxHeartbeats 4000000 in
theorem slices_Index_2_int_2_int_ok : SpecOk Try.prog 39 slices_Index_2_int_2_int_S := by
  refine fn_ok (specs_nil) Try.func39 (by decide) dc39_c dc39_r (np := 2) (by decide) slices_Index_2_int_2_int_de (fun _ => rfl) ?_
  rintro ⟨s1, v2⟩
  show Tr (specs []) dc39 (kRet [] .ground [(.t 4)] 2 slices_Index_2_int_2_int_R slices_Index_2_int_2_int_E) ⟨[(0, .sl (s1.map eA2_Int)), (1, .agg [.int .i64 v2.a0, .int .i64 v2.a1])], [], 2⟩ (slices_Index_2_int_2_int s1 v2)
  unfold dc39 slices_Index_2_int_2_int
  refine tr_seq ?_
  refine tr_reg ?_
  refine trO_box rfl rfl rfl rfl rfl ?_
  refine trO_asg rfl rfl ?_
  refine trO_nil ?_
  refine trX_seq ?_
  refine tr_seq ?_
  refine tr_seq ?_
  refine tr_reg ?_
  refine trO_mv rfl rfl ?_
  refine trO_len_sl rfl rfl ?_
  refine trO_mv rfl rfl ?_
  refine trO_nil ?_
  refine trX_seq ?_
  refine tr_block ?_
  refine tr_loop (E := fun (s : Int) (g : Nat) => [(0, .sl (s1.map eA2_Int)), (3, .optr 3 g 0 0), (7, .int .i64 (s1.length : Int)), (8, .int .i64 s)]) (O := fun s g => [(3, some (g, ⟨false, true, 2, 36, [.agg [.int .i64 v2.a0, .int .i64 v2.a1]]⟩))]) (body := fun s => slices_Index_2_int_2_int_b1 s1 v2 s) (s := 0) _ (has_exact ⟨rfl, rfl, rfl, rfl, trivial⟩ ⟨rfl, trivial⟩) ?_
  rintro x3 v3 nn
  show Tr _ _ _ ⟨[(0, .sl (s1.map eA2_Int)), (3, .optr 3 v3 0 0), (7, .int .i64 (s1.length : Int)), (8, .int .i64 x3)], [(3, some (v3, ⟨false, true, 2, 36, [.agg [.int .i64 v2.a0, .int .i64 v2.a1]]⟩))], _⟩ (slices_Index_2_int_2_int_b1 s1 v2 x3)
  unfold slices_Index_2_int_2_int_b1
  refine tr_seq ?_
  refine tr_reg ?_
  refine trO_bin (v := .bool (decide (x3 < (s1.length : Int)))) rfl rfl rfl rfl rfl ?_
  refine trO_nil ?_
  refine trX_seq ?_
  refine tr_seq ?_
  refine tr_cond (c := (decide (x3 < (s1.length : Int)))) rfl ?_ ?_
  ·
    refine tr_skip ?_
    refine trX_seq ?_
    refine tr_seq ?_
    refine tr_block ?_
    refine tr_seq ?_
    refine tr_reg ?_
    refine trO_mv rfl rfl ?_
    refine trO_asg rfl rfl ?_
    refine trO_nil ?_
    refine trX_seq ?_
    refine tr_seq ?_
    refine tr_reg ?_
    refine trO_ld_obj (v := .agg [.int .i64 v2.a0, .int .i64 v2.a1]) (z := .agg [.int .i64 v2.a0, .int .i64 v2.a1]) rfl rfl rfl rfl rfl rfl ?_
    refine trO_mv rfl rfl ?_
    refine trO_mv rfl rfl ?_
    refine trO_bind fun x_x4 hx_x4 => ?_
    refine trO_ixA_sl (en := eA2_Int) rfl rfl rfl hx_x4 rfl ?_
    refine trO_ld_f (v := .agg [.int .i64 x_x4.a0, .int .i64 x_x4.a1]) rfl rfl rfl rfl ?_
    refine trO_eqA (p := ((v2.a0 == x_x4.a0) && ((v2.a1 == x_x4.a1) && true))) rfl rfl rfl rfl ⟨rfl, ⟨rfl, trivial⟩⟩ rfl ?_
    refine trO_nil_draw (by kernel_rfl) ?_
    refine trX_seq ?_
    refine tr_cond (c := ((v2.a0 == x_x4.a0) && ((v2.a1 == x_x4.a1) && true))) rfl ?_ ?_
    ·
      refine tr_seq ?_
      refine tr_reg ?_
      refine trO_mv rfl rfl ?_
      refine trO_asg rfl rfl ?_
      refine trO_nil ?_
      refine trX_seq ?_
      refine tr_ret ?_
      refine trX_blk_ret ?_
      refine trX_seq_ret ?_
      refine trX_loop_ret ?_
      refine trX_blk_ret ?_
      refine trX_seq_ret ?_
      exact ret_ground (b := x3) rfl (by first | (simp; done) | (simp; omega)) rfl rfl (by first | (simp; done) | (simp; omega)) rfl
    ·
      refine tr_skip ?_
      refine trX_blk_normal ?_
      refine trX_seq ?_
      refine tr_reg ?_
      refine trO_bin (v := .int .i64 (IntKind.i64.wrap (x3 + 1))) rfl rfl rfl rfl rfl ?_
      refine trO_mv rfl rfl ?_
      refine trO_nil ?_
      exact trX_loop (s := IntKind.i64.wrap (x3 + 1)) _ (has_exact ⟨rfl, rfl, rfl, rfl, trivial⟩ ⟨rfl, trivial⟩)
  ·
    refine tr_exit ?_
    refine trX_seq_exit ?_
    refine trX_loop_exit ?_
    refine trX_blk_here ?_
    refine trX_seq ?_
    refine tr_seq ?_
    refine tr_reg ?_
    refine trO_asg rfl rfl ?_
    refine trO_nil ?_
    refine trX_seq ?_
    refine tr_ret ?_
    exact ret_ground (b := (-1)) rfl (by first | (simp; done) | (simp; omega)) rfl rfl (by first | (simp; done) | (simp; omega)) rfl

def dc24 : DCode := (.seq (.reg [⟨(some 3), (.box (.t 1) 2 36), none, []⟩, ⟨(some 4), (.asg (.c (.bool false)) none), none, []⟩] false) (.seq (.reg [⟨(some 5), (.mv (.t 0)), none, []⟩, ⟨(some 6), (.ld 2 true (.t 3)), none, []⟩, ⟨(some 7), (.call (.c (.clo 39 [])) [(.t 5), (.t 6)]), none, []⟩, ⟨(some 8), (.bin .geq (.t 7) (.c (.int .i64 0))), none, []⟩, ⟨(some 4), (.asg (.t 8) none), none, []⟩] false) .ret))
theorem dc24_c : (Try.f24.body.bind (cCode Try.prog Try.f24.ntmps)) = some dc24 := by kernel_rfl
theorem dc24_r : Try.f24.results.toList.mapM (cRes Try.prog) = some [(.t 4)] := by kernel_rfl
def slices_Contains_2_int_2_int_enc (a : (List TA2_Int) × TA2_Int) : List D := [.sl (a.1.map eA2_Int), eA2_Int a.2]
def slices_Contains_2_int_2_int_dec (ds : List D) : (List TA2_Int) × TA2_Int := ((uL uA2_Int) (ds.getD 0 .top), uA2_Int (ds.getD 1 .top))
theorem slices_Contains_2_int_2_int_de (a : (List TA2_Int) × TA2_Int) : slices_Contains_2_int_2_int_dec (slices_Contains_2_int_2_int_enc a) = a := by simp [slices_Contains_2_int_2_int_dec, slices_Contains_2_int_2_int_enc, uI, uBo, uS, uL_e (u := uA2_Int) (en := eA2_Int) uA2_Int_e]
def slices_Contains_2_int_2_int_R (b : Bool) : D := .bool b
def slices_Contains_2_int_2_int_E (_b : Bool) : List D := []
noncomputable def slices_Contains_2_int_2_int_S : Dw.Spec := fSpec [] .ground slices_Contains_2_int_2_int_enc slices_Contains_2_int_2_int_dec (fun a => slices_Contains_2_int_2_int a.1 a.2) slices_Contains_2_int_2_int_R slices_Contains_2_int_2_int_E
set_option maxHeartbeats 4000000 in
theorem slices_Contains_2_int_2_int_ok : SpecOk Try.prog 24 slices_Contains_2_int_2_int_S := by
  refine fn_ok (specs_ok (l := [(39, slices_Index_2_int_2_int_S)]) (by simp [slices_Index_2_int_2_int_ok])) Try.func24 (by decide) dc24_c dc24_r (np := 2) (by decide) slices_Contains_2_int_2_int_de (fun _ => rfl) ?_
  rintro ⟨s1, v2⟩
  show Tr (specs [(39, slices_Index_2_int_2_int_S)]) dc24 (kRet [] .ground [(.t 4)] 2 slices_Contains_2_int_2_int_R slices_Contains_2_int_2_int_E) ⟨[(0, .sl (s1.map eA2_Int)), (1, .agg [.int .i64 v2.a0, .int .i64 v2.a1])], [], 2⟩ (slices_Contains_2_int_2_int s1 v2)
  unfold dc24 slices_Contains_2_int_2_int
  refine tr_seq ?_
  refine tr_reg ?_
  refine trO_box rfl rfl rfl rfl rfl ?_
  refine trO_asg rfl rfl ?_
  refine trO_nil ?_
  refine trX_seq ?_
  refine tr_seq ?_
  refine tr_reg ?_
  refine trO_mv rfl rfl ?_
  refine trO_ld_obj (v := .agg [.int .i64 v2.a0, .int .i64 v2.a1]) (z := .agg [.int .i64 v2.a0, .int .i64 v2.a1]) rfl rfl rfl rfl rfl rfl ?_
  refine trO_bind fun r3 hr3 => ?_
  refine trO_call_ground (s1, v2) rfl rfl rfl slices_Index_2_int_2_int_de rfl rfl (by simp) rfl hr3 rfl ?_
  refine trO_bin (v := .bool (decide (r3 ≥ 0))) rfl rfl rfl rfl rfl ?_
  refine trO_asg rfl rfl ?_
  refine trO_nil ?_
  refine trX_seq ?_
  refine tr_ret ?_
  exact ret_ground (b := (decide (r3 ≥ 0))) rfl (by first | (simp; done) | (simp; omega)) rfl rfl (by first | (simp; done) | (simp; omega)) rfl

def dc8 : DCode := (.seq (.reg [⟨(some 1), (.box (.t 0) 3 27), none, []⟩, ⟨(some 2), (.asg (.c .nils) (some ⟨2, 36⟩)), none, []⟩] false) (.seq (.reg [⟨(some 3), (.asg (.c .nils) (some ⟨2, 36⟩)), none, []⟩] false) (.seq (.seq (.reg [⟨(some 7), (.fldA 2 (.t 1)), none, []⟩, ⟨(some 8), (.ld 1 false (.t 7)), none, []⟩, ⟨(some 9), (.len false (.t 8)), none, []⟩, ⟨(some 10), (.mv (.c (.int .i64 0))), none, []⟩] false) (.block 0 (.loop (.seq (.reg [⟨(some 11), (.bin .lss (.t 10) (.t 9)), none, []⟩] false) (.seq (.cond (.t 11) .skip (.exit 0)) (.seq (.block 1 (.seq (.reg [⟨(some 12), (.ixA 5 (.t 8) (.t 10)), none, []⟩, ⟨(some 13), (.ld 5 true (.t 12)), none, []⟩, ⟨(some 5), (.new (.agg [(.int .i64 0), (.int .i64 0), (.int .i64 0), (.int .i64 0), (.int .u64 0)]) 5 52), none, []⟩, ⟨none, (.st 5 (.t 5) (.t 13)), none, []⟩] false) (.seq (.reg [⟨(some 14), (.fldA 1 (.t 5)), none, []⟩, ⟨(some 15), (.ld 1 false (.t 14)), none, []⟩, ⟨(some 16), (.fldA 2 (.t 5)), none, []⟩, ⟨(some 17), (.ld 1 false (.t 16)), none, []⟩, ⟨(some 18), (.bld [(.int .i64 0), (.int .i64 0)] [⟨0, ⟨1, (.t 15)⟩⟩, ⟨1, ⟨1, (.t 17)⟩⟩]), none, []⟩, ⟨(some 6), (.new (.agg [(.int .i64 0), (.int .i64 0)]) 2 36), none, []⟩, ⟨none, (.st 2 (.t 6) (.t 18)), none, []⟩] false) (.seq (.reg [⟨(some 19), (.fldA 0 (.t 5)), none, []⟩, ⟨(some 20), (.ld 1 false (.t 19)), none, []⟩, ⟨(some 21), (.bin .eql (.t 20) (.c (.int .i64 17))), none, []⟩, ⟨(some 22), (.mv (.t 21)), none, []⟩, ⟨(some 23), (.fldA 1 (.t 5)), (some ⟨22, true⟩), []⟩, ⟨(some 24), (.ld 1 false (.t 23)), (some ⟨22, true⟩), []⟩, ⟨(some 25), (.fldA 2 (.t 5)), (some ⟨22, true⟩), []⟩, ⟨(some 26), (.ld 1 false (.t 25)), (some ⟨22, true⟩), []⟩, ⟨(some 27), (.bin .neq (.t 24) (.t 26)), (some ⟨22, true⟩), []⟩, ⟨(some 28), (.pick (.t 22) (.t 27) (.c (.bool false))), none, []⟩, ⟨(some 29), (.mv (.t 28)), none, []⟩, ⟨(some 30), (.mv (.t 3)), (some ⟨29, true⟩), []⟩, ⟨(some 31), (.ld 2 true (.t 6)), (some ⟨29, true⟩), []⟩, ⟨(some 32), (.call (.c (.clo 24 [])) [(.t 30), (.t 31)]), (some ⟨29, true⟩), []⟩, ⟨(some 33), (.un .not (.t 32)), (some ⟨29, true⟩), []⟩, ⟨(some 34), (.pick (.t 29) (.t 33) (.c (.bool false))), none, []⟩] false) (.cond (.t 34) (.reg [⟨(some 35), (.mv (.t 3)), none, []⟩, ⟨(some 36), (.ld 2 true (.t 6)), none, []⟩, ⟨(some 37), (.bldS 2 36 (.agg [(.int .i64 0), (.int .i64 0)]) 1 [⟨0, (.t 36)⟩]), none, []⟩, ⟨(some 38), (.app 2 36 16 (.t 35) (.t 37)), none, []⟩, ⟨(some 3), (.asg (.t 38) (some ⟨2, 36⟩)), none, []⟩] false) .skip))))) (.reg [⟨(some 39), (.bin .add (.t 10) (.c (.int .i64 1))), none, []⟩, ⟨(some 10), (.mv (.t 39)), none, []⟩] false))))))) (.seq (.reg [⟨(some 40), (.mv (.t 3)), none, []⟩, ⟨(some 2), (.asg (.t 40) (some ⟨2, 36⟩)), none, []⟩] false) .ret))))
theorem dc8_c : (Try.f8.body.bind (cCode Try.prog Try.f8.ntmps)) = some dc8 := by kernel_rfl
theorem dc8_r : Try.f8.results.toList.mapM (cRes Try.prog) = some [(.t 2)] := by kernel_rfl
def interfere_Moves_enc (a : TFunc) : List D := [eFunc a]
def interfere_Moves_dec (ds : List D) : TFunc := uFunc (ds.getD 0 .top)
theorem interfere_Moves_de (a : TFunc) : interfere_Moves_dec (interfere_Moves_enc a) = a := by simp [interfere_Moves_dec, interfere_Moves_enc, uI, uBo, uS]
def interfere_Moves_R (b : (List TA2_Int)) : D := .sl (b.map eA2_Int)
def interfere_Moves_E (_b : (List TA2_Int)) : List D := []
noncomputable def interfere_Moves_S : Dw.Spec := fSpec [] (.row 2 36) interfere_Moves_enc interfere_Moves_dec (fun a => interfere_Moves a) interfere_Moves_R interfere_Moves_E
set_option maxHeartbeats 4000000 in
theorem interfere_Moves_ok : SpecOk Try.prog 8 interfere_Moves_S := by
  refine fn_ok (specs_ok (l := [(24, slices_Contains_2_int_2_int_S)]) (by simp [slices_Contains_2_int_2_int_ok])) Try.func8 (by decide) dc8_c dc8_r (np := 1) (by decide) interfere_Moves_de (fun _ => rfl) ?_
  intro f1
  show Tr (specs [(24, slices_Contains_2_int_2_int_S)]) dc8 (kRet [] (.row 2 36) [(.t 2)] 1 interfere_Moves_R interfere_Moves_E) ⟨[(0, .agg [.int .i64 f1.Params, .sl (f1.Slots.map eSlot), .sl (f1.Code.map eInstr)])], [], 1⟩ (interfere_Moves f1)
  unfold dc8 interfere_Moves
  refine tr_seq ?_
  refine tr_reg ?_
  refine trO_box rfl rfl rfl rfl rfl ?_
  refine trO_asg_nil (α := TA2_Int) rfl eA2_Int rfl ?_
  refine trO_nil ?_
  refine trX_seq ?_
  refine tr_seq ?_
  refine tr_reg ?_
  refine trO_asg_nil (α := TA2_Int) rfl eA2_Int rfl ?_
  refine trO_nil ?_
  refine trX_seq ?_
  refine tr_seq ?_
  refine tr_seq ?_
  refine tr_reg ?_
  refine trO_fldA rfl rfl ?_
  refine trO_ld_obj (v := .sl (f1.Code.map eInstr)) (z := .agg [.int .i64 f1.Params, .sl (f1.Slots.map eSlot), .sl (f1.Code.map eInstr)]) rfl rfl rfl rfl rfl rfl ?_
  refine trO_len_sl rfl rfl ?_
  refine trO_mv rfl rfl ?_
  refine trO_nil ?_
  refine trX_seq ?_
  refine tr_block ?_
  refine tr_loop (E := fun (s : (List TA2_Int) × Int) (g : Nat) => [(3, .osl 3 g 0 s.1.length), (8, .sl (f1.Code.map eInstr)), (9, .int .i64 (f1.Code.length : Int)), (10, .int .i64 s.2)]) (O := fun s g => [(3, some (g, ⟨false, false, 2, 36, s.1.map eA2_Int⟩))]) (body := fun s => interfere_Moves_b1 f1 s.1 s.2) (s := (([] : List TA2_Int), 0)) _ (has_exact ⟨rfl, rfl, rfl, rfl, trivial⟩ ⟨rfl, trivial⟩) ?_
  rintro ⟨l2, x3⟩ v3 nn
  show Tr _ _ _ ⟨[(3, .osl 3 v3 0 l2.length), (8, .sl (f1.Code.map eInstr)), (9, .int .i64 (f1.Code.length : Int)), (10, .int .i64 x3)], [(3, some (v3, ⟨false, false, 2, 36, l2.map eA2_Int⟩))], _⟩ (interfere_Moves_b1 f1 l2 x3)
  unfold interfere_Moves_b1
  refine tr_seq ?_
  refine tr_reg ?_
  refine trO_bin (v := .bool (decide (x3 < (f1.Code.length : Int)))) rfl rfl rfl rfl rfl ?_
  refine trO_nil ?_
  refine trX_seq ?_
  refine tr_seq ?_
  refine tr_cond (c := (decide (x3 < (f1.Code.length : Int)))) rfl ?_ ?_
  ·
    refine tr_skip ?_
    refine trX_seq ?_
    refine tr_seq ?_
    refine tr_block ?_
    refine tr_seq ?_
    refine tr_reg ?_
    refine trO_bind fun x_x4 hx_x4 => ?_
    refine trO_ixA_sl (en := eInstr) rfl rfl rfl hx_x4 rfl ?_
    refine trO_ld_f (v := .agg [.int .i64 x_x4.Op, .int .i64 x_x4.A, .int .i64 x_x4.B, .int .i64 x_x4.C, .int .u64 x_x4.Imm]) rfl rfl rfl rfl ?_
    refine trO_new rfl ?_
    refine trO_st_var (z' := .agg [.int .i64 x_x4.Op, .int .i64 x_x4.A, .int .i64 x_x4.B, .int .i64 x_x4.C, .int .u64 x_x4.Imm]) rfl rfl rfl rfl rfl rfl rfl rfl rfl ?_
    refine trO_nil ?_
    refine trX_seq ?_
    refine tr_seq ?_
    refine tr_reg ?_
    refine trO_fldA rfl rfl ?_
    refine trO_ld_obj (v := .int .i64 x_x4.A) (z := .agg [.int .i64 x_x4.Op, .int .i64 x_x4.A, .int .i64 x_x4.B, .int .i64 x_x4.C, .int .u64 x_x4.Imm]) rfl rfl rfl rfl rfl rfl ?_
    refine trO_fldA rfl rfl ?_
    refine trO_ld_obj (v := .int .i64 x_x4.B) (z := .agg [.int .i64 x_x4.Op, .int .i64 x_x4.A, .int .i64 x_x4.B, .int .i64 x_x4.C, .int .u64 x_x4.Imm]) rfl rfl rfl rfl rfl rfl ?_
    refine trO_bld (cs := [.int .i64 x_x4.A, .int .i64 x_x4.B]) (ps := [(0, 1, .int .i64 x_x4.A), (1, 1, .int .i64 x_x4.B)]) rfl rfl rfl rfl ?_
    refine trO_new rfl ?_
    refine trO_st_var (z' := .agg [.int .i64 x_x4.A, .int .i64 x_x4.B]) rfl rfl rfl rfl rfl rfl rfl rfl rfl ?_
    refine trO_nil ?_
    refine trX_seq ?_
    refine tr_seq ?_
    refine tr_reg ?_
    refine trO_fldA rfl rfl ?_
    refine trO_ld_obj (v := .int .i64 x_x4.Op) (z := .agg [.int .i64 x_x4.Op, .int .i64 x_x4.A, .int .i64 x_x4.B, .int .i64 x_x4.C, .int .u64 x_x4.Imm]) rfl rfl rfl rfl rfl rfl ?_
    refine trO_bin (v := .bool (x_x4.Op == 17)) rfl rfl rfl rfl rfl ?_
    refine trO_mv rfl rfl ?_
    refine trO_split 22 (b := (x_x4.Op == 17)) rfl ?_ ?_
    ·
      refine trO_fldA rfl rfl ?_
      refine trO_ld_obj (v := .int .i64 x_x4.A) (z := .agg [.int .i64 x_x4.Op, .int .i64 x_x4.A, .int .i64 x_x4.B, .int .i64 x_x4.C, .int .u64 x_x4.Imm]) rfl rfl rfl rfl rfl rfl ?_
      refine trO_fldA rfl rfl ?_
      refine trO_ld_obj (v := .int .i64 x_x4.B) (z := .agg [.int .i64 x_x4.Op, .int .i64 x_x4.A, .int .i64 x_x4.B, .int .i64 x_x4.C, .int .u64 x_x4.Imm]) rfl rfl rfl rfl rfl rfl ?_
      refine trO_bin (v := .bool (x_x4.A != x_x4.B)) rfl rfl rfl rfl rfl ?_
      refine trO_pick_true rfl rfl rfl rfl ?_
      refine trO_mv rfl rfl ?_
      refine trO_split 29 (b := (x_x4.A != x_x4.B)) rfl ?_ ?_
      ·
        refine trO_mv rfl rfl ?_
        refine trO_ld_obj (v := .agg [.int .i64 x_x4.A, .int .i64 x_x4.B]) (z := .agg [.int .i64 x_x4.A, .int .i64 x_x4.B]) rfl rfl rfl rfl rfl rfl ?_
        refine trO_bind fun r5 hr5 => ?_
        refine trO_call_ground (l2, (TA2_Int.mk x_x4.A x_x4.B)) rfl rfl rfl slices_Contains_2_int_2_int_de rfl rfl (by simp) (by first | rfl | (simp only [take_drop0_map, take_sub_map]; rfl) | simp [slices_Contains_2_int_2_int_enc, eA2_Int]) hr5 rfl ?_
        refine trO_un (w := .bool (!r5)) rfl rfl rfl rfl trivial ?_
        refine trO_pick_true rfl rfl rfl rfl ?_
        refine trO_nil ?_
        refine trX_seq ?_
        refine tr_cond (c := (!r5)) rfl ?_ ?_
        ·
          refine tr_reg ?_
          refine trO_mv rfl rfl ?_
          refine trO_ld_obj (v := .agg [.int .i64 x_x4.A, .int .i64 x_x4.B]) (z := .agg [.int .i64 x_x4.A, .int .i64 x_x4.B]) rfl rfl rfl rfl rfl rfl ?_
          refine trO_bldS ([(TA2_Int.mk x_x4.A x_x4.B)] : List TA2_Int) eA2_Int rfl rfl rfl (by simp) rfl rfl rfl ?_
          refine trO_chk fun hq => ?_
          refine trO_app (l2) (([(TA2_Int.mk x_x4.A x_x4.B)] : List TA2_Int)) eA2_Int rfl rfl rfl rfl rfl rfl rfl (by simp) (take_drop0_map' _ _ rfl) rfl rfl (by simp) (take_len_map' _ _ rfl) (fun _ => rfl) rfl hq ?_
          refine trO_asg_own (l := l2 ++ ([(TA2_Int.mk x_x4.A x_x4.B)] : List TA2_Int)) (en := eA2_Int) rfl rfl rfl rfl ?_
          refine trO_nil ?_
          refine trX_blk_normal ?_
          refine trX_seq ?_
          refine tr_reg ?_
          refine trO_bin (v := .int .i64 (IntKind.i64.wrap (x3 + 1))) rfl rfl rfl rfl rfl ?_
          refine trO_mv rfl rfl ?_
          refine trO_nil ?_
          exact trX_loop (s := (l2 ++ ([(TA2_Int.mk x_x4.A x_x4.B)] : List TA2_Int), IntKind.i64.wrap (x3 + 1))) _ (has_exact ⟨rfl, rfl, rfl, rfl, trivial⟩ ⟨rfl, trivial⟩)
        ·
          refine tr_skip ?_
          refine trX_blk_normal ?_
          refine trX_seq ?_
          refine tr_reg ?_
          refine trO_bin (v := .int .i64 (IntKind.i64.wrap (x3 + 1))) rfl rfl rfl rfl rfl ?_
          refine trO_mv rfl rfl ?_
          refine trO_nil ?_
          exact trX_loop (s := (l2, IntKind.i64.wrap (x3 + 1))) _ (has_exact ⟨rfl, rfl, rfl, rfl, trivial⟩ ⟨rfl, trivial⟩)
      ·
        refine trO_off rfl ?_
        refine trO_off rfl ?_
        refine trO_off rfl ?_
        refine trO_off rfl ?_
        refine trO_pick_false rfl rfl rfl rfl ?_
        refine trO_nil ?_
        refine trX_seq ?_
        refine tr_cond_false rfl ?_
        refine tr_skip ?_
        refine trX_blk_normal ?_
        refine trX_seq ?_
        refine tr_reg ?_
        refine trO_bin (v := .int .i64 (IntKind.i64.wrap (x3 + 1))) rfl rfl rfl rfl rfl ?_
        refine trO_mv rfl rfl ?_
        refine trO_nil ?_
        exact trX_loop (s := (l2, IntKind.i64.wrap (x3 + 1))) _ (has_exact ⟨rfl, rfl, rfl, rfl, trivial⟩ ⟨rfl, trivial⟩)
    ·
      refine trO_off rfl ?_
      refine trO_off rfl ?_
      refine trO_off rfl ?_
      refine trO_off rfl ?_
      refine trO_off rfl ?_
      refine trO_pick_false rfl rfl rfl rfl ?_
      refine trO_mv rfl rfl ?_
      refine trO_off rfl ?_
      refine trO_off rfl ?_
      refine trO_off rfl ?_
      refine trO_off rfl ?_
      refine trO_pick_false rfl rfl rfl rfl ?_
      refine trO_nil ?_
      refine trX_seq ?_
      refine tr_cond_false rfl ?_
      refine tr_skip ?_
      refine trX_blk_normal ?_
      refine trX_seq ?_
      refine tr_reg ?_
      refine trO_bin (v := .int .i64 (IntKind.i64.wrap (x3 + 1))) rfl rfl rfl rfl rfl ?_
      refine trO_mv rfl rfl ?_
      refine trO_nil ?_
      exact trX_loop (s := (l2, IntKind.i64.wrap (x3 + 1))) _ (has_exact ⟨rfl, rfl, rfl, rfl, trivial⟩ ⟨rfl, trivial⟩)
  ·
    refine tr_exit ?_
    refine trX_seq_exit ?_
    refine trX_loop_exit ?_
    refine trX_blk_here ?_
    refine trX_seq ?_
    refine tr_seq ?_
    refine tr_reg ?_
    refine trO_mv rfl rfl ?_
    refine trO_asg_own (l := l2) (en := eA2_Int) rfl rfl rfl rfl ?_
    refine trO_nil ?_
    refine trX_seq ?_
    refine tr_ret ?_
    exact ret_row (b := l2) rfl (by first | (simp; done) | (simp; omega)) rfl rfl (by first | (simp; done) | (simp; omega)) rfl (by first | (simp; done) | (simp; omega)) (congrArg D.sl (take_len_map' _ _ rfl)) rfl

def dc6 : DCode := (.seq (.reg [⟨(some 0), (.asg (.c (.bool false)) none), none, []⟩] false) (.seq (.reg [⟨(some 2), (.bld [(.int .i64 0), (.int .i64 0)] [⟨0, ⟨1, (.c (.int .i64 8))⟩⟩, ⟨1, ⟨1, (.c (.int .i64 8))⟩⟩]), none, []⟩, ⟨(some 3), (.bld [(.int .i64 0), (.int .i64 0)] [⟨0, ⟨1, (.c (.int .i64 8))⟩⟩, ⟨1, ⟨1, (.c (.int .i64 8))⟩⟩]), none, []⟩, ⟨(some 4), (.bldS 2 49 (.agg [(.int .i64 0), (.int .i64 0)]) 2 [⟨0, (.t 2)⟩, ⟨1, (.t 3)⟩]), none, []⟩, ⟨(some 5), (.bld [(.int .i64 0), (.int .i64 0), (.int .i64 0), (.int .i64 0), (.int .u64 0)] [⟨0, ⟨1, (.c (.int .i64 17))⟩⟩, ⟨2, ⟨1, (.c (.int .i64 1))⟩⟩]), none, []⟩, ⟨(some 6), (.bld [(.int .i64 0), (.int .i64 0), (.int .i64 0), (.int .i64 0), (.int .u64 0)] [⟨0, ⟨1, (.c (.int .i64 23))⟩⟩]), none, []⟩, ⟨(some 7), (.bldS 5 52 (.agg [(.int .i64 0), (.int .i64 0), (.int .i64 0), (.int .i64 0), (.int .u64 0)]) 2 [⟨0, (.t 5)⟩, ⟨1, (.t 6)⟩]), none, []⟩, ⟨(some 8), (.bld [(.int .i64 0), .nils, .nils] [⟨1, ⟨1, (.t 4)⟩⟩, ⟨2, ⟨1, (.t 7)⟩⟩]), none, []⟩, ⟨(some 1), (.new (.agg [(.int .i64 0), .nils, .nils]) 3 27), none, []⟩, ⟨none, (.st 3 (.t 1) (.t 8)), none, []⟩] false) (.seq (.reg [⟨(some 9), (.ld 3 true (.t 1)), none, []⟩, ⟨(some 10), (.call (.c (.clo 8 [])) [(.t 9)]), none, []⟩, ⟨(some 11), (.len false (.t 10)), none, []⟩, ⟨(some 12), (.bin .eql (.t 11) (.c (.int .i64 1))), none, []⟩, ⟨(some 0), (.asg (.t 12) none), none, []⟩] false) .ret)))
theorem dc6_c : (Try.f6.body.bind (cCode Try.prog Try.f6.ntmps)) = some dc6 := by kernel_rfl
theorem dc6_r : Try.f6.results.toList.mapM (cRes Try.prog) = some [(.t 0)] := by kernel_rfl
def law18_awake_enc (a : Unit) : List D := []
def law18_awake_dec (ds : List D) : Unit := ()
theorem law18_awake_de (a : Unit) : law18_awake_dec (law18_awake_enc a) = a := by simp [law18_awake_dec, law18_awake_enc, uI, uBo, uS]
def law18_awake_R (b : Bool) : D := .bool b
def law18_awake_E (_b : Bool) : List D := []
noncomputable def law18_awake_S : Dw.Spec := fSpec [] .ground law18_awake_enc law18_awake_dec (fun a => law18_awake) law18_awake_R law18_awake_E
set_option maxHeartbeats 4000000 in
theorem law18_awake_ok : SpecOk Try.prog 6 law18_awake_S := by
  refine fn_ok (specs_ok (l := [(8, interfere_Moves_S)]) (by simp [interfere_Moves_ok])) Try.func6 (by decide) dc6_c dc6_r (np := 0) (by decide) law18_awake_de (fun _ => rfl) ?_
  intro _
  show Tr (specs [(8, interfere_Moves_S)]) dc6 (kRet [] .ground [(.t 0)] 0 law18_awake_R law18_awake_E) ⟨[], [], 0⟩ (law18_awake)
  unfold dc6 law18_awake
  refine tr_seq ?_
  refine tr_reg ?_
  refine trO_asg rfl rfl ?_
  refine trO_nil ?_
  refine trX_seq ?_
  refine tr_seq ?_
  refine tr_reg ?_
  refine trO_bld (cs := [.int .i64 8, .int .i64 8]) (ps := [(0, 1, .int .i64 8), (1, 1, .int .i64 8)]) rfl rfl rfl rfl ?_
  refine trO_bld (cs := [.int .i64 8, .int .i64 8]) (ps := [(0, 1, .int .i64 8), (1, 1, .int .i64 8)]) rfl rfl rfl rfl ?_
  refine trO_bldS ([(TSlot.mk 8 8), (TSlot.mk 8 8)] : List TSlot) eSlot rfl rfl rfl (by simp) rfl rfl rfl ?_
  refine trO_bld (cs := [.int .i64 17, .int .i64 0, .int .i64 1, .int .i64 0, .int .u64 0]) (ps := [(0, 1, .int .i64 17), (2, 1, .int .i64 1)]) rfl rfl rfl rfl ?_
  refine trO_bld (cs := [.int .i64 23, .int .i64 0, .int .i64 0, .int .i64 0, .int .u64 0]) (ps := [(0, 1, .int .i64 23)]) rfl rfl rfl rfl ?_
  refine trO_bldS ([(TInstr.mk 17 0 1 0 0), (TInstr.mk 23 0 0 0 0)] : List TInstr) eInstr rfl rfl rfl (by simp) rfl rfl rfl ?_
  refine trO_bld (cs := [.int .i64 0, .osl 4 _ 0 (([(TSlot.mk 8 8), (TSlot.mk 8 8)] : List TSlot).length), .osl 7 _ 0 (([(TInstr.mk 17 0 1 0 0), (TInstr.mk 23 0 0 0 0)] : List TInstr).length)]) (ps := [(1, 1, .osl 4 _ 0 (([(TSlot.mk 8 8), (TSlot.mk 8 8)] : List TSlot).length)), (2, 1, .osl 7 _ 0 (([(TInstr.mk 17 0 1 0 0), (TInstr.mk 23 0 0 0 0)] : List TInstr).length))]) rfl rfl rfl rfl ?_
  refine trO_new rfl ?_
  refine trO_st_var (z' := .agg [.int .i64 0, .osl 4 _ 0 (([(TSlot.mk 8 8), (TSlot.mk 8 8)] : List TSlot).length), .osl 7 _ 0 (([(TInstr.mk 17 0 1 0 0), (TInstr.mk 23 0 0 0 0)] : List TInstr).length)]) rfl rfl rfl rfl rfl rfl rfl rfl rfl ?_
  refine trO_nil ?_
  refine trX_seq ?_
  refine tr_seq ?_
  refine tr_reg ?_
  refine trO_ld_obj (v := .agg [.int .i64 0, .osl 4 _ 0 (([(TSlot.mk 8 8), (TSlot.mk 8 8)] : List TSlot).length), .osl 7 _ 0 (([(TInstr.mk 17 0 1 0 0), (TInstr.mk 23 0 0 0 0)] : List TInstr).length)]) (z := .agg [.int .i64 0, .osl 4 _ 0 (([(TSlot.mk 8 8), (TSlot.mk 8 8)] : List TSlot).length), .osl 7 _ 0 (([(TInstr.mk 17 0 1 0 0), (TInstr.mk 23 0 0 0 0)] : List TInstr).length)]) rfl rfl rfl rfl rfl rfl ?_
  refine trO_bind fun r1 hr1 => ?_
  refine trO_call_row (l := r1) (en := eA2_Int) (TFunc.mk 0 ([(TSlot.mk 8 8), (TSlot.mk 8 8)] : List TSlot) ([(TInstr.mk 17 0 1 0 0), (TInstr.mk 23 0 0 0 0)] : List TInstr)) rfl rfl rfl interfere_Moves_de rfl rfl (by simp) (by first | rfl | (simp only [take_drop0_map, take_sub_map]; rfl) | simp [interfere_Moves_enc, eFunc]) hr1 rfl ?_
  refine trO_len_own rfl rfl ?_
  refine trO_bin (v := .bool ((r1.length : Int) == 1)) rfl rfl rfl rfl rfl ?_
  refine trO_asg rfl rfl ?_
  refine trO_nil ?_
  refine trX_seq ?_
  refine tr_ret ?_
  exact ret_ground (b := ((r1.length : Int) == 1)) rfl (by first | (simp; done) | (simp; omega)) rfl rfl (by first | (simp; done) | (simp; omega)) rfl

def dc14 : DCode := (.seq (.reg [⟨(some 4), (.asg (.c .top) none), none, []⟩] false) (.seq (.reg [⟨(some 5), (.mv (.t 0)), none, []⟩, ⟨(some 6), (.mv (.t 0)), none, []⟩, ⟨(some 7), (.len false (.t 6)), none, []⟩, ⟨(some 8), (.mv (.t 1)), none, []⟩, ⟨(some 9), (.min [(.t 7), (.t 8)]), none, []⟩, ⟨(some 10), (.slc 1 (.t 5) none (some (.t 9))), none, []⟩, ⟨(some 11), (.bld [.nils, (.int .i64 0)] [⟨0, ⟨1, (.t 10)⟩⟩]), none, []⟩, ⟨(some 12), (.box (.t 11) 2 67), none, []⟩, ⟨(some 4), (.asg (.t 12) none), none, []⟩] false) .ret))
theorem dc14_c : (Try.f14.body.bind (cCode Try.prog Try.f14.ntmps)) = some dc14 := by kernel_rfl
theorem dc14_r : Try.f14.results.toList.mapM (cRes Try.prog) = some [(.t 4)] := by kernel_rfl
def draw_New_enc (a : (List Int) × Int) : List D := [.sl (a.1.map eU8), .int .i64 a.2]
def draw_New_dec (ds : List D) : (List Int) × Int := ((uL uI) (ds.getD 0 .top), uI (ds.getD 1 .top))
theorem draw_New_de (a : (List Int) × Int) : draw_New_dec (draw_New_enc a) = a := by simp [draw_New_dec, draw_New_enc, uI, uBo, uS, uL_e (u := uI) (en := eU8) (fun _ => rfl)]
def draw_New_R (b : Tdraw_Codes) : D := edraw_Codes b
def draw_New_E (_b : Tdraw_Codes) : List D := []
noncomputable def draw_New_S : Dw.Spec := fSpec [] (.ptr 2 67) draw_New_enc draw_New_dec (fun a => draw_New a.1 a.2) draw_New_R draw_New_E
set_option maxHeartbeats 4000000 in
theorem draw_New_ok : SpecOk Try.prog 14 draw_New_S := by
  refine fn_ok (specs_nil) Try.func14 (by decide) dc14_c dc14_r (np := 2) (by decide) draw_New_de (fun _ => rfl) ?_
  rintro ⟨list1, limit2⟩
  show Tr (specs []) dc14 (kRet [] (.ptr 2 67) [(.t 4)] 2 draw_New_R draw_New_E) ⟨[(0, .sl (list1.map eU8)), (1, .int .i64 limit2)], [], 2⟩ (draw_New list1 limit2)
  unfold dc14 draw_New
  refine tr_seq ?_
  refine tr_reg ?_
  refine trO_asg rfl rfl ?_
  refine trO_nil ?_
  refine trX_seq ?_
  refine tr_seq ?_
  refine tr_reg ?_
  refine trO_mv rfl rfl ?_
  refine trO_mv rfl rfl ?_
  refine trO_len_sl rfl rfl ?_
  refine trO_mv rfl rfl ?_
  refine trO_min rfl rfl rfl ?_
  refine trO_chk fun hq => ?_
  refine trO_slc_sl_hi (l := list1) (en := eU8) rfl rfl rfl (fun _ => rfl) rfl hq ?_
  refine trO_bld (cs := [.sl ((list1.take (minI (list1.length : Int) limit2).toNat).map eU8), .int .i64 0]) (ps := [(0, 1, .sl ((list1.take (minI (list1.length : Int) limit2).toNat).map eU8))]) rfl rfl rfl rfl ?_
  refine trO_box rfl rfl rfl rfl rfl ?_
  refine trO_asg rfl rfl ?_
  refine trO_nil ?_
  refine trX_seq ?_
  refine tr_ret ?_
  exact ret_ptr (b := (Tdraw_Codes.mk (list1.take (minI (list1.length : Int) limit2).toNat) 0)) rfl (by first | (simp; done) | (simp; omega)) rfl (by first | (simp; done) | (simp; omega)) rfl rfl (by first | (simp; done) | (simp; omega)) rfl

def dc28 : DCode := (.seq (.reg [⟨(some 2), (.asg (.c (.bool false)) none), none, []⟩] false) (.seq (.reg [⟨(some 3), (.mv (.t 0)), none, []⟩, ⟨(some 4), (.bin .geq (.t 3) (.c (.int .i64 0))), none, []⟩, ⟨(some 5), (.mv (.t 4)), none, []⟩, ⟨(some 6), (.mv (.t 0)), (some ⟨5, true⟩), []⟩, ⟨(some 7), (.bin .lss (.t 6) (.c (.int .i64 512))), (some ⟨5, true⟩), []⟩, ⟨(some 8), (.pick (.t 5) (.t 7) (.c (.bool false))), none, []⟩, ⟨(some 2), (.asg (.t 8) none), none, []⟩] false) .ret))
theorem dc28_c : (Try.f28.body.bind (cCode Try.prog Try.f28.ntmps)) = some dc28 := by kernel_rfl
theorem dc28_r : Try.f28.results.toList.mapM (cRes Try.prog) = some [(.t 2)] := by kernel_rfl
def ref04_good_enc (a : Int) : List D := [.int .i64 a]
def ref04_good_dec (ds : List D) : Int := uI (ds.getD 0 .top)
theorem ref04_good_de (a : Int) : ref04_good_dec (ref04_good_enc a) = a := by simp [ref04_good_dec, ref04_good_enc, uI, uBo, uS]
def ref04_good_R (b : Bool) : D := .bool b
def ref04_good_E (_b : Bool) : List D := []
noncomputable def ref04_good_S : Dw.Spec := fSpec [] .ground ref04_good_enc ref04_good_dec (fun a => ref04_good a) ref04_good_R ref04_good_E
set_option maxHeartbeats 4000000 in
theorem ref04_good_ok : SpecOk Try.prog 28 ref04_good_S := by
  refine fn_ok (specs_nil) Try.func28 (by decide) dc28_c dc28_r (np := 1) (by decide) ref04_good_de (fun _ => rfl) ?_
  intro n1
  show Tr (specs []) dc28 (kRet [] .ground [(.t 2)] 1 ref04_good_R ref04_good_E) ⟨[(0, .int .i64 n1)], [], 1⟩ (ref04_good n1)
  unfold dc28 ref04_good
  refine tr_seq ?_
  refine tr_reg ?_
  refine trO_asg rfl rfl ?_
  refine trO_nil ?_
  refine trX_seq ?_
  refine tr_seq ?_
  refine tr_reg ?_
  refine trO_mv rfl rfl ?_
  refine trO_bin (v := .bool (decide (n1 ≥ 0))) rfl rfl rfl rfl rfl ?_
  refine trO_mv rfl rfl ?_
  refine trO_split 5 (b := (decide (n1 ≥ 0))) rfl ?_ ?_
  ·
    refine trO_mv rfl rfl ?_
    refine trO_bin (v := .bool (decide (n1 < 512))) rfl rfl rfl rfl rfl ?_
    refine trO_pick_true rfl rfl rfl rfl ?_
    refine trO_asg rfl rfl ?_
    refine trO_nil ?_
    refine trX_seq ?_
    refine tr_ret ?_
    exact ret_ground (b := (decide (n1 < 512))) rfl (by first | (simp; done) | (simp; omega)) rfl rfl (by first | (simp; done) | (simp; omega)) rfl
  ·
    refine trO_off rfl ?_
    refine trO_off rfl ?_
    refine trO_pick_false rfl rfl rfl rfl ?_
    refine trO_asg rfl rfl ?_
    refine trO_nil ?_
    refine trX_seq ?_
    refine tr_ret ?_
    exact ret_ground (b := false) rfl (by first | (simp; done) | (simp; omega)) rfl rfl (by first | (simp; done) | (simp; omega)) rfl

def dc16 : DCode := (.seq (.reg [⟨(some 4), (.asg (.c .nils) (some ⟨1, 3⟩)), none, []⟩] false) (.seq (.reg [⟨(some 5), (.asg (.c .nils) (some ⟨1, 3⟩)), none, []⟩] false) (.seq (.reg [⟨(some 8), (.mv (.t 1)), none, []⟩, ⟨(some 9), (.call (.c (.clo 28 [])) [(.t 8)]), none, []⟩, ⟨(some 10), (.un .not (.t 9)), none, []⟩, ⟨(some 6), (.asg (.t 10) none), none, []⟩] false) (.seq (.seq (.reg [⟨(some 7), (.asg (.c (.int .i64 0)) none), none, []⟩] false) (.block 0 (.loop (.seq (.seq (.reg [⟨(some 11), (.mv (.t 7)), none, []⟩, ⟨(some 12), (.mv (.t 0)), none, []⟩, ⟨(some 13), (.len false (.t 12)), none, []⟩, ⟨(some 14), (.bin .lss (.t 11) (.t 13)), none, []⟩] false) (.cond (.t 14) .skip (.exit 0))) (.seq (.block 1 (.seq (.seq (.reg [⟨(some 17), (.mv (.t 6)), none, []⟩, ⟨(some 18), (.un .not (.t 17)), none, []⟩, ⟨(some 19), (.mv (.t 18)), none, []⟩, ⟨(some 20), (.mv (.t 0)), (some ⟨19, true⟩), []⟩, ⟨(some 21), (.mv (.t 7)), (some ⟨19, true⟩), []⟩, ⟨(some 22), (.ixA 1 (.t 20) (.t 21)), (some ⟨19, true⟩), []⟩, ⟨(some 23), (.ld 1 false (.t 22)), (some ⟨19, true⟩), []⟩, ⟨(some 24), (.mv (.t 1)), (some ⟨19, true⟩), []⟩, ⟨(some 25), (.bin .geq (.t 23) (.t 24)), (some ⟨19, true⟩), []⟩, ⟨(some 26), (.pick (.t 19) (.t 25) (.c (.bool false))), none, []⟩] false) (.cond (.t 26) (.seq (.seq (.reg [⟨(some 27), (.mv (.t 0)), none, []⟩, ⟨(some 28), (.mv (.t 7)), none, []⟩, ⟨(some 29), (.ixA 1 (.t 27) (.t 28)), none, []⟩, ⟨(some 30), (.ld 1 false (.t 29)), none, []⟩, ⟨(some 31), (.mv (.t 1)), none, []⟩, ⟨(some 32), (.bin .gtr (.t 30) (.t 31)), none, []⟩] false) (.cond (.t 32) (.reg [⟨(some 33), (.mv (.t 5)), none, []⟩, ⟨(some 34), (.mv (.t 1)), none, []⟩, ⟨(some 35), (.bldS 1 3 (.int .i64 0) 1 [⟨0, (.t 34)⟩]), none, []⟩, ⟨(some 36), (.app 1 3 8 (.t 33) (.t 35)), none, []⟩, ⟨(some 5), (.asg (.t 36) (some ⟨1, 3⟩)), none, []⟩] false) .skip)) (.reg [⟨(some 6), (.asg (.c (.bool true)) none), none, []⟩] false)) .skip)) (.reg [⟨(some 37), (.mv (.t 5)), none, []⟩, ⟨(some 38), (.mv (.t 0)), none, []⟩, ⟨(some 39), (.mv (.t 7)), none, []⟩, ⟨(some 40), (.ixA 1 (.t 38) (.t 39)), none, []⟩, ⟨(some 41), (.ld 1 false (.t 40)), none, []⟩, ⟨(some 42), (.bldS 1 3 (.int .i64 0) 1 [⟨0, (.t 41)⟩]), none, []⟩, ⟨(some 43), (.app 1 3 8 (.t 37) (.t 42)), none, []⟩, ⟨(some 5), (.asg (.t 43) (some ⟨1, 3⟩)), none, []⟩] false))) (.reg [⟨(some 15), (.mv (.t 7)), none, []⟩, ⟨(some 16), (.bin .add (.t 15) (.c (.int .i64 1))), none, []⟩, ⟨(some 7), (.asg (.t 16) none), none, []⟩] false)))))) (.seq (.seq (.reg [⟨(some 44), (.mv (.t 6)), none, []⟩, ⟨(some 45), (.un .not (.t 44)), none, []⟩] false) (.cond (.t 45) (.reg [⟨(some 46), (.mv (.t 5)), none, []⟩, ⟨(some 47), (.mv (.t 1)), none, []⟩, ⟨(some 48), (.bldS 1 3 (.int .i64 0) 1 [⟨0, (.t 47)⟩]), none, []⟩, ⟨(some 49), (.app 1 3 8 (.t 46) (.t 48)), none, []⟩, ⟨(some 5), (.asg (.t 49) (some ⟨1, 3⟩)), none, []⟩] false) .skip)) (.seq (.reg [⟨(some 50), (.mv (.t 5)), none, []⟩, ⟨(some 4), (.asg (.t 50) (some ⟨1, 3⟩)), none, []⟩] false) .ret))))))
theorem dc16_c : (Try.f16.body.bind (cCode Try.prog Try.f16.ntmps)) = some dc16 := by kernel_rfl
theorem dc16_r : Try.f16.results.toList.mapM (cRes Try.prog) = some [(.t 4)] := by kernel_rfl
def ref04_Add_enc (a : (List Int) × Int) : List D := [.sl (a.1.map eI64), .int .i64 a.2]
def ref04_Add_dec (ds : List D) : (List Int) × Int := ((uL uI) (ds.getD 0 .top), uI (ds.getD 1 .top))
theorem ref04_Add_de (a : (List Int) × Int) : ref04_Add_dec (ref04_Add_enc a) = a := by simp [ref04_Add_dec, ref04_Add_enc, uI, uBo, uS, uL_e (u := uI) (en := eI64) (fun _ => rfl)]
def ref04_Add_R (b : (List Int)) : D := .sl (b.map eI64)
def ref04_Add_E (_b : (List Int)) : List D := []
noncomputable def ref04_Add_S : Dw.Spec := fSpec [] (.row 1 3) ref04_Add_enc ref04_Add_dec (fun a => ref04_Add a.1 a.2) ref04_Add_R ref04_Add_E
set_option maxHeartbeats 4000000 in
theorem ref04_Add_ok : SpecOk Try.prog 16 ref04_Add_S := by
  refine fn_ok (specs_ok (l := [(28, ref04_good_S)]) (by simp [ref04_good_ok])) Try.func16 (by decide) dc16_c dc16_r (np := 2) (by decide) ref04_Add_de (fun _ => rfl) ?_
  rintro ⟨s1, n2⟩
  show Tr (specs [(28, ref04_good_S)]) dc16 (kRet [] (.row 1 3) [(.t 4)] 2 ref04_Add_R ref04_Add_E) ⟨[(0, .sl (s1.map eI64)), (1, .int .i64 n2)], [], 2⟩ (ref04_Add s1 n2)
  unfold dc16 ref04_Add
  refine tr_seq ?_
  refine tr_reg ?_
  refine trO_asg_nil (α := Int) rfl eI64 rfl ?_
  refine trO_nil ?_
  refine trX_seq ?_
  refine tr_seq ?_
  refine tr_reg ?_
  refine trO_asg_nil (α := Int) rfl eI64 rfl ?_
  refine trO_nil ?_
  refine trX_seq ?_
  refine tr_seq ?_
  refine tr_reg ?_
  refine trO_mv rfl rfl ?_
  refine trO_bind fun r3 hr3 => ?_
  refine trO_call_ground n2 rfl rfl rfl ref04_good_de rfl rfl (by simp) rfl hr3 rfl ?_
  refine trO_un (w := .bool (!r3)) rfl rfl rfl rfl trivial ?_
  refine trO_asg rfl rfl ?_
  refine trO_nil ?_
  refine trX_seq ?_
  refine tr_seq ?_
  refine tr_seq ?_
  refine tr_reg ?_
  refine trO_asg rfl rfl ?_
  refine trO_nil ?_
  refine trX_seq ?_
  refine tr_block ?_
  refine tr_loop (E := fun (s : (List Int) × Bool × Int) (g : Nat) => [(0, .sl (s1.map eI64)), (1, .int .i64 n2), (5, .osl 5 g 0 s.1.length), (6, .bool s.2.1), (7, .int .i64 s.2.2)]) (O := fun s g => [(5, some (g, ⟨false, false, 1, 3, s.1.map eI64⟩))]) (body := fun s => ref04_Add_b1 s1 n2 s.1 s.2.1 s.2.2) (s := (([] : List Int), (!r3), 0)) _ (has_exact ⟨rfl, rfl, rfl, rfl, rfl, trivial⟩ ⟨rfl, trivial⟩) ?_
  rintro ⟨out4, done5, i6⟩ v5 nn
  show Tr _ _ _ ⟨[(0, .sl (s1.map eI64)), (1, .int .i64 n2), (5, .osl 5 v5 0 out4.length), (6, .bool done5), (7, .int .i64 i6)], [(5, some (v5, ⟨false, false, 1, 3, out4.map eI64⟩))], _⟩ (ref04_Add_b1 s1 n2 out4 done5 i6)
  unfold ref04_Add_b1
  refine tr_seq ?_
  refine tr_seq ?_
  refine tr_reg ?_
  refine trO_mv rfl rfl ?_
  refine trO_mv rfl rfl ?_
  refine trO_len_sl rfl rfl ?_
  refine trO_bin (v := .bool (decide (i6 < (s1.length : Int)))) rfl rfl rfl rfl rfl ?_
  refine trO_nil ?_
  refine trX_seq ?_
  refine tr_cond (c := (decide (i6 < (s1.length : Int)))) rfl ?_ ?_
  ·
    refine tr_skip ?_
    refine trX_seq ?_
    refine tr_seq ?_
    refine tr_block ?_
    refine tr_seq_cut (E := fun (s : (List Int) × Bool) (g : Nat) => [(0, .sl (s1.map eI64)), (1, .int .i64 n2), (5, .osl 5 g 0 s.1.length), (6, .bool s.2), (7, .int .i64 i6)]) (O := fun s g => [(5, some (g, ⟨false, false, 1, 3, s.1.map eI64⟩))]) (j := fun s => ref04_Add_j2 s1 i6 s.1 s.2) ?_ ?_
    ·
      refine tr_seq_cut (E := fun (s : Bool) (g : Nat) => [(0, .sl (s1.map eI64)), (1, .int .i64 n2), (5, .osl 5 g 0 out4.length), (6, .bool done5), (7, .int .i64 i6), (26, .bool s)]) (O := fun s g => [(5, some (g, ⟨false, false, 1, 3, out4.map eI64⟩))]) (j := fun s => ref04_Add_j3 s1 i6 n2 out4 done5 s) ?_ ?_
      ·
        refine tr_reg ?_
        refine trO_mv rfl rfl ?_
        refine trO_un (w := .bool (!done5)) rfl rfl rfl rfl trivial ?_
        refine trO_mv rfl rfl ?_
        refine trO_split 19 (b := (!done5)) rfl ?_ ?_
        ·
          refine trO_mv rfl rfl ?_
          refine trO_mv rfl rfl ?_
          refine trO_bind fun x_x10 hx_x10 => ?_
          refine trO_ixA_sl (en := eI64) rfl rfl rfl hx_x10 rfl ?_
          refine trO_ld_f (v := .int .i64 x_x10) rfl rfl rfl rfl ?_
          refine trO_mv rfl rfl ?_
          refine trO_bin (v := .bool (decide (x_x10 ≥ n2))) rfl rfl rfl rfl rfl ?_
          refine trO_pick_true rfl rfl rfl rfl ?_
          refine trO_nil ?_
          exact trX_cut (s := (decide (x_x10 ≥ n2))) _ (has_exact ⟨rfl, rfl, rfl, rfl, rfl, rfl, trivial⟩ ⟨rfl, trivial⟩)
        ·
          refine trO_off rfl ?_
          refine trO_off rfl ?_
          refine trO_off rfl ?_
          refine trO_off rfl ?_
          refine trO_off rfl ?_
          refine trO_off rfl ?_
          refine trO_pick_false rfl rfl rfl rfl ?_
          refine trO_nil ?_
          exact trX_cut (s := false) _ (has_exact ⟨rfl, rfl, rfl, rfl, rfl, rfl, trivial⟩ ⟨rfl, trivial⟩)
      ·
        rintro x9 v5 nn
        show Tr _ _ _ ⟨[(0, .sl (s1.map eI64)), (1, .int .i64 n2), (5, .osl 5 v5 0 out4.length), (6, .bool done5), (7, .int .i64 i6), (26, .bool x9)], [(5, some (v5, ⟨false, false, 1, 3, out4.map eI64⟩))], _⟩ (ref04_Add_j3 s1 i6 n2 out4 done5 x9)
        unfold ref04_Add_j3
        refine tr_cond (c := x9) rfl ?_ ?_
        ·
          refine tr_seq ?_
          refine tr_seq ?_
          refine tr_reg ?_
          refine trO_mv rfl rfl ?_
          refine trO_mv rfl rfl ?_
          refine trO_bind fun x_x11 hx_x11 => ?_
          refine trO_ixA_sl (en := eI64) rfl rfl rfl hx_x11 rfl ?_
          refine trO_ld_f (v := .int .i64 x_x11) rfl rfl rfl rfl ?_
          refine trO_mv rfl rfl ?_
          refine trO_bin (v := .bool (decide (x_x11 > n2))) rfl rfl rfl rfl rfl ?_
          refine trO_nil ?_
          refine trX_seq ?_
          refine tr_cond (c := (decide (x_x11 > n2))) rfl ?_ ?_
          ·
            refine tr_reg ?_
            refine trO_mv rfl rfl ?_
            refine trO_mv rfl rfl ?_
            refine trO_bldS ([n2] : List Int) eI64 rfl rfl rfl (by simp) rfl rfl rfl ?_
            refine trO_chk fun hq => ?_
            refine trO_app (out4) (([n2] : List Int)) eI64 rfl rfl rfl rfl rfl rfl rfl (by simp) (take_drop0_map' _ _ rfl) rfl rfl (by simp) (take_len_map' _ _ rfl) (fun _ => rfl) rfl hq ?_
            refine trO_asg_own (l := out4 ++ ([n2] : List Int)) (en := eI64) rfl rfl rfl rfl ?_
            refine trO_nil ?_
            refine trX_seq ?_
            refine tr_reg ?_
            refine trO_asg rfl rfl ?_
            refine trO_nil ?_
            exact trX_cut (s := (out4 ++ ([n2] : List Int), true)) _ (has_exact ⟨rfl, rfl, rfl, rfl, rfl, trivial⟩ ⟨rfl, trivial⟩)
          ·
            refine tr_skip ?_
            refine trX_seq ?_
            refine tr_reg ?_
            refine trO_asg rfl rfl ?_
            refine trO_nil ?_
            exact trX_cut (s := (out4, true)) _ (has_exact ⟨rfl, rfl, rfl, rfl, rfl, trivial⟩ ⟨rfl, trivial⟩)
        ·
          refine tr_skip ?_
          exact trX_cut (s := (out4, done5)) _ (has_exact ⟨rfl, rfl, rfl, rfl, rfl, trivial⟩ ⟨rfl, trivial⟩)
    ·
      rintro ⟨out7, done8⟩ v5 nn
      show Tr _ _ _ ⟨[(0, .sl (s1.map eI64)), (1, .int .i64 n2), (5, .osl 5 v5 0 out7.length), (6, .bool done8), (7, .int .i64 i6)], [(5, some (v5, ⟨false, false, 1, 3, out7.map eI64⟩))], _⟩ (ref04_Add_j2 s1 i6 out7 done8)
      unfold ref04_Add_j2
      refine tr_reg ?_
      refine trO_mv rfl rfl ?_
      refine trO_mv rfl rfl ?_
      refine trO_mv rfl rfl ?_
      refine trO_bind fun x_x12 hx_x12 => ?_
      refine trO_ixA_sl (en := eI64) rfl rfl rfl hx_x12 rfl ?_
      refine trO_ld_f (v := .int .i64 x_x12) rfl rfl rfl rfl ?_
      refine trO_bldS ([x_x12] : List Int) eI64 rfl rfl rfl (by simp) rfl rfl rfl ?_
      refine trO_chk fun hq => ?_
      refine trO_app (out7) (([x_x12] : List Int)) eI64 rfl rfl rfl rfl rfl rfl rfl (by simp) (take_drop0_map' _ _ rfl) rfl rfl (by simp) (take_len_map' _ _ rfl) (fun _ => rfl) rfl hq ?_
      refine trO_asg_own (l := out7 ++ ([x_x12] : List Int)) (en := eI64) rfl rfl rfl rfl ?_
      refine trO_nil ?_
      refine trX_blk_normal ?_
      refine trX_seq ?_
      refine tr_reg ?_
      refine trO_mv rfl rfl ?_
      refine trO_bin (v := .int .i64 (IntKind.i64.wrap (i6 + 1))) rfl rfl rfl rfl rfl ?_
      refine trO_asg rfl rfl ?_
      refine trO_nil ?_
      exact trX_loop (s := (out7 ++ ([x_x12] : List Int), done8, IntKind.i64.wrap (i6 + 1))) _ (has_exact ⟨rfl, rfl, rfl, rfl, rfl, trivial⟩ ⟨rfl, trivial⟩)
  ·
    refine tr_exit ?_
    refine trX_seq_exit ?_
    refine trX_loop_exit ?_
    refine trX_blk_here ?_
    refine trX_seq ?_
    refine tr_seq ?_
    refine tr_seq ?_
    refine tr_reg ?_
    refine trO_mv rfl rfl ?_
    refine trO_un (w := .bool (!done5)) rfl rfl rfl rfl trivial ?_
    refine trO_nil ?_
    refine trX_seq ?_
    refine tr_cond (c := (!done5)) rfl ?_ ?_
    ·
      refine tr_reg ?_
      refine trO_mv rfl rfl ?_
      refine trO_mv rfl rfl ?_
      refine trO_bldS ([n2] : List Int) eI64 rfl rfl rfl (by simp) rfl rfl rfl ?_
      refine trO_chk fun hq => ?_
      refine trO_app (out4) (([n2] : List Int)) eI64 rfl rfl rfl rfl rfl rfl rfl (by simp) (take_drop0_map' _ _ rfl) rfl rfl (by simp) (take_len_map' _ _ rfl) (fun _ => rfl) rfl hq ?_
      refine trO_asg_own (l := out4 ++ ([n2] : List Int)) (en := eI64) rfl rfl rfl rfl ?_
      refine trO_nil ?_
      refine trX_seq ?_
      refine tr_seq ?_
      refine tr_reg ?_
      refine trO_mv rfl rfl ?_
      refine trO_asg_own (l := out4 ++ ([n2] : List Int)) (en := eI64) rfl rfl rfl rfl ?_
      refine trO_nil ?_
      refine trX_seq ?_
      refine tr_ret ?_
      exact ret_row (b := out4 ++ ([n2] : List Int)) rfl (by first | (simp; done) | (simp; omega)) rfl rfl (by first | (simp; done) | (simp; omega)) rfl (by first | (simp; done) | (simp; omega)) (congrArg D.sl (take_len_map' _ _ rfl)) rfl
    ·
      refine tr_skip ?_
      refine trX_seq ?_
      refine tr_seq ?_
      refine tr_reg ?_
      refine trO_mv rfl rfl ?_
      refine trO_asg_own (l := out4) (en := eI64) rfl rfl rfl rfl ?_
      refine trO_nil ?_
      refine trX_seq ?_
      refine tr_ret ?_
      exact ret_row (b := out4) rfl (by first | (simp; done) | (simp; omega)) rfl rfl (by first | (simp; done) | (simp; omega)) rfl (by first | (simp; done) | (simp; omega)) (congrArg D.sl (take_len_map' _ _ rfl)) rfl

def dc35 : DCode := (.seq (.reg [⟨(some 2), (.asg (.c (.bool false)) none), none, []⟩] false) (.seq (.reg [⟨(some 3), (.mv (.t 0)), none, []⟩, ⟨(some 4), (.nilck (.t 3)), none, [0]⟩, ⟨(some 5), (.fldA 1 (.t 4)), none, [1]⟩, ⟨(some 6), (.ld 1 false (.t 5)), none, [2]⟩, ⟨(some 7), (.mv (.t 0)), none, []⟩, ⟨(some 8), (.nilck (.t 7)), none, [4]⟩, ⟨(some 9), (.fldA 0 (.t 8)), none, [5]⟩, ⟨(some 10), (.ld 1 false (.t 9)), none, [6]⟩, ⟨(some 11), (.len false (.t 10)), none, [7]⟩, ⟨(some 12), (.bin .lss (.t 6) (.t 11)), none, [3, 8]⟩, ⟨(some 2), (.asg (.t 12) none), none, [9, 0, 1, 2, 3, 4, 5, 6, 7, 8, 9]⟩] true) .ret))
theorem dc35_c : (Try.f35.body.bind (cCode Try.prog Try.f35.ntmps)) = some dc35 := by kernel_rfl
theorem dc35_r : Try.f35.results.toList.mapM (cRes Try.prog) = some [(.t 2)] := by kernel_rfl
def draw_Codes_Left_enc (a : Tdraw_Codes) : List D := [edraw_Codes a]
def draw_Codes_Left_dec (ds : List D) : Tdraw_Codes := udraw_Codes (ds.getD 0 .top)
theorem draw_Codes_Left_de (a : Tdraw_Codes) : draw_Codes_Left_dec (draw_Codes_Left_enc a) = a := by simp [draw_Codes_Left_dec, draw_Codes_Left_enc, uI, uBo, uS]
def draw_Codes_Left_R (b : Bool × Tdraw_Codes) : D := .bool b.1
def draw_Codes_Left_E (b : Bool × Tdraw_Codes) : List D := [edraw_Codes b.2]
noncomputable def draw_Codes_Left_S : Dw.Spec := fSpec [(0, (2, 67))] .val draw_Codes_Left_enc draw_Codes_Left_dec (fun a => draw_Codes_Left a) draw_Codes_Left_R draw_Codes_Left_E
set_option maxHeartbeats 4000000 in
theorem draw_Codes_Left_ok : SpecOk Try.prog 35 draw_Codes_Left_S := by
  refine fn_ok (specs_nil) Try.func35 (by decide) dc35_c dc35_r (np := 1) (by decide) draw_Codes_Left_de (fun _ => rfl) ?_
  intro c1
  show Tr (specs []) dc35 (kRet [(0, (2, 67))] .val [(.t 2)] 1 draw_Codes_Left_R draw_Codes_Left_E) ⟨[(0, .optr 0 0 0 0)], [(0, some (0, ⟨false, true, 2, 67, [.agg [.sl (c1.list.map eU8), .int .i64 c1.at_]]⟩))], 1⟩ (draw_Codes_Left c1)
  unfold dc35 draw_Codes_Left
  refine tr_seq ?_
  refine tr_reg ?_
  refine trO_asg rfl rfl ?_
  refine trO_nil ?_
  refine trX_seq ?_
  refine tr_seq ?_
  refine tr_reg ?_
  refine trO_mv rfl rfl ?_
  refine trO_nilck rfl rfl rfl ?_
  refine trO_fldA rfl rfl ?_
  refine trO_ld_obj (v := .int .i64 c1.at_) (z := .agg [.sl (c1.list.map eU8), .int .i64 c1.at_]) rfl rfl rfl rfl rfl rfl ?_
  refine trO_mv rfl rfl ?_
  refine trO_nilck rfl rfl rfl ?_
  refine trO_fldA rfl rfl ?_
  refine trO_ld_obj (v := .sl (c1.list.map eU8)) (z := .agg [.sl (c1.list.map eU8), .int .i64 c1.at_]) rfl rfl rfl rfl rfl rfl ?_
  refine trO_len_sl rfl rfl ?_
  refine trO_bin (v := .bool (decide (c1.at_ < (c1.list.length : Int)))) rfl rfl rfl rfl rfl ?_
  refine trO_asg rfl rfl ?_
  refine trO_nil_draw (by kernel_rfl) ?_
  refine trX_seq ?_
  refine tr_ret ?_
  exact ret_val (b := ((decide (c1.at_ < (c1.list.length : Int))), c1)) rfl (by first | (simp; done) | (simp; omega)) rfl rfl (by first | (simp; done) | (simp; omega)) rfl

def dc22 : DCode := (.seq (.reg [⟨(some 4), (.asg (.c (.int .i64 0)) none), none, []⟩] false) (.seq (.seq (.reg [⟨(some 6), (.mv (.t 0)), none, []⟩, ⟨(some 7), (.call (.c (.clo 35 [])) [(.t 6)]), none, []⟩, ⟨(some 8), (.un .not (.t 7)), none, []⟩, ⟨(some 9), (.mv (.t 8)), none, []⟩, ⟨(some 10), (.mv (.t 1)), (some ⟨9, false⟩), []⟩, ⟨(some 11), (.bin .lss (.t 10) (.c (.int .i64 1))), (some ⟨9, false⟩), []⟩, ⟨(some 12), (.pick (.t 9) (.c (.bool true)) (.t 11)), none, []⟩] false) (.cond (.t 12) (.seq (.reg [⟨(some 4), (.asg (.c (.int .i64 0)) none), none, []⟩] false) .ret) .skip)) (.seq (.reg [⟨(some 13), (.mv (.t 0)), none, []⟩, ⟨(some 14), (.nilck (.t 13)), none, [0]⟩, ⟨(some 15), (.fldA 0 (.t 14)), none, [1]⟩, ⟨(some 16), (.ld 1 false (.t 15)), none, [2]⟩, ⟨(some 17), (.mv (.t 0)), none, []⟩, ⟨(some 18), (.nilck (.t 17)), none, [4]⟩, ⟨(some 19), (.fldA 1 (.t 18)), none, [5]⟩, ⟨(some 20), (.ld 1 false (.t 19)), none, [6]⟩, ⟨(some 21), (.ixA 1 (.t 16) (.t 20)), none, [3, 7]⟩, ⟨(some 22), (.ld 1 false (.t 21)), none, [8]⟩, ⟨(some 23), (.cvt .i64 (.t 22)), none, [9]⟩, ⟨(some 5), (.asg (.t 23) none), none, [10, 0, 1, 2, 3, 4, 5, 6, 7, 8, 9, 10]⟩] true) (.seq (.reg [⟨(some 24), (.mv (.t 0)), none, []⟩, ⟨(some 25), (.nilck (.t 24)), none, []⟩, ⟨(some 26), (.fldA 1 (.t 25)), none, []⟩, ⟨(some 27), (.ld 1 false (.t 26)), none, []⟩, ⟨(some 28), (.bin .add (.t 27) (.c (.int .i64 1))), none, []⟩, ⟨(some 29), (.nilck (.t 24)), none, []⟩, ⟨(some 30), (.fldA 1 (.t 29)), none, []⟩, ⟨none, (.st 1 (.t 30) (.t 28)), none, []⟩] false) (.seq (.reg [⟨(some 31), (.mv (.t 5)), none, []⟩, ⟨(some 32), (.mv (.t 1)), none, []⟩, ⟨(some 33), (.bin .mul (.t 31) (.t 32)), none, []⟩, ⟨(some 34), (.bin .quo (.t 33) (.c (.int .i64 256))), none, []⟩, ⟨(some 4), (.asg (.t 34) none), none, []⟩] false) .ret)))))
theorem dc22_c : (Try.f22.body.bind (cCode Try.prog Try.f22.ntmps)) = some dc22 := by kernel_rfl
theorem dc22_r : Try.f22.results.toList.mapM (cRes Try.prog) = some [(.t 4)] := by kernel_rfl
def draw_Codes_Next_enc (a : Tdraw_Codes × Int) : List D := [edraw_Codes a.1, .int .i64 a.2]
def draw_Codes_Next_dec (ds : List D) : Tdraw_Codes × Int := (udraw_Codes (ds.getD 0 .top), uI (ds.getD 1 .top))
theorem draw_Codes_Next_de (a : Tdraw_Codes × Int) : draw_Codes_Next_dec (draw_Codes_Next_enc a) = a := by simp [draw_Codes_Next_dec, draw_Codes_Next_enc, uI, uBo, uS]
def draw_Codes_Next_R (b : Int × Tdraw_Codes) : D := .int .i64 b.1
def draw_Codes_Next_E (b : Int × Tdraw_Codes) : List D := [edraw_Codes b.2]
noncomputable def draw_Codes_Next_S : Dw.Spec := fSpec [(0, (2, 67))] .val draw_Codes_Next_enc draw_Codes_Next_dec (fun a => draw_Codes_Next a.1 a.2) draw_Codes_Next_R draw_Codes_Next_E
set_option maxHeartbeats 4000000 in
theorem draw_Codes_Next_ok : SpecOk Try.prog 22 draw_Codes_Next_S := by
  refine fn_ok (specs_ok (l := [(35, draw_Codes_Left_S)]) (by simp [draw_Codes_Left_ok])) Try.func22 (by decide) dc22_c dc22_r (np := 2) (by decide) draw_Codes_Next_de (fun _ => rfl) ?_
  rintro ⟨c1, n2⟩
  show Tr (specs [(35, draw_Codes_Left_S)]) dc22 (kRet [(0, (2, 67))] .val [(.t 4)] 2 draw_Codes_Next_R draw_Codes_Next_E) ⟨[(0, .optr 0 0 0 0), (1, .int .i64 n2)], [(0, some (0, ⟨false, true, 2, 67, [.agg [.sl (c1.list.map eU8), .int .i64 c1.at_]]⟩))], 2⟩ (draw_Codes_Next c1 n2)
  unfold dc22 draw_Codes_Next
  refine tr_seq ?_
  refine tr_reg ?_
  refine trO_asg rfl rfl ?_
  refine trO_nil ?_
  refine trX_seq ?_
  refine tr_seq_cut (E := fun (s : (List Int) × Int) (g : Unit) => [(0, .optr 0 0 0 0), (1, .int .i64 n2)]) (O := fun s g => [(0, some (0, ⟨false, true, 2, 67, [.agg [.sl (s.1.map eU8), .int .i64 s.2]]⟩))]) (j := fun s => draw_Codes_Next_j1 n2 s.1 s.2) ?_ ?_
  ·
    refine tr_seq ?_
    refine tr_reg ?_
    refine trO_mv rfl rfl ?_
    refine trO_bind fun r5 hr5 => ?_
    refine trO_call_val c1 rfl rfl rfl draw_Codes_Left_de rfl rfl (by simp) rfl hr5 ?_
    refine trO_un (w := .bool (!r5.1)) rfl rfl rfl rfl trivial ?_
    refine trO_mv rfl rfl ?_
    refine trO_split 9 (b := (!r5.1)) rfl ?_ ?_
    ·
      refine trO_off rfl ?_
      refine trO_off rfl ?_
      refine trO_pick_true rfl rfl rfl rfl ?_
      refine trO_nil ?_
      refine trX_seq ?_
      refine tr_cond_true rfl ?_
      refine tr_seq ?_
      refine tr_reg ?_
      refine trO_asg rfl rfl ?_
      refine trO_nil ?_
      refine trX_seq ?_
      refine tr_ret ?_
      refine trX_cut_ret ?_
      exact ret_val (b := (0, r5.2)) rfl (by first | (simp; done) | (simp; omega)) rfl rfl (by first | (simp; done) | (simp; omega)) rfl
    ·
      refine trO_mv rfl rfl ?_
      refine trO_bin (v := .bool (decide (n2 < 1))) rfl rfl rfl rfl rfl ?_
      refine trO_pick_false rfl rfl rfl rfl ?_
      refine trO_nil ?_
      refine trX_seq ?_
      refine tr_cond (c := (decide (n2 < 1))) rfl ?_ ?_
      ·
        refine tr_seq ?_
        refine tr_reg ?_
        refine trO_asg rfl rfl ?_
        refine trO_nil ?_
        refine trX_seq ?_
        refine tr_ret ?_
        refine trX_cut_ret ?_
        exact ret_val (b := (0, r5.2)) rfl (by first | (simp; done) | (simp; omega)) rfl rfl (by first | (simp; done) | (simp; omega)) rfl
      ·
        refine tr_skip ?_
        exact trX_cut (s := (r5.2.list, r5.2.at_)) () (has_exact ⟨rfl, rfl, trivial⟩ ⟨rfl, trivial⟩)
  ·
    rintro ⟨c3, c4⟩ ⟨⟩ nn
    show Tr _ _ _ ⟨[(0, .optr 0 0 0 0), (1, .int .i64 n2)], [(0, some (0, ⟨false, true, 2, 67, [.agg [.sl (c3.map eU8), .int .i64 c4]]⟩))], _⟩ (draw_Codes_Next_j1 n2 c3 c4)
    unfold draw_Codes_Next_j1
    refine tr_seq ?_
    refine tr_reg ?_
    refine trO_mv rfl rfl ?_
    refine trO_nilck rfl rfl rfl ?_
    refine trO_fldA rfl rfl ?_
    refine trO_ld_obj (v := .sl (c3.map eU8)) (z := .agg [.sl (c3.map eU8), .int .i64 c4]) rfl rfl rfl rfl rfl rfl ?_
    refine trO_mv rfl rfl ?_
    refine trO_nilck rfl rfl rfl ?_
    refine trO_fldA rfl rfl ?_
    refine trO_ld_obj (v := .int .i64 c4) (z := .agg [.sl (c3.map eU8), .int .i64 c4]) rfl rfl rfl rfl rfl rfl ?_
    refine trO_bind fun x_x6 hx_x6 => ?_
    refine trO_ixA_sl (en := eU8) rfl rfl rfl hx_x6 rfl ?_
    refine trO_ld_f (v := .int .u8 x_x6) rfl rfl rfl rfl ?_
    refine trO_cvt rfl rfl ?_
    refine trO_asg rfl rfl ?_
    refine trO_nil_draw (by kernel_rfl) ?_
    refine trX_seq ?_
    refine tr_seq ?_
    refine tr_reg ?_
    refine trO_mv rfl rfl ?_
    refine trO_nilck rfl rfl rfl ?_
    refine trO_fldA rfl rfl ?_
    refine trO_ld_obj (v := .int .i64 c4) (z := .agg [.sl (c3.map eU8), .int .i64 c4]) rfl rfl rfl rfl rfl rfl ?_
    refine trO_bin (v := .int .i64 (IntKind.i64.wrap (c4 + 1))) rfl rfl rfl rfl rfl ?_
    refine trO_nilck rfl rfl rfl ?_
    refine trO_fldA rfl rfl ?_
    refine trO_st_var (z' := .agg [.sl (c3.map eU8), .int .i64 (IntKind.i64.wrap (c4 + 1))]) rfl rfl rfl rfl rfl rfl rfl rfl rfl ?_
    refine trO_nil ?_
    refine trX_seq ?_
    refine tr_seq ?_
    refine tr_reg ?_
    refine trO_mv rfl rfl ?_
    refine trO_mv rfl rfl ?_
    refine trO_bin (v := .int .i64 (IntKind.i64.wrap ((IntKind.i64.wrap (x_x6)) * n2))) rfl rfl rfl rfl rfl ?_
    refine trO_bin (v := .int .i64 (IntKind.i64.wrap ((IntKind.i64.wrap ((IntKind.i64.wrap (x_x6)) * n2)).tdiv 256))) rfl rfl rfl rfl ⟨rfl, (by decide)⟩ ?_
    refine trO_asg rfl rfl ?_
    refine trO_nil ?_
    refine trX_seq ?_
    refine tr_ret ?_
    exact ret_val (b := (IntKind.i64.wrap ((IntKind.i64.wrap ((IntKind.i64.wrap (x_x6)) * n2)).tdiv 256), (Tdraw_Codes.mk c3 (IntKind.i64.wrap (c4 + 1))))) rfl (by first | (simp; done) | (simp; omega)) rfl rfl (by first | (simp; done) | (simp; omega)) rfl

def dc15 : DCode := (.seq (.reg [⟨(some 6), (.asg (.c .nils) (some ⟨1, 43⟩)), none, []⟩] false) (.seq (.reg [⟨(some 12), (.mv (.t 0)), none, []⟩, ⟨(some 13), (.mv (.t 1)), none, []⟩, ⟨(some 14), (.call (.c (.clo 22 [])) [(.t 12), (.t 13)]), none, []⟩, ⟨(some 15), (.bin .add (.c (.int .i64 1)) (.t 14)), none, []⟩, ⟨(some 7), (.asg (.t 15) none), none, []⟩] false) (.seq (.reg [⟨(some 16), (.mv (.t 7)), none, []⟩, ⟨(some 17), (.mkS 1 43 24 (.sl []) (.t 16) (.t 16)), none, []⟩, ⟨(some 8), (.asg (.t 17) (some ⟨1, 43⟩)), none, []⟩] false) (.seq (.seq (.reg [⟨(some 9), (.asg (.c (.int .i64 0)) none), none, []⟩] false) (.block 0 (.loop (.seq (.seq (.reg [⟨(some 18), (.mv (.t 9)), none, []⟩, ⟨(some 19), (.mv (.t 7)), none, []⟩, ⟨(some 20), (.bin .lss (.t 18) (.t 19)), none, []⟩] false) (.cond (.t 20) .skip (.exit 0))) (.seq (.block 1 (.seq (.reg [⟨(some 23), (.mv (.t 0)), none, []⟩, ⟨(some 24), (.call (.c (.clo 22 [])) [(.t 23), (.c (.int .i64 4))]), none, []⟩, ⟨(some 10), (.asg (.t 24) none), none, []⟩] false) (.block 2 (.loop (.seq (.seq (.reg [⟨(some 25), (.mv (.t 10)), none, []⟩, ⟨(some 26), (.bin .gtr (.t 25) (.c (.int .i64 0))), none, []⟩] false) (.cond (.t 26) .skip (.exit 2))) (.seq (.block 3 (.seq (.reg [⟨(some 29), (.mv (.t 0)), none, []⟩, ⟨(some 30), (.mv (.t 7)), none, []⟩, ⟨(some 31), (.call (.c (.clo 22 [])) [(.t 29), (.t 30)]), none, []⟩, ⟨(some 11), (.asg (.t 31) none), none, []⟩] false) (.seq (.seq (.reg [⟨(some 32), (.mv (.t 2)), none, []⟩, ⟨(some 33), (.mv (.t 32)), none, []⟩, ⟨(some 34), (.mv (.t 9)), (some ⟨33, true⟩), []⟩, ⟨(some 35), (.bin .add (.t 34) (.c (.int .i64 1))), (some ⟨33, true⟩), []⟩, ⟨(some 36), (.mv (.t 7)), (some ⟨33, true⟩), []⟩, ⟨(some 37), (.bin .lss (.t 35) (.t 36)), (some ⟨33, true⟩), []⟩, ⟨(some 38), (.pick (.t 33) (.t 37) (.c (.bool false))), none, []⟩] false) (.cond (.t 38) (.reg [⟨(some 39), (.mv (.t 9)), none, []⟩, ⟨(some 40), (.bin .add (.t 39) (.c (.int .i64 1))), none, []⟩, ⟨(some 41), (.mv (.t 0)), none, []⟩, ⟨(some 42), (.mv (.t 7)), none, []⟩, ⟨(some 43), (.mv (.t 9)), none, []⟩, ⟨(some 44), (.bin .sub (.t 42) (.t 43)), none, []⟩, ⟨(some 45), (.bin .sub (.t 44) (.c (.int .i64 1))), none, []⟩, ⟨(some 46), (.call (.c (.clo 22 [])) [(.t 41), (.t 45)]), none, []⟩, ⟨(some 47), (.bin .add (.t 40) (.t 46)), none, []⟩, ⟨(some 11), (.asg (.t 47) none), none, []⟩] false) .skip)) (.seq (.reg [⟨(some 48), (.mv (.t 2)), none, []⟩, ⟨(some 49), (.un .not (.t 48)), none, []⟩, ⟨(some 50), (.mv (.t 49)), none, []⟩, ⟨(some 51), (.mv (.t 9)), (some ⟨50, false⟩), []⟩, ⟨(some 52), (.bin .add (.t 51) (.c (.int .i64 1))), (some ⟨50, false⟩), []⟩, ⟨(some 53), (.mv (.t 7)), (some ⟨50, false⟩), []⟩, ⟨(some 54), (.bin .lss (.t 52) (.t 53)), (some ⟨50, false⟩), []⟩, ⟨(some 55), (.pick (.t 50) (.c (.bool true)) (.t 54)), none, []⟩] false) (.cond (.t 55) (.reg [⟨(some 56), (.mv (.t 8)), none, []⟩, ⟨(some 57), (.mv (.t 9)), none, []⟩, ⟨(some 58), (.mv (.t 8)), none, []⟩, ⟨(some 59), (.mv (.t 9)), none, []⟩, ⟨(some 60), (.ixA 1 (.t 58) (.t 59)), none, []⟩, ⟨(some 61), (.ld 1 false (.t 60)), none, []⟩, ⟨(some 62), (.mv (.t 11)), none, []⟩, ⟨(some 63), (.call (.c (.clo 16 [])) [(.t 61), (.t 62)]), none, []⟩, ⟨(some 64), (.ixA 1 (.t 56) (.t 57)), none, []⟩, ⟨none, (.st 1 (.t 64) (.t 63)), none, []⟩] false) .skip))))) (.reg [⟨(some 27), (.mv (.t 10)), none, []⟩, ⟨(some 28), (.bin .sub (.t 27) (.c (.int .i64 1))), none, []⟩, ⟨(some 10), (.asg (.t 28) none), none, []⟩] false))))))) (.reg [⟨(some 21), (.mv (.t 9)), none, []⟩, ⟨(some 22), (.bin .add (.t 21) (.c (.int .i64 1))), none, []⟩, ⟨(some 9), (.asg (.t 22) none), none, []⟩] false)))))) (.seq (.reg [⟨(some 65), (.mv (.t 8)), none, []⟩, ⟨(some 6), (.asg (.t 65) (some ⟨1, 43⟩)), none, []⟩] false) .ret)))))
theorem dc15_c : (Try.f15.body.bind (cCode Try.prog Try.f15.ntmps)) = some dc15 := by kernel_rfl
theorem dc15_r : Try.f15.results.toList.mapM (cRes Try.prog) = some [(.t 6)] := by kernel_rfl
def draw_Codes_Graph_enc (a : Tdraw_Codes × Int × Bool) : List D := [edraw_Codes a.1, .int .i64 a.2.1, .bool a.2.2]
def draw_Codes_Graph_dec (ds : List D) : Tdraw_Codes × Int × Bool := (udraw_Codes (ds.getD 0 .top), uI (ds.getD 1 .top), uBo (ds.getD 2 .top))
theorem draw_Codes_Graph_de (a : Tdraw_Codes × Int × Bool) : draw_Codes_Graph_dec (draw_Codes_Graph_enc a) = a := by simp [draw_Codes_Graph_dec, draw_Codes_Graph_enc, uI, uBo, uS]
def draw_Codes_Graph_R (b : (List (List Int)) × Tdraw_Codes) : D := .sl (b.1.map (eL eI64))
def draw_Codes_Graph_E (b : (List (List Int)) × Tdraw_Codes) : List D := [edraw_Codes b.2]
noncomputable def draw_Codes_Graph_S : Dw.Spec := fSpec [(0, (2, 67))] (.row 1 43) draw_Codes_Graph_enc draw_Codes_Graph_dec (fun a => draw_Codes_Graph a.1 a.2.1 a.2.2) draw_Codes_Graph_R draw_Codes_Graph_E
set_option maxHeartbeats 4000000 in
theorem draw_Codes_Graph_ok : SpecOk Try.prog 15 draw_Codes_Graph_S := by
  refine fn_ok (specs_ok (l := [(22, draw_Codes_Next_S), (16, ref04_Add_S)]) (by simp [draw_Codes_Next_ok, ref04_Add_ok])) Try.func15 (by decide) dc15_c dc15_r (np := 3) (by decide) draw_Codes_Graph_de (fun _ => rfl) ?_
  rintro ⟨c1, most2, free3⟩
  show Tr (specs [(22, draw_Codes_Next_S), (16, ref04_Add_S)]) dc15 (kRet [(0, (2, 67))] (.row 1 43) [(.t 6)] 3 draw_Codes_Graph_R draw_Codes_Graph_E) ⟨[(0, .optr 0 0 0 0), (1, .int .i64 most2), (2, .bool free3)], [(0, some (0, ⟨false, true, 2, 67, [.agg [.sl (c1.list.map eU8), .int .i64 c1.at_]]⟩))], 3⟩ (draw_Codes_Graph c1 most2 free3)
  unfold dc15 draw_Codes_Graph
  refine tr_seq ?_
  refine tr_reg ?_
  refine trO_asg_nil (α := (List Int)) rfl (eL eI64) rfl ?_
  refine trO_nil ?_
  refine trX_seq ?_
  refine tr_seq ?_
  refine tr_reg ?_
  refine trO_mv rfl rfl ?_
  refine trO_mv rfl rfl ?_
  refine trO_bind fun r4 hr4 => ?_
  refine trO_call_val (c1, most2) rfl rfl rfl draw_Codes_Next_de rfl rfl (by simp) rfl hr4 ?_
  refine trO_bin (v := .int .i64 (IntKind.i64.wrap (1 + r4.1))) rfl rfl rfl rfl rfl ?_
  refine trO_asg rfl rfl ?_
  refine trO_nil ?_
  refine trX_seq ?_
  refine tr_seq ?_
  refine tr_reg ?_
  refine trO_mv rfl rfl ?_
  refine trO_chk fun hq => ?_
  refine trO_mkS (q := ([] : List Int)) (eL eI64) rfl rfl rfl rfl hq rfl ?_
  refine trO_asg_own (l := List.replicate (IntKind.i64.wrap (1 + r4.1)).toNat ([] : List Int)) (en := (eL eI64)) rfl rfl rfl rfl ?_
  refine trO_nil ?_
  refine trX_seq ?_
  refine tr_seq ?_
  refine tr_seq ?_
  refine tr_reg ?_
  refine trO_asg rfl rfl ?_
  refine trO_nil ?_
  refine trX_seq ?_
  refine tr_block ?_
  refine tr_loop (E := fun (s : (List Int) × Int × (List (List Int)) × Int) (g : Nat) => [(0, .optr 0 0 0 0), (2, .bool free3), (7, .int .i64 (IntKind.i64.wrap (1 + r4.1))), (8, .osl 8 g 0 s.2.2.1.length), (9, .int .i64 s.2.2.2)]) (O := fun s g => [(0, some (0, ⟨false, true, 2, 67, [.agg [.sl (s.1.map eU8), .int .i64 s.2.1]]⟩)), (8, some (g, ⟨false, false, 1, 43, s.2.2.1.map (eL eI64)⟩))]) (body := fun s => draw_Codes_Graph_b1 r4 free3 s.1 s.2.1 s.2.2.1 s.2.2.2) (s := (r4.2.list, r4.2.at_, List.replicate (IntKind.i64.wrap (1 + r4.1)).toNat ([] : List Int), 0)) _ (has_exact ⟨rfl, rfl, rfl, rfl, rfl, trivial⟩ ⟨rfl, rfl, trivial⟩) ?_
  rintro ⟨c5, c6, g7, i8⟩ v8 nn
  show Tr _ _ _ ⟨[(0, .optr 0 0 0 0), (2, .bool free3), (7, .int .i64 (IntKind.i64.wrap (1 + r4.1))), (8, .osl 8 v8 0 g7.length), (9, .int .i64 i8)], [(0, some (0, ⟨false, true, 2, 67, [.agg [.sl (c5.map eU8), .int .i64 c6]]⟩)), (8, some (v8, ⟨false, false, 1, 43, g7.map (eL eI64)⟩))], _⟩ (draw_Codes_Graph_b1 r4 free3 c5 c6 g7 i8)
  unfold draw_Codes_Graph_b1
  refine tr_seq ?_
  refine tr_seq ?_
  refine tr_reg ?_
  refine trO_mv rfl rfl ?_
  refine trO_mv rfl rfl ?_
  refine trO_bin (v := .bool (decide (i8 < (IntKind.i64.wrap (1 + r4.1))))) rfl rfl rfl rfl rfl ?_
  refine trO_nil ?_
  refine trX_seq ?_
  refine tr_cond (c := (decide (i8 < (IntKind.i64.wrap (1 + r4.1))))) rfl ?_ ?_
  ·
    refine tr_skip ?_
    refine trX_seq ?_
    refine tr_seq_blk_cut (E := fun (s : (List Int) × Int × (List (List Int))) (g : Nat) => [(0, .optr 0 0 0 0), (2, .bool free3), (7, .int .i64 (IntKind.i64.wrap (1 + r4.1))), (8, .osl 8 g 0 s.2.2.length), (9, .int .i64 i8)]) (O := fun s g => [(0, some (0, ⟨false, true, 2, 67, [.agg [.sl (s.1.map eU8), .int .i64 s.2.1]]⟩)), (8, some (g, ⟨false, false, 1, 43, s.2.2.map (eL eI64)⟩))]) (j := fun s => draw_Codes_Graph_j2 i8 s.1 s.2.1 s.2.2) ?_ ?_
    ·
      refine tr_seq ?_
      refine tr_reg ?_
      refine trO_mv rfl rfl ?_
      refine trO_bind fun r12 hr12 => ?_
      refine trO_call_val ((Tdraw_Codes.mk c5 c6), 4) rfl rfl rfl draw_Codes_Next_de rfl rfl (by simp) rfl hr12 ?_
      refine trO_asg rfl rfl ?_
      refine trO_nil ?_
      refine trX_seq ?_
      refine tr_block ?_
      refine tr_loop (E := fun (s : (List Int) × Int × (List (List Int)) × Int) (g : Nat) => [(0, .optr 0 0 0 0), (2, .bool free3), (7, .int .i64 (IntKind.i64.wrap (1 + r4.1))), (8, .osl 8 g 0 s.2.2.1.length), (9, .int .i64 i8), (10, .int .i64 s.2.2.2)]) (O := fun s g => [(0, some (0, ⟨false, true, 2, 67, [.agg [.sl (s.1.map eU8), .int .i64 s.2.1]]⟩)), (8, some (g, ⟨false, false, 1, 43, s.2.2.1.map (eL eI64)⟩))]) (body := fun s => draw_Codes_Graph_b3 r4 free3 i8 s.1 s.2.1 s.2.2.1 s.2.2.2) (s := (r12.2.list, r12.2.at_, g7, r12.1)) _ (has_exact ⟨rfl, rfl, rfl, rfl, rfl, rfl, trivial⟩ ⟨rfl, rfl, trivial⟩) ?_
      rintro ⟨c13, c14, g15, k16⟩ v8 nn
      show Tr _ _ _ ⟨[(0, .optr 0 0 0 0), (2, .bool free3), (7, .int .i64 (IntKind.i64.wrap (1 + r4.1))), (8, .osl 8 v8 0 g15.length), (9, .int .i64 i8), (10, .int .i64 k16)], [(0, some (0, ⟨false, true, 2, 67, [.agg [.sl (c13.map eU8), .int .i64 c14]]⟩)), (8, some (v8, ⟨false, false, 1, 43, g15.map (eL eI64)⟩))], _⟩ (draw_Codes_Graph_b3 r4 free3 i8 c13 c14 g15 k16)
      unfold draw_Codes_Graph_b3
      refine tr_seq ?_
      refine tr_seq ?_
      refine tr_reg ?_
      refine trO_mv rfl rfl ?_
      refine trO_bin (v := .bool (decide (k16 > 0))) rfl rfl rfl rfl rfl ?_
      refine trO_nil ?_
      refine trX_seq ?_
      refine tr_cond (c := (decide (k16 > 0))) rfl ?_ ?_
      ·
        refine tr_skip ?_
        refine trX_seq ?_
        refine tr_seq ?_
        refine tr_block ?_
        refine tr_seq ?_
        refine tr_reg ?_
        refine trO_mv rfl rfl ?_
        refine trO_mv rfl rfl ?_
        refine trO_bind fun r17 hr17 => ?_
        refine trO_call_val ((Tdraw_Codes.mk c13 c14), IntKind.i64.wrap (1 + r4.1)) rfl rfl rfl draw_Codes_Next_de rfl rfl (by simp) rfl hr17 ?_
        refine trO_asg rfl rfl ?_
        refine trO_nil ?_
        refine trX_seq ?_
        refine tr_seq_cut (E := fun (s : (List Int) × Int × Int) (g : Nat) => [(0, .optr 0 0 0 0), (2, .bool free3), (7, .int .i64 (IntKind.i64.wrap (1 + r4.1))), (8, .osl 8 g 0 g15.length), (9, .int .i64 i8), (10, .int .i64 k16), (11, .int .i64 s.2.2)]) (O := fun s g => [(0, some (0, ⟨false, true, 2, 67, [.agg [.sl (s.1.map eU8), .int .i64 s.2.1]]⟩)), (8, some (g, ⟨false, false, 1, 43, g15.map (eL eI64)⟩))]) (j := fun s => draw_Codes_Graph_j4 free3 i8 g15 k16 r4 s.1 s.2.1 s.2.2) ?_ ?_
        ·
          refine tr_seq_cut (E := fun (s : Bool) (g : Nat) => [(0, .optr 0 0 0 0), (2, .bool free3), (7, .int .i64 (IntKind.i64.wrap (1 + r4.1))), (8, .osl 8 g 0 g15.length), (9, .int .i64 i8), (10, .int .i64 k16), (11, .int .i64 r17.1), (38, .bool s)]) (O := fun s g => [(0, some (0, ⟨false, true, 2, 67, [.agg [.sl (r17.2.list.map eU8), .int .i64 r17.2.at_]]⟩)), (8, some (g, ⟨false, false, 1, 43, g15.map (eL eI64)⟩))]) (j := fun s => draw_Codes_Graph_j5 r17 r4 i8 free3 g15 k16 s) ?_ ?_
          ·
            refine tr_reg ?_
            refine trO_mv rfl rfl ?_
            refine trO_mv rfl rfl ?_
            refine trO_split 33 (b := free3) rfl ?_ ?_
            ·
              refine trO_mv rfl rfl ?_
              refine trO_bin (v := .int .i64 (IntKind.i64.wrap (i8 + 1))) rfl rfl rfl rfl rfl ?_
              refine trO_mv rfl rfl ?_
              refine trO_bin (v := .bool (decide ((IntKind.i64.wrap (i8 + 1)) < (IntKind.i64.wrap (1 + r4.1))))) rfl rfl rfl rfl rfl ?_
              refine trO_pick_true rfl rfl rfl rfl ?_
              refine trO_nil ?_
              exact trX_cut (s := (decide ((IntKind.i64.wrap (i8 + 1)) < (IntKind.i64.wrap (1 + r4.1))))) _ (has_exact ⟨rfl, rfl, rfl, rfl, rfl, rfl, rfl, rfl, trivial⟩ ⟨rfl, rfl, trivial⟩)
            ·
              refine trO_off rfl ?_
              refine trO_off rfl ?_
              refine trO_off rfl ?_
              refine trO_off rfl ?_
              refine trO_pick_false rfl rfl rfl rfl ?_
              refine trO_nil ?_
              exact trX_cut (s := false) _ (has_exact ⟨rfl, rfl, rfl, rfl, rfl, rfl, rfl, rfl, trivial⟩ ⟨rfl, rfl, trivial⟩)
          ·
            rintro x21 v8 nn
            show Tr _ _ _ ⟨[(0, .optr 0 0 0 0), (2, .bool free3), (7, .int .i64 (IntKind.i64.wrap (1 + r4.1))), (8, .osl 8 v8 0 g15.length), (9, .int .i64 i8), (10, .int .i64 k16), (11, .int .i64 r17.1), (38, .bool x21)], [(0, some (0, ⟨false, true, 2, 67, [.agg [.sl (r17.2.list.map eU8), .int .i64 r17.2.at_]]⟩)), (8, some (v8, ⟨false, false, 1, 43, g15.map (eL eI64)⟩))], _⟩ (draw_Codes_Graph_j5 r17 r4 i8 free3 g15 k16 x21)
            unfold draw_Codes_Graph_j5
            refine tr_cond (c := x21) rfl ?_ ?_
            ·
              refine tr_reg ?_
              refine trO_mv rfl rfl ?_
              refine trO_bin (v := .int .i64 (IntKind.i64.wrap (i8 + 1))) rfl rfl rfl rfl rfl ?_
              refine trO_mv rfl rfl ?_
              refine trO_mv rfl rfl ?_
              refine trO_mv rfl rfl ?_
              refine trO_bin (v := .int .i64 (IntKind.i64.wrap ((IntKind.i64.wrap (1 + r4.1)) - i8))) rfl rfl rfl rfl rfl ?_
              refine trO_bin (v := .int .i64 (IntKind.i64.wrap ((IntKind.i64.wrap ((IntKind.i64.wrap (1 + r4.1)) - i8)) - 1))) rfl rfl rfl rfl rfl ?_
              refine trO_bind fun r22 hr22 => ?_
              refine trO_call_val (r17.2, IntKind.i64.wrap ((IntKind.i64.wrap ((IntKind.i64.wrap (1 + r4.1)) - i8)) - 1)) rfl rfl rfl draw_Codes_Next_de rfl rfl (by simp) rfl hr22 ?_
              refine trO_bin (v := .int .i64 (IntKind.i64.wrap ((IntKind.i64.wrap (i8 + 1)) + r22.1))) rfl rfl rfl rfl rfl ?_
              refine trO_asg rfl rfl ?_
              refine trO_nil ?_
              exact trX_cut (s := (r22.2.list, r22.2.at_, IntKind.i64.wrap ((IntKind.i64.wrap (i8 + 1)) + r22.1))) _ (has_exact ⟨rfl, rfl, rfl, rfl, rfl, rfl, rfl, trivial⟩ ⟨rfl, rfl, trivial⟩)
            ·
              refine tr_skip ?_
              exact trX_cut (s := (r17.2.list, r17.2.at_, r17.1)) _ (has_exact ⟨rfl, rfl, rfl, rfl, rfl, rfl, rfl, trivial⟩ ⟨rfl, rfl, trivial⟩)
        ·
          rintro ⟨c18, c19, j20⟩ v8 nn
          show Tr _ _ _ ⟨[(0, .optr 0 0 0 0), (2, .bool free3), (7, .int .i64 (IntKind.i64.wrap (1 + r4.1))), (8, .osl 8 v8 0 g15.length), (9, .int .i64 i8), (10, .int .i64 k16), (11, .int .i64 j20)], [(0, some (0, ⟨false, true, 2, 67, [.agg [.sl (c18.map eU8), .int .i64 c19]]⟩)), (8, some (v8, ⟨false, false, 1, 43, g15.map (eL eI64)⟩))], _⟩ (draw_Codes_Graph_j4 free3 i8 g15 k16 r4 c18 c19 j20)
          unfold draw_Codes_Graph_j4
          refine tr_seq_cut (E := fun (s : Bool) (g : Nat) => [(0, .optr 0 0 0 0), (2, .bool free3), (7, .int .i64 (IntKind.i64.wrap (1 + r4.1))), (8, .osl 8 g 0 g15.length), (9, .int .i64 i8), (10, .int .i64 k16), (11, .int .i64 j20), (55, .bool s)]) (O := fun s g => [(0, some (0, ⟨false, true, 2, 67, [.agg [.sl (c18.map eU8), .int .i64 c19]]⟩)), (8, some (g, ⟨false, false, 1, 43, g15.map (eL eI64)⟩))]) (j := fun s => draw_Codes_Graph_j6 i8 g15 j20 c18 c19 k16 s) ?_ ?_
          ·
            refine tr_reg ?_
            refine trO_mv rfl rfl ?_
            refine trO_un (w := .bool (!free3)) rfl rfl rfl rfl trivial ?_
            refine trO_mv rfl rfl ?_
            refine trO_split 50 (b := (!free3)) rfl ?_ ?_
            ·
              refine trO_off rfl ?_
              refine trO_off rfl ?_
              refine trO_off rfl ?_
              refine trO_off rfl ?_
              refine trO_pick_true rfl rfl rfl rfl ?_
              refine trO_nil ?_
              exact trX_cut (s := true) _ (has_exact ⟨rfl, rfl, rfl, rfl, rfl, rfl, rfl, rfl, trivial⟩ ⟨rfl, rfl, trivial⟩)
            ·
              refine trO_mv rfl rfl ?_
              refine trO_bin (v := .int .i64 (IntKind.i64.wrap (i8 + 1))) rfl rfl rfl rfl rfl ?_
              refine trO_mv rfl rfl ?_
              refine trO_bin (v := .bool (decide ((IntKind.i64.wrap (i8 + 1)) < (IntKind.i64.wrap (1 + r4.1))))) rfl rfl rfl rfl rfl ?_
              refine trO_pick_false rfl rfl rfl rfl ?_
              refine trO_nil ?_
              exact trX_cut (s := (decide ((IntKind.i64.wrap (i8 + 1)) < (IntKind.i64.wrap (1 + r4.1))))) _ (has_exact ⟨rfl, rfl, rfl, rfl, rfl, rfl, rfl, rfl, trivial⟩ ⟨rfl, rfl, trivial⟩)
          ·
            rintro x23 v8 nn
            show Tr _ _ _ ⟨[(0, .optr 0 0 0 0), (2, .bool free3), (7, .int .i64 (IntKind.i64.wrap (1 + r4.1))), (8, .osl 8 v8 0 g15.length), (9, .int .i64 i8), (10, .int .i64 k16), (11, .int .i64 j20), (55, .bool x23)], [(0, some (0, ⟨false, true, 2, 67, [.agg [.sl (c18.map eU8), .int .i64 c19]]⟩)), (8, some (v8, ⟨false, false, 1, 43, g15.map (eL eI64)⟩))], _⟩ (draw_Codes_Graph_j6 i8 g15 j20 c18 c19 k16 x23)
            unfold draw_Codes_Graph_j6
            refine tr_cond (c := x23) rfl ?_ ?_
            ·
              refine tr_reg ?_
              refine trO_mv rfl rfl ?_
              refine trO_mv rfl rfl ?_
              refine trO_mv rfl rfl ?_
              refine trO_mv rfl rfl ?_
              refine trO_chk fun hq => ?_
              refine trO_ixA_own (l := g15) (en := (eL eI64)) rfl rfl rfl rfl rfl hq ?_
              refine trO_bind fun g_e24 hg_e24 => ?_
              refine trO_ld_obj (v := .sl (g_e24.map eI64)) (z := (eL eI64) g_e24) rfl rfl rfl (map_get hg_e24) rfl rfl ?_
              refine trO_mv rfl rfl ?_
              refine trO_bind fun r25 hr25 => ?_
              refine trO_call_row (l := r25) (en := eI64) (g_e24, j20) rfl rfl rfl ref04_Add_de rfl rfl (by simp) rfl hr25 rfl ?_
              refine trO_chk fun hq => ?_
              refine trO_ixA_own (l := g15) (en := (eL eI64)) rfl rfl rfl rfl rfl hq ?_
              refine trO_bind fun g_o26 hg_o26 => ?_
              refine trO_st_elem (l := g15) (en := (eL eI64)) (q' := r25) rfl rfl rfl rfl rfl rfl rfl (by simp) hg_o26 rfl rfl rfl (by simp [setE, cells, setAt, eL]) rfl ?_
              refine trO_nil ?_
              refine trX_blk_normal ?_
              refine trX_seq ?_
              refine tr_reg ?_
              refine trO_mv rfl rfl ?_
              refine trO_bin (v := .int .i64 (IntKind.i64.wrap (k16 - 1))) rfl rfl rfl rfl rfl ?_
              refine trO_asg rfl rfl ?_
              refine trO_nil ?_
              exact trX_loop (s := (c18, c19, g15.set i8.toNat r25, IntKind.i64.wrap (k16 - 1))) _ (has_exact ⟨rfl, rfl, rfl, (osl_len (q := g15.length) rfl (by simp)), rfl, rfl, trivial⟩ ⟨rfl, rfl, trivial⟩)
            ·
              refine tr_skip ?_
              refine trX_blk_normal ?_
              refine trX_seq ?_
              refine tr_reg ?_
              refine trO_mv rfl rfl ?_
              refine trO_bin (v := .int .i64 (IntKind.i64.wrap (k16 - 1))) rfl rfl rfl rfl rfl ?_
              refine trO_asg rfl rfl ?_
              refine trO_nil ?_
              exact trX_loop (s := (c18, c19, g15, IntKind.i64.wrap (k16 - 1))) _ (has_exact ⟨rfl, rfl, rfl, rfl, rfl, rfl, trivial⟩ ⟨rfl, rfl, trivial⟩)
      ·
        refine tr_exit ?_
        refine trX_seq_exit ?_
        refine trX_loop_exit ?_
        refine trX_blk_here ?_
        exact trX_bcut_normal (s := (c13, c14, g15)) _ (has_exact ⟨rfl, rfl, rfl, rfl, rfl, trivial⟩ ⟨rfl, rfl, trivial⟩)
    ·
      rintro ⟨c9, c10, g11⟩ v8 nn
      show Tr _ _ _ ⟨[(0, .optr 0 0 0 0), (2, .bool free3), (7, .int .i64 (IntKind.i64.wrap (1 + r4.1))), (8, .osl 8 v8 0 g11.length), (9, .int .i64 i8)], [(0, some (0, ⟨false, true, 2, 67, [.agg [.sl (c9.map eU8), .int .i64 c10]]⟩)), (8, some (v8, ⟨false, false, 1, 43, g11.map (eL eI64)⟩))], _⟩ (draw_Codes_Graph_j2 i8 c9 c10 g11)
      unfold draw_Codes_Graph_j2
      refine tr_reg ?_
      refine trO_mv rfl rfl ?_
      refine trO_bin (v := .int .i64 (IntKind.i64.wrap (i8 + 1))) rfl rfl rfl rfl rfl ?_
      refine trO_asg rfl rfl ?_
      refine trO_nil ?_
      exact trX_loop (s := (c9, c10, g11, IntKind.i64.wrap (i8 + 1))) _ (has_exact ⟨rfl, rfl, rfl, rfl, rfl, trivial⟩ ⟨rfl, rfl, trivial⟩)
  ·
    refine tr_exit ?_
    refine trX_seq_exit ?_
    refine trX_loop_exit ?_
    refine trX_blk_here ?_
    refine trX_seq ?_
    refine tr_seq ?_
    refine tr_reg ?_
    refine trO_mv rfl rfl ?_
    refine trO_asg_own (l := g7) (en := (eL eI64)) rfl rfl rfl rfl ?_
    refine trO_nil ?_
    refine trX_seq ?_
    refine tr_ret ?_
    exact ret_row (b := (g7, (Tdraw_Codes.mk c5 c6))) rfl (by first | (simp; done) | (simp; omega)) rfl rfl (by first | (simp; done) | (simp; omega)) rfl (by first | (simp; done) | (simp; omega)) (congrArg D.sl (take_len_map' _ _ rfl)) rfl

def dc43 : DCode := (.seq (.reg [⟨(some 2), (.asg (.c (.bool false)) none), none, []⟩] false) (.seq (.reg [⟨(some 3), (.mv (.t 0)), none, []⟩, ⟨(some 4), (.bin .geq (.t 3) (.c (.int .i64 0))), none, []⟩, ⟨(some 5), (.mv (.t 4)), none, []⟩, ⟨(some 6), (.mv (.t 0)), (some ⟨5, true⟩), []⟩, ⟨(some 7), (.bin .lss (.t 6) (.c (.int .i64 512))), (some ⟨5, true⟩), []⟩, ⟨(some 8), (.pick (.t 5) (.t 7) (.c (.bool false))), none, []⟩, ⟨(some 2), (.asg (.t 8) none), none, []⟩] false) .ret))
theorem dc43_c : (Try.f43.body.bind (cCode Try.prog Try.f43.ntmps)) = some dc43 := by kernel_rfl
theorem dc43_r : Try.f43.results.toList.mapM (cRes Try.prog) = some [(.t 2)] := by kernel_rfl
def bitset_within_int_enc (a : Int) : List D := [.int .i64 a]
def bitset_within_int_dec (ds : List D) : Int := uI (ds.getD 0 .top)
theorem bitset_within_int_de (a : Int) : bitset_within_int_dec (bitset_within_int_enc a) = a := by simp [bitset_within_int_dec, bitset_within_int_enc, uI, uBo, uS]
def bitset_within_int_R (b : Bool) : D := .bool b
def bitset_within_int_E (_b : Bool) : List D := []
noncomputable def bitset_within_int_S : Dw.Spec := fSpec [] .ground bitset_within_int_enc bitset_within_int_dec (fun a => bitset_within_int a) bitset_within_int_R bitset_within_int_E
set_option maxHeartbeats 4000000 in
theorem bitset_within_int_ok : SpecOk Try.prog 43 bitset_within_int_S := by
  refine fn_ok (specs_nil) Try.func43 (by decide) dc43_c dc43_r (np := 1) (by decide) bitset_within_int_de (fun _ => rfl) ?_
  intro n1
  show Tr (specs []) dc43 (kRet [] .ground [(.t 2)] 1 bitset_within_int_R bitset_within_int_E) ⟨[(0, .int .i64 n1)], [], 1⟩ (bitset_within_int n1)
  unfold dc43 bitset_within_int
  refine tr_seq ?_
  refine tr_reg ?_
  refine trO_asg rfl rfl ?_
  refine trO_nil ?_
  refine trX_seq ?_
  refine tr_seq ?_
  refine tr_reg ?_
  refine trO_mv rfl rfl ?_
  refine trO_bin (v := .bool (decide (n1 ≥ 0))) rfl rfl rfl rfl rfl ?_
  refine trO_mv rfl rfl ?_
  refine trO_split 5 (b := (decide (n1 ≥ 0))) rfl ?_ ?_
  ·
    refine trO_mv rfl rfl ?_
    refine trO_bin (v := .bool (decide (n1 < 512))) rfl rfl rfl rfl rfl ?_
    refine trO_pick_true rfl rfl rfl rfl ?_
    refine trO_asg rfl rfl ?_
    refine trO_nil ?_
    refine trX_seq ?_
    refine tr_ret ?_
    exact ret_ground (b := (decide (n1 < 512))) rfl (by first | (simp; done) | (simp; omega)) rfl rfl (by first | (simp; done) | (simp; omega)) rfl
  ·
    refine trO_off rfl ?_
    refine trO_off rfl ?_
    refine trO_pick_false rfl rfl rfl rfl ?_
    refine trO_asg rfl rfl ?_
    refine trO_nil ?_
    refine trX_seq ?_
    refine tr_ret ?_
    exact ret_ground (b := false) rfl (by first | (simp; done) | (simp; omega)) rfl rfl (by first | (simp; done) | (simp; omega)) rfl

def dc29 : DCode := (.seq (.reg [⟨(some 2), (.asg (.c (.bool false)) none), none, []⟩] false) (.seq (.seq (.reg [⟨(some 5), (.mv (.t 0)), none, []⟩, ⟨(some 6), (.len false (.t 5)), none, []⟩, ⟨(some 7), (.mv (.c (.int .i64 0))), none, []⟩] false) (.block 0 (.loop (.seq (.reg [⟨(some 8), (.bin .lss (.t 7) (.t 6)), none, []⟩] false) (.seq (.cond (.t 8) .skip (.exit 0)) (.seq (.block 1 (.seq (.reg [⟨(some 9), (.mv (.t 7)), none, []⟩, ⟨(some 10), (.ixA 1 (.t 5) (.t 7)), none, []⟩, ⟨(some 11), (.ld 1 false (.t 10)), none, []⟩, ⟨(some 3), (.asg (.t 9) none), none, []⟩, ⟨(some 4), (.asg (.t 11) none), none, []⟩] false) (.seq (.reg [⟨(some 12), (.mv (.t 4)), none, []⟩, ⟨(some 13), (.call (.c (.clo 43 [])) [(.t 12)]), none, []⟩, ⟨(some 14), (.un .not (.t 13)), none, []⟩, ⟨(some 15), (.mv (.t 14)), none, []⟩, ⟨(some 16), (.mv (.t 3)), (some ⟨15, false⟩), []⟩, ⟨(some 17), (.bin .gtr (.t 16) (.c (.int .i64 0))), (some ⟨15, false⟩), []⟩, ⟨(some 18), (.mv (.t 17)), (some ⟨15, false⟩), []⟩, ⟨(some 19), (.mv (.t 4)), (some ⟨18, true⟩), []⟩, ⟨(some 20), (.mv (.t 0)), (some ⟨18, true⟩), []⟩, ⟨(some 21), (.mv (.t 3)), (some ⟨18, true⟩), []⟩, ⟨(some 22), (.bin .sub (.t 21) (.c (.int .i64 1))), (some ⟨18, true⟩), []⟩, ⟨(some 23), (.ixA 1 (.t 20) (.t 22)), (some ⟨18, true⟩), []⟩, ⟨(some 24), (.ld 1 false (.t 23)), (some ⟨18, true⟩), []⟩, ⟨(some 25), (.bin .leq (.t 19) (.t 24)), (some ⟨18, true⟩), []⟩, ⟨(some 26), (.pick (.t 18) (.t 25) (.c (.bool false))), (some ⟨15, false⟩), []⟩, ⟨(some 27), (.pick (.t 15) (.c (.bool true)) (.t 26)), none, []⟩] false) (.cond (.t 27) (.seq (.reg [⟨(some 2), (.asg (.c (.bool false)) none), none, []⟩] false) .ret) .skip)))) (.reg [⟨(some 28), (.bin .add (.t 7) (.c (.int .i64 1))), none, []⟩, ⟨(some 7), (.mv (.t 28)), none, []⟩] false))))))) (.seq (.reg [⟨(some 2), (.asg (.c (.bool true)) none), none, []⟩] false) .ret)))
theorem dc29_c : (Try.f29.body.bind (cCode Try.prog Try.f29.ntmps)) = some dc29 := by kernel_rfl
theorem dc29_r : Try.f29.results.toList.mapM (cRes Try.prog) = some [(.t 2)] := by kernel_rfl
def bitset_Check_enc (a : (List Int)) : List D := [.sl (a.map eI64)]
def bitset_Check_dec (ds : List D) : (List Int) := (uL uI) (ds.getD 0 .top)
theorem bitset_Check_de (a : (List Int)) : bitset_Check_dec (bitset_Check_enc a) = a := by simp [bitset_Check_dec, bitset_Check_enc, uI, uBo, uS, uL_e (u := uI) (en := eI64) (fun _ => rfl)]
def bitset_Check_R (b : Bool) : D := .bool b
def bitset_Check_E (_b : Bool) : List D := []
noncomputable def bitset_Check_S : Dw.Spec := fSpec [] .ground bitset_Check_enc bitset_Check_dec (fun a => bitset_Check a) bitset_Check_R bitset_Check_E
set_option maxHeartbeats 4000000 in
theorem bitset_Check_ok : SpecOk Try.prog 29 bitset_Check_S := by
  refine fn_ok (specs_ok (l := [(43, bitset_within_int_S)]) (by simp [bitset_within_int_ok])) Try.func29 (by decide) dc29_c dc29_r (np := 1) (by decide) bitset_Check_de (fun _ => rfl) ?_
  intro s1
  show Tr (specs [(43, bitset_within_int_S)]) dc29 (kRet [] .ground [(.t 2)] 1 bitset_Check_R bitset_Check_E) ⟨[(0, .sl (s1.map eI64))], [], 1⟩ (bitset_Check s1)
  unfold dc29 bitset_Check
  refine tr_seq ?_
  refine tr_reg ?_
  refine trO_asg rfl rfl ?_
  refine trO_nil ?_
  refine trX_seq ?_
  refine tr_seq ?_
  refine tr_seq ?_
  refine tr_reg ?_
  refine trO_mv rfl rfl ?_
  refine trO_len_sl rfl rfl ?_
  refine trO_mv rfl rfl ?_
  refine trO_nil ?_
  refine trX_seq ?_
  refine tr_block ?_
  refine tr_loop (E := fun (s : Int) (g : Unit) => [(0, .sl (s1.map eI64)), (5, .sl (s1.map eI64)), (6, .int .i64 (s1.length : Int)), (7, .int .i64 s)]) (O := fun s g => []) (body := fun s => bitset_Check_b1 s1 s) (s := 0) () (has_exact ⟨rfl, rfl, rfl, rfl, trivial⟩ trivial) ?_
  rintro x2 ⟨⟩ nn
  show Tr _ _ _ ⟨[(0, .sl (s1.map eI64)), (5, .sl (s1.map eI64)), (6, .int .i64 (s1.length : Int)), (7, .int .i64 x2)], [], _⟩ (bitset_Check_b1 s1 x2)
  unfold bitset_Check_b1
  refine tr_seq ?_
  refine tr_reg ?_
  refine trO_bin (v := .bool (decide (x2 < (s1.length : Int)))) rfl rfl rfl rfl rfl ?_
  refine trO_nil ?_
  refine trX_seq ?_
  refine tr_seq ?_
  refine tr_cond (c := (decide (x2 < (s1.length : Int)))) rfl ?_ ?_
  ·
    refine tr_skip ?_
    refine trX_seq ?_
    refine tr_seq ?_
    refine tr_block ?_
    refine tr_seq ?_
    refine tr_reg ?_
    refine trO_mv rfl rfl ?_
    refine trO_bind fun x_x3 hx_x3 => ?_
    refine trO_ixA_sl (en := eI64) rfl rfl rfl hx_x3 rfl ?_
    refine trO_ld_f (v := .int .i64 x_x3) rfl rfl rfl rfl ?_
    refine trO_asg rfl rfl ?_
    refine trO_asg rfl rfl ?_
    refine trO_nil ?_
    refine trX_seq ?_
    refine tr_seq ?_
    refine tr_reg ?_
    refine trO_mv rfl rfl ?_
    refine trO_bind fun r4 hr4 => ?_
    refine trO_call_ground x_x3 rfl rfl rfl bitset_within_int_de rfl rfl (by simp) rfl hr4 rfl ?_
    refine trO_un (w := .bool (!r4)) rfl rfl rfl rfl trivial ?_
    refine trO_mv rfl rfl ?_
    refine trO_split 15 (b := (!r4)) rfl ?_ ?_
    ·
      refine trO_off rfl ?_
      refine trO_off rfl ?_
      refine trO_off rfl ?_
      refine trO_off rfl ?_
      refine trO_off rfl ?_
      refine trO_off rfl ?_
      refine trO_off rfl ?_
      refine trO_off rfl ?_
      refine trO_off rfl ?_
      refine trO_off rfl ?_
      refine trO_off rfl ?_
      refine trO_pick_true rfl rfl rfl rfl ?_
      refine trO_nil ?_
      refine trX_seq ?_
      refine tr_cond_true rfl ?_
      refine tr_seq ?_
      refine tr_reg ?_
      refine trO_asg rfl rfl ?_
      refine trO_nil ?_
      refine trX_seq ?_
      refine tr_ret ?_
      refine trX_blk_ret ?_
      refine trX_seq_ret ?_
      refine trX_loop_ret ?_
      refine trX_blk_ret ?_
      refine trX_seq_ret ?_
      exact ret_ground (b := false) rfl (by first | (simp; done) | (simp; omega)) rfl rfl (by first | (simp; done) | (simp; omega)) rfl
    ·
      refine trO_mv rfl rfl ?_
      refine trO_bin (v := .bool (decide (x2 > 0))) rfl rfl rfl rfl rfl ?_
      refine trO_mv rfl rfl ?_
      refine trO_split 18 (b := (decide (x2 > 0))) rfl ?_ ?_
      ·
        refine trO_mv rfl rfl ?_
        refine trO_mv rfl rfl ?_
        refine trO_mv rfl rfl ?_
        refine trO_bin (v := .int .i64 (IntKind.i64.wrap (x2 - 1))) rfl rfl rfl rfl rfl ?_
        refine trO_bind fun x_x5 hx_x5 => ?_
        refine trO_ixA_sl (en := eI64) rfl rfl rfl hx_x5 rfl ?_
        refine trO_ld_f (v := .int .i64 x_x5) rfl rfl rfl rfl ?_
        refine trO_bin (v := .bool (decide (x_x3 ≤ x_x5))) rfl rfl rfl rfl rfl ?_
        refine trO_pick_true rfl rfl rfl rfl ?_
        refine trO_pick_false rfl rfl rfl rfl ?_
        refine trO_nil ?_
        refine trX_seq ?_
        refine tr_cond (c := (decide (x_x3 ≤ x_x5))) rfl ?_ ?_
        ·
          refine tr_seq ?_
          refine tr_reg ?_
          refine trO_asg rfl rfl ?_
          refine trO_nil ?_
          refine trX_seq ?_
          refine tr_ret ?_
          refine trX_blk_ret ?_
          refine trX_seq_ret ?_
          refine trX_loop_ret ?_
          refine trX_blk_ret ?_
          refine trX_seq_ret ?_
          exact ret_ground (b := false) rfl (by first | (simp; done) | (simp; omega)) rfl rfl (by first | (simp; done) | (simp; omega)) rfl
        ·
          refine tr_skip ?_
          refine trX_blk_normal ?_
          refine trX_seq ?_
          refine tr_reg ?_
          refine trO_bin (v := .int .i64 (IntKind.i64.wrap (x2 + 1))) rfl rfl rfl rfl rfl ?_
          refine trO_mv rfl rfl ?_
          refine trO_nil ?_
          exact trX_loop (s := IntKind.i64.wrap (x2 + 1)) () (has_exact ⟨rfl, rfl, rfl, rfl, trivial⟩ trivial)
      ·
        refine trO_off rfl ?_
        refine trO_off rfl ?_
        refine trO_off rfl ?_
        refine trO_off rfl ?_
        refine trO_off rfl ?_
        refine trO_off rfl ?_
        refine trO_off rfl ?_
        refine trO_pick_false rfl rfl rfl rfl ?_
        refine trO_pick_false rfl rfl rfl rfl ?_
        refine trO_nil ?_
        refine trX_seq ?_
        refine tr_cond_false rfl ?_
        refine tr_skip ?_
        refine trX_blk_normal ?_
        refine trX_seq ?_
        refine tr_reg ?_
        refine trO_bin (v := .int .i64 (IntKind.i64.wrap (x2 + 1))) rfl rfl rfl rfl rfl ?_
        refine trO_mv rfl rfl ?_
        refine trO_nil ?_
        exact trX_loop (s := IntKind.i64.wrap (x2 + 1)) () (has_exact ⟨rfl, rfl, rfl, rfl, trivial⟩ trivial)
  ·
    refine tr_exit ?_
    refine trX_seq_exit ?_
    refine trX_loop_exit ?_
    refine trX_blk_here ?_
    refine trX_seq ?_
    refine tr_seq ?_
    refine tr_reg ?_
    refine trO_asg rfl rfl ?_
    refine trO_nil ?_
    refine trX_seq ?_
    refine tr_ret ?_
    exact ret_ground (b := true) rfl (by first | (simp; done) | (simp; omega)) rfl rfl (by first | (simp; done) | (simp; omega)) rfl

def dc44 : DCode := (.seq (.reg [⟨(some 4), (.asg (.c (.int .i64 0)) none), none, []⟩] false) (.seq (.seq (.reg [⟨(some 6), (.mv (.t 0)), none, []⟩, ⟨(some 7), (.len false (.t 6)), none, []⟩, ⟨(some 8), (.mv (.c (.int .i64 0))), none, []⟩] false) (.block 0 (.loop (.seq (.reg [⟨(some 9), (.bin .lss (.t 8) (.t 7)), none, []⟩] false) (.seq (.cond (.t 9) .skip (.exit 0)) (.seq (.block 1 (.seq (.reg [⟨(some 10), (.mv (.t 8)), none, []⟩, ⟨(some 5), (.asg (.t 10) none), none, []⟩] false) (.seq (.reg [⟨(some 11), (.mv (.t 1)), none, []⟩, ⟨(some 12), (.mv (.t 0)), none, []⟩, ⟨(some 13), (.mv (.t 5)), none, []⟩, ⟨(some 14), (.ixA 1 (.t 12) (.t 13)), none, []⟩, ⟨(some 15), (.ld 1 false (.t 14)), none, []⟩, ⟨(some 16), (.bin .eql (.t 11) (.t 15)), none, []⟩] false) (.cond (.t 16) (.seq (.reg [⟨(some 17), (.mv (.t 5)), none, []⟩, ⟨(some 4), (.asg (.t 17) none), none, []⟩] false) .ret) .skip)))) (.reg [⟨(some 18), (.bin .add (.t 8) (.c (.int .i64 1))), none, []⟩, ⟨(some 8), (.mv (.t 18)), none, []⟩] false))))))) (.seq (.reg [⟨(some 4), (.asg (.c (.int .i64 (-1))) none), none, []⟩] false) .ret)))
theorem dc44_c : (Try.f44.body.bind (cCode Try.prog Try.f44.ntmps)) = some dc44 := by kernel_rfl
theorem dc44_r : Try.f44.results.toList.mapM (cRes Try.prog) = some [(.t 4)] := by kernel_rfl
def slices_Index_int_int_enc (a : (List Int) × Int) : List D := [.sl (a.1.map eI64), .int .i64 a.2]
def slices_Index_int_int_dec (ds : List D) : (List Int) × Int := ((uL uI) (ds.getD 0 .top), uI (ds.getD 1 .top))
theorem slices_Index_int_int_de (a : (List Int) × Int) : slices_Index_int_int_dec (slices_Index_int_int_enc a) = a := by simp [slices_Index_int_int_dec, slices_Index_int_int_enc, uI, uBo, uS, uL_e (u := uI) (en := eI64) (fun _ => rfl)]
def slices_Index_int_int_R (b : Int) : D := .int .i64 b
def slices_Index_int_int_E (_b : Int) : List D := []
noncomputable def slices_Index_int_int_S : Dw.Spec := fSpec [] .ground slices_Index_int_int_enc slices_Index_int_int_dec (fun a => slices_Index_int_int a.1 a.2) slices_Index_int_int_R slices_Index_int_int_E
set_option maxHeartbeats 4000000 in
theorem slices_Index_int_int_ok : SpecOk Try.prog 44 slices_Index_int_int_S := by
  refine fn_ok (specs_nil) Try.func44 (by decide) dc44_c dc44_r (np := 2) (by decide) slices_Index_int_int_de (fun _ => rfl) ?_
  rintro ⟨s1, v2⟩
  show Tr (specs []) dc44 (kRet [] .ground [(.t 4)] 2 slices_Index_int_int_R slices_Index_int_int_E) ⟨[(0, .sl (s1.map eI64)), (1, .int .i64 v2)], [], 2⟩ (slices_Index_int_int s1 v2)
  unfold dc44 slices_Index_int_int
  refine tr_seq ?_
  refine tr_reg ?_
  refine trO_asg rfl rfl ?_
  refine trO_nil ?_
  refine trX_seq ?_
  refine tr_seq ?_
  refine tr_seq ?_
  refine tr_reg ?_
  refine trO_mv rfl rfl ?_
  refine trO_len_sl rfl rfl ?_
  refine trO_mv rfl rfl ?_
  refine trO_nil ?_
  refine trX_seq ?_
  refine tr_block ?_
  refine tr_loop (E := fun (s : Int) (g : Unit) => [(0, .sl (s1.map eI64)), (1, .int .i64 v2), (7, .int .i64 (s1.length : Int)), (8, .int .i64 s)]) (O := fun s g => []) (body := fun s => slices_Index_int_int_b1 s1 v2 s) (s := 0) () (has_exact ⟨rfl, rfl, rfl, rfl, trivial⟩ trivial) ?_
  rintro x3 ⟨⟩ nn
  show Tr _ _ _ ⟨[(0, .sl (s1.map eI64)), (1, .int .i64 v2), (7, .int .i64 (s1.length : Int)), (8, .int .i64 x3)], [], _⟩ (slices_Index_int_int_b1 s1 v2 x3)
  unfold slices_Index_int_int_b1
  refine tr_seq ?_
  refine tr_reg ?_
  refine trO_bin (v := .bool (decide (x3 < (s1.length : Int)))) rfl rfl rfl rfl rfl ?_
  refine trO_nil ?_
  refine trX_seq ?_
  refine tr_seq ?_
  refine tr_cond (c := (decide (x3 < (s1.length : Int)))) rfl ?_ ?_
  ·
    refine tr_skip ?_
    refine trX_seq ?_
    refine tr_seq ?_
    refine tr_block ?_
    refine tr_seq ?_
    refine tr_reg ?_
    refine trO_mv rfl rfl ?_
    refine trO_asg rfl rfl ?_
    refine trO_nil ?_
    refine trX_seq ?_
    refine tr_seq ?_
    refine tr_reg ?_
    refine trO_mv rfl rfl ?_
    refine trO_mv rfl rfl ?_
    refine trO_mv rfl rfl ?_
    refine trO_bind fun x_x4 hx_x4 => ?_
    refine trO_ixA_sl (en := eI64) rfl rfl rfl hx_x4 rfl ?_
    refine trO_ld_f (v := .int .i64 x_x4) rfl rfl rfl rfl ?_
    refine trO_bin (v := .bool (v2 == x_x4)) rfl rfl rfl rfl rfl ?_
    refine trO_nil ?_
    refine trX_seq ?_
    refine tr_cond (c := (v2 == x_x4)) rfl ?_ ?_
    ·
      refine tr_seq ?_
      refine tr_reg ?_
      refine trO_mv rfl rfl ?_
      refine trO_asg rfl rfl ?_
      refine trO_nil ?_
      refine trX_seq ?_
      refine tr_ret ?_
      refine trX_blk_ret ?_
      refine trX_seq_ret ?_
      refine trX_loop_ret ?_
      refine trX_blk_ret ?_
      refine trX_seq_ret ?_
      exact ret_ground (b := x3) rfl (by first | (simp; done) | (simp; omega)) rfl rfl (by first | (simp; done) | (simp; omega)) rfl
    ·
      refine tr_skip ?_
      refine trX_blk_normal ?_
      refine trX_seq ?_
      refine tr_reg ?_
      refine trO_bin (v := .int .i64 (IntKind.i64.wrap (x3 + 1))) rfl rfl rfl rfl rfl ?_
      refine trO_mv rfl rfl ?_
      refine trO_nil ?_
      exact trX_loop (s := IntKind.i64.wrap (x3 + 1)) () (has_exact ⟨rfl, rfl, rfl, rfl, trivial⟩ trivial)
  ·
    refine tr_exit ?_
    refine trX_seq_exit ?_
    refine trX_loop_exit ?_
    refine trX_blk_here ?_
    refine trX_seq ?_
    refine tr_seq ?_
    refine tr_reg ?_
    refine trO_asg rfl rfl ?_
    refine trO_nil ?_
    refine trX_seq ?_
    refine tr_ret ?_
    exact ret_ground (b := (-1)) rfl (by first | (simp; done) | (simp; omega)) rfl rfl (by first | (simp; done) | (simp; omega)) rfl

def dc30 : DCode := (.seq (.reg [⟨(some 4), (.asg (.c (.bool false)) none), none, []⟩] false) (.seq (.reg [⟨(some 5), (.mv (.t 0)), none, []⟩, ⟨(some 6), (.mv (.t 1)), none, []⟩, ⟨(some 7), (.call (.c (.clo 44 [])) [(.t 5), (.t 6)]), none, []⟩, ⟨(some 8), (.bin .geq (.t 7) (.c (.int .i64 0))), none, []⟩, ⟨(some 4), (.asg (.t 8) none), none, []⟩] false) .ret))
theorem dc30_c : (Try.f30.body.bind (cCode Try.prog Try.f30.ntmps)) = some dc30 := by kernel_rfl
theorem dc30_r : Try.f30.results.toList.mapM (cRes Try.prog) = some [(.t 4)] := by kernel_rfl
def slices_Contains_int_int_enc (a : (List Int) × Int) : List D := [.sl (a.1.map eI64), .int .i64 a.2]
def slices_Contains_int_int_dec (ds : List D) : (List Int) × Int := ((uL uI) (ds.getD 0 .top), uI (ds.getD 1 .top))
theorem slices_Contains_int_int_de (a : (List Int) × Int) : slices_Contains_int_int_dec (slices_Contains_int_int_enc a) = a := by simp [slices_Contains_int_int_dec, slices_Contains_int_int_enc, uI, uBo, uS, uL_e (u := uI) (en := eI64) (fun _ => rfl)]
def slices_Contains_int_int_R (b : Bool) : D := .bool b
def slices_Contains_int_int_E (_b : Bool) : List D := []
noncomputable def slices_Contains_int_int_S : Dw.Spec := fSpec [] .ground slices_Contains_int_int_enc slices_Contains_int_int_dec (fun a => slices_Contains_int_int a.1 a.2) slices_Contains_int_int_R slices_Contains_int_int_E
set_option maxHeartbeats 4000000 in
theorem slices_Contains_int_int_ok : SpecOk Try.prog 30 slices_Contains_int_int_S := by
  refine fn_ok (specs_ok (l := [(44, slices_Index_int_int_S)]) (by simp [slices_Index_int_int_ok])) Try.func30 (by decide) dc30_c dc30_r (np := 2) (by decide) slices_Contains_int_int_de (fun _ => rfl) ?_
  rintro ⟨s1, v2⟩
  show Tr (specs [(44, slices_Index_int_int_S)]) dc30 (kRet [] .ground [(.t 4)] 2 slices_Contains_int_int_R slices_Contains_int_int_E) ⟨[(0, .sl (s1.map eI64)), (1, .int .i64 v2)], [], 2⟩ (slices_Contains_int_int s1 v2)
  unfold dc30 slices_Contains_int_int
  refine tr_seq ?_
  refine tr_reg ?_
  refine trO_asg rfl rfl ?_
  refine trO_nil ?_
  refine trX_seq ?_
  refine tr_seq ?_
  refine tr_reg ?_
  refine trO_mv rfl rfl ?_
  refine trO_mv rfl rfl ?_
  refine trO_bind fun r3 hr3 => ?_
  refine trO_call_ground (s1, v2) rfl rfl rfl slices_Index_int_int_de rfl rfl (by simp) rfl hr3 rfl ?_
  refine trO_bin (v := .bool (decide (r3 ≥ 0))) rfl rfl rfl rfl rfl ?_
  refine trO_asg rfl rfl ?_
  refine trO_nil ?_
  refine trX_seq ?_
  refine tr_ret ?_
  exact ret_ground (b := (decide (r3 ≥ 0))) rfl (by first | (simp; done) | (simp; omega)) rfl rfl (by first | (simp; done) | (simp; omega)) rfl

def dc52 : DCode := (.seq (.reg [⟨(some 2), (.asg (.c (.bool false)) none), none, []⟩] false) (.seq (.reg [⟨(some 3), (.mv (.t 0)), none, []⟩, ⟨(some 4), (.mv (.t 0)), none, []⟩, ⟨(some 5), (.bin .neq (.t 3) (.t 4)), none, []⟩, ⟨(some 2), (.asg (.t 5) none), none, []⟩] false) .ret))
theorem dc52_c : (Try.f52.body.bind (cCode Try.prog Try.f52.ntmps)) = some dc52 := by kernel_rfl
theorem dc52_r : Try.f52.results.toList.mapM (cRes Try.prog) = some [(.t 2)] := by kernel_rfl
def cmp_isNaN_int_enc (a : Int) : List D := [.int .i64 a]
def cmp_isNaN_int_dec (ds : List D) : Int := uI (ds.getD 0 .top)
theorem cmp_isNaN_int_de (a : Int) : cmp_isNaN_int_dec (cmp_isNaN_int_enc a) = a := by simp [cmp_isNaN_int_dec, cmp_isNaN_int_enc, uI, uBo, uS]
def cmp_isNaN_int_R (b : Bool) : D := .bool b
def cmp_isNaN_int_E (_b : Bool) : List D := []
noncomputable def cmp_isNaN_int_S : Dw.Spec := fSpec [] .ground cmp_isNaN_int_enc cmp_isNaN_int_dec (fun a => cmp_isNaN_int a) cmp_isNaN_int_R cmp_isNaN_int_E
set_option maxHeartbeats 4000000 in
theorem cmp_isNaN_int_ok : SpecOk Try.prog 52 cmp_isNaN_int_S := by
  refine fn_ok (specs_nil) Try.func52 (by decide) dc52_c dc52_r (np := 1) (by decide) cmp_isNaN_int_de (fun _ => rfl) ?_
  intro x1
  show Tr (specs []) dc52 (kRet [] .ground [(.t 2)] 1 cmp_isNaN_int_R cmp_isNaN_int_E) ⟨[(0, .int .i64 x1)], [], 1⟩ (cmp_isNaN_int x1)
  unfold dc52 cmp_isNaN_int
  refine tr_seq ?_
  refine tr_reg ?_
  refine trO_asg rfl rfl ?_
  refine trO_nil ?_
  refine trX_seq ?_
  refine tr_seq ?_
  refine tr_reg ?_
  refine trO_mv rfl rfl ?_
  refine trO_mv rfl rfl ?_
  refine trO_bin (v := .bool (x1 != x1)) rfl rfl rfl rfl rfl ?_
  refine trO_asg rfl rfl ?_
  refine trO_nil ?_
  refine trX_seq ?_
  refine tr_ret ?_
  exact ret_ground (b := (x1 != x1)) rfl (by first | (simp; done) | (simp; omega)) rfl rfl (by first | (simp; done) | (simp; omega)) rfl

def dc45 : DCode := (.seq (.reg [⟨(some 4), (.asg (.c (.bool false)) none), none, []⟩] false) (.seq (.reg [⟨(some 5), (.mv (.t 0)), none, []⟩, ⟨(some 6), (.call (.c (.clo 52 [])) [(.t 5)]), none, []⟩, ⟨(some 7), (.mv (.t 6)), none, []⟩, ⟨(some 8), (.mv (.t 1)), (some ⟨7, true⟩), []⟩, ⟨(some 9), (.call (.c (.clo 52 [])) [(.t 8)]), (some ⟨7, true⟩), []⟩, ⟨(some 10), (.un .not (.t 9)), (some ⟨7, true⟩), []⟩, ⟨(some 11), (.pick (.t 7) (.t 10) (.c (.bool false))), none, []⟩, ⟨(some 12), (.mv (.t 11)), none, []⟩, ⟨(some 13), (.mv (.t 0)), (some ⟨12, false⟩), []⟩, ⟨(some 14), (.mv (.t 1)), (some ⟨12, false⟩), []⟩, ⟨(some 15), (.bin .lss (.t 13) (.t 14)), (some ⟨12, false⟩), []⟩, ⟨(some 16), (.pick (.t 12) (.c (.bool true)) (.t 15)), none, []⟩, ⟨(some 4), (.asg (.t 16) none), none, []⟩] false) .ret))
theorem dc45_c : (Try.f45.body.bind (cCode Try.prog Try.f45.ntmps)) = some dc45 := by kernel_rfl
theorem dc45_r : Try.f45.results.toList.mapM (cRes Try.prog) = some [(.t 4)] := by kernel_rfl
def cmp_Less_int_enc (a : Int × Int) : List D := [.int .i64 a.1, .int .i64 a.2]
def cmp_Less_int_dec (ds : List D) : Int × Int := (uI (ds.getD 0 .top), uI (ds.getD 1 .top))
theorem cmp_Less_int_de (a : Int × Int) : cmp_Less_int_dec (cmp_Less_int_enc a) = a := by simp [cmp_Less_int_dec, cmp_Less_int_enc, uI, uBo, uS]
def cmp_Less_int_R (b : Bool) : D := .bool b
def cmp_Less_int_E (_b : Bool) : List D := []
noncomputable def cmp_Less_int_S : Dw.Spec := fSpec [] .ground cmp_Less_int_enc cmp_Less_int_dec (fun a => cmp_Less_int a.1 a.2) cmp_Less_int_R cmp_Less_int_E
set_option maxHeartbeats 4000000 in
theorem cmp_Less_int_ok : SpecOk Try.prog 45 cmp_Less_int_S := by
  refine fn_ok (specs_ok (l := [(52, cmp_isNaN_int_S)]) (by simp [cmp_isNaN_int_ok])) Try.func45 (by decide) dc45_c dc45_r (np := 2) (by decide) cmp_Less_int_de (fun _ => rfl) ?_
  rintro ⟨x1, y2⟩
  show Tr (specs [(52, cmp_isNaN_int_S)]) dc45 (kRet [] .ground [(.t 4)] 2 cmp_Less_int_R cmp_Less_int_E) ⟨[(0, .int .i64 x1), (1, .int .i64 y2)], [], 2⟩ (cmp_Less_int x1 y2)
  unfold dc45 cmp_Less_int
  refine tr_seq ?_
  refine tr_reg ?_
  refine trO_asg rfl rfl ?_
  refine trO_nil ?_
  refine trX_seq ?_
  refine tr_seq ?_
  refine tr_reg ?_
  refine trO_mv rfl rfl ?_
  refine trO_bind fun r3 hr3 => ?_
  refine trO_call_ground x1 rfl rfl rfl cmp_isNaN_int_de rfl rfl (by simp) rfl hr3 rfl ?_
  refine trO_mv rfl rfl ?_
  refine trO_split 7 (b := r3) rfl ?_ ?_
  ·
    refine trO_mv rfl rfl ?_
    refine trO_bind fun r4 hr4 => ?_
    refine trO_call_ground y2 rfl rfl rfl cmp_isNaN_int_de rfl rfl (by simp) rfl hr4 rfl ?_
    refine trO_un (w := .bool (!r4)) rfl rfl rfl rfl trivial ?_
    refine trO_pick_true rfl rfl rfl rfl ?_
    refine trO_mv rfl rfl ?_
    refine trO_split 12 (b := (!r4)) rfl ?_ ?_
    ·
      refine trO_off rfl ?_
      refine trO_off rfl ?_
      refine trO_off rfl ?_
      refine trO_pick_true rfl rfl rfl rfl ?_
      refine trO_asg rfl rfl ?_
      refine trO_nil ?_
      refine trX_seq ?_
      refine tr_ret ?_
      exact ret_ground (b := true) rfl (by first | (simp; done) | (simp; omega)) rfl rfl (by first | (simp; done) | (simp; omega)) rfl
    ·
      refine trO_mv rfl rfl ?_
      refine trO_mv rfl rfl ?_
      refine trO_bin (v := .bool (decide (x1 < y2))) rfl rfl rfl rfl rfl ?_
      refine trO_pick_false rfl rfl rfl rfl ?_
      refine trO_asg rfl rfl ?_
      refine trO_nil ?_
      refine trX_seq ?_
      refine tr_ret ?_
      exact ret_ground (b := (decide (x1 < y2))) rfl (by first | (simp; done) | (simp; omega)) rfl rfl (by first | (simp; done) | (simp; omega)) rfl
  ·
    refine trO_off rfl ?_
    refine trO_off rfl ?_
    refine trO_off rfl ?_
    refine trO_pick_false rfl rfl rfl rfl ?_
    refine trO_mv rfl rfl ?_
    refine trO_mv rfl rfl ?_
    refine trO_mv rfl rfl ?_
    refine trO_bin (v := .bool (decide (x1 < y2))) rfl rfl rfl rfl rfl ?_
    refine trO_pick_false rfl rfl rfl rfl ?_
    refine trO_asg rfl rfl ?_
    refine trO_nil ?_
    refine trX_seq ?_
    refine tr_ret ?_
    exact ret_ground (b := (decide (x1 < y2))) rfl (by first | (simp; done) | (simp; omega)) rfl rfl (by first | (simp; done) | (simp; omega)) rfl

def dc46 : DCode := (.seq (.reg [⟨(some 2), (.asg (.c (.bool false)) none), none, []⟩] false) (.seq (.reg [⟨(some 3), (.mv (.t 0)), none, []⟩, ⟨(some 4), (.mv (.t 0)), none, []⟩, ⟨(some 5), (.bin .neq (.t 3) (.t 4)), none, []⟩, ⟨(some 2), (.asg (.t 5) none), none, []⟩] false) .ret))
theorem dc46_c : (Try.f46.body.bind (cCode Try.prog Try.f46.ntmps)) = some dc46 := by kernel_rfl
theorem dc46_r : Try.f46.results.toList.mapM (cRes Try.prog) = some [(.t 2)] := by kernel_rfl
def slices_isNaN_int_enc (a : Int) : List D := [.int .i64 a]
def slices_isNaN_int_dec (ds : List D) : Int := uI (ds.getD 0 .top)
theorem slices_isNaN_int_de (a : Int) : slices_isNaN_int_dec (slices_isNaN_int_enc a) = a := by simp [slices_isNaN_int_dec, slices_isNaN_int_enc, uI, uBo, uS]
def slices_isNaN_int_R (b : Bool) : D := .bool b
def slices_isNaN_int_E (_b : Bool) : List D := []
noncomputable def slices_isNaN_int_S : Dw.Spec := fSpec [] .ground slices_isNaN_int_enc slices_isNaN_int_dec (fun a => slices_isNaN_int a) slices_isNaN_int_R slices_isNaN_int_E
set_option maxHeartbeats 4000000 in
theorem slices_isNaN_int_ok : SpecOk Try.prog 46 slices_isNaN_int_S := by
  refine fn_ok (specs_nil) Try.func46 (by decide) dc46_c dc46_r (np := 1) (by decide) slices_isNaN_int_de (fun _ => rfl) ?_
  intro x1
  show Tr (specs []) dc46 (kRet [] .ground [(.t 2)] 1 slices_isNaN_int_R slices_isNaN_int_E) ⟨[(0, .int .i64 x1)], [], 1⟩ (slices_isNaN_int x1)
  unfold dc46 slices_isNaN_int
  refine tr_seq ?_
  refine tr_reg ?_
  refine trO_asg rfl rfl ?_
  refine trO_nil ?_
  refine trX_seq ?_
  refine tr_seq ?_
  refine tr_reg ?_
  refine trO_mv rfl rfl ?_
  refine trO_mv rfl rfl ?_
  refine trO_bin (v := .bool (x1 != x1)) rfl rfl rfl rfl rfl ?_
  refine trO_asg rfl rfl ?_
  refine trO_nil ?_
  refine trX_seq ?_
  refine tr_ret ?_
  exact ret_ground (b := (x1 != x1)) rfl (by first | (simp; done) | (simp; omega)) rfl rfl (by first | (simp; done) | (simp; omega)) rfl

end Go.Proofs.Ytihomlbcppfngaa
