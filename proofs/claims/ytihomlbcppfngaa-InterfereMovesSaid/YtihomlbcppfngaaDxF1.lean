/-
  Programs on typed data, and the proofs that the code does what they say; written by a program (dx.py).
-/
import Derived.Test.YtihomlbcppfngaaProg
import Derived.Test.YtihomlbcppfngaaDx4
import Derived.KernelRfl
import Derived.Test.YtihomlbcppfngaaDxP
namespace Go.Proofs.Ytihomlbcppfngaa
open Go Go.Dw Go.Proofs
set_option maxRecDepth 100000
def dc39 : DCode := (.seq (.reg [⟨(some 3), (.box (.t 1) 2 36), none, []⟩, ⟨(some 4), (.asg (.c (.int .i64 0)) none), none, []⟩] false) (.seq (.seq (.reg [⟨(some 6), (.mv (.t 0)), none, []⟩, ⟨(some 7), (.len false (.t 6)), none, []⟩, ⟨(some 8), (.mv (.c (.int .i64 0))), none, []⟩] false) (.block 0 (.loop (.seq (.reg [⟨(some 9), (.bin .lss (.t 8) (.t 7)), none, []⟩] false) (.seq (.cond (.t 9) .skip (.exit 0)) (.seq (.block 1 (.seq (.reg [⟨(some 10), (.mv (.t 8)), none, []⟩, ⟨(some 5), (.asg (.t 10) none), none, []⟩] false) (.seq (.reg [⟨(some 11), (.ld 2 true (.t 3)), none, []⟩, ⟨(some 12), (.mv (.t 0)), none, []⟩, ⟨(some 13), (.mv (.t 5)), none, []⟩, ⟨(some 14), (.ixA 2 (.t 12) (.t 13)), none, [1, 2]⟩, ⟨(some 15), (.ld 2 true (.t 14)), none, [3]⟩, ⟨(some 16), (.eqA 2 false (.t 11) (.t 15)), none, [0, 4]⟩] true) (.cond (.t 16) (.seq (.reg [⟨(some 17), (.mv (.t 5)), none, []⟩, ⟨(some 4), (.asg (.t 17) none), none, []⟩] false) .ret) .skip)))) (.reg [⟨(some 18), (.bin .add (.t 8) (.c (.int .i64 1))), none, []⟩, ⟨(some 8), (.mv (.t 18)), none, []⟩] false))))))) (.seq (.reg [⟨(some 4), (.asg (.c (.int .i64 (-1))) none), none, []⟩] false) .ret)))
theorem dc39_c : (Try.f39.body.bind (cCode Try.prog Try.f39.ntmps)) = some dc39 := by kernel_rfl
theorem dc39_r : Try.f39.results.toList.mapM (cRes Try.prog) = some [(.t 4)] := by kernel_rfl
def slices_Index_2_int_2_int_enc (a : (List TA2_Int) × TA2_Int) : List D := [.sl (a.1.map eA2_Int), eA2_Int a.2]
def slices_Index_2_int_2_int_dec (ds : List D) : (List TA2_Int) × TA2_Int := ((uL uA2_Int) (ds.getD 0 .top), uA2_Int (ds.getD 1 .top))
theorem slices_Index_2_int_2_int_de (a : (List TA2_Int) × TA2_Int) : slices_Index_2_int_2_int_dec (slices_Index_2_int_2_int_enc a) = a := by simp [slices_Index_2_int_2_int_dec, slices_Index_2_int_2_int_enc, uI, uBo, uS, uL_e (u := uA2_Int) (en := eA2_Int) uA2_Int_e]
def slices_Index_2_int_2_int_R (b : Int) : D := .int .i64 b
def slices_Index_2_int_2_int_E (_b : Int) : List D := []
noncomputable def slices_Index_2_int_2_int_S : Dw.Spec := fSpec [] .ground slices_Index_2_int_2_int_enc slices_Index_2_int_2_int_dec (fun a => slices_Index_2_int_2_int a.1 a.2) slices_Index_2_int_2_int_R slices_Index_2_int_2_int_E
set_option maxHeartbeats 4000000 in
theorem slices_Index_2_int_2_int_ok : SpecOk Try.prog 39 slices_Index_2_int_2_int_S := by
  refine fn_ok (specs_nil) Try.func39 (by decide) dc39_c dc39_r (np := 2) (by decide) slices_Index_2_int_2_int_de (fun _ => rfl) ?_
  rintro ⟨s1, v2⟩
  show Tr (specs []) dc39 (kRet [] .ground [(.t 4)] 2 slices_Index_2_int_2_int_R slices_Index_2_int_2_int_E) ⟨[(0, .sl (s1.map eA2_Int)), (1, .agg [.int .i64 v2.a0, .int .i64 v2.a1])], [], 2⟩ (slices_Index_2_int_2_int s1 v2)
  unfold dc39 slices_Index_2_int_2_int
  refine tr_seq ?_
  refine tr_reg ?_
  refine trO_box rfl rfl rfl rfl rfl ?_
  refine trO_asg rfl rfl ?_
  refine trO_nil ?_
  refine trX_seq ?_
  refine tr_seq ?_
  refine tr_seq ?_
  refine tr_reg ?_
  refine trO_mv rfl rfl ?_
  refine trO_len_sl rfl rfl ?_
  refine trO_mv rfl rfl ?_
  refine trO_nil ?_
  refine trX_seq ?_
  refine tr_block ?_
  refine tr_loop (E := fun (s : Int) (g : Nat) => [(0, .sl (s1.map eA2_Int)), (3, .optr 3 g 0 0), (7, .int .i64 (s1.length : Int)), (8, .int .i64 s)]) (O := fun s g => [(3, some (g, ⟨false, true, 2, 36, [.agg [.int .i64 v2.a0, .int .i64 v2.a1]]⟩))]) (body := fun s => slices_Index_2_int_2_int_b1 s1 v2 s) (s := 0) _ (has_exact ⟨rfl, rfl, rfl, rfl, trivial⟩ ⟨rfl, trivial⟩) ?_
  rintro x3 v3 nn
  show Tr _ _ _ ⟨[(0, .sl (s1.map eA2_Int)), (3, .optr 3 v3 0 0), (7, .int .i64 (s1.length : Int)), (8, .int .i64 x3)], [(3, some (v3, ⟨false, true, 2, 36, [.agg [.int .i64 v2.a0, .int .i64 v2.a1]]⟩))], _⟩ (slices_Index_2_int_2_int_b1 s1 v2 x3)
  unfold slices_Index_2_int_2_int_b1
  refine tr_seq ?_
  refine tr_reg ?_
  refine trO_bin (v := .bool (decide (x3 < (s1.length : Int)))) rfl rfl rfl rfl rfl ?_
  refine trO_nil ?_
  refine trX_seq ?_
  refine tr_seq ?_
  refine tr_cond (c := (decide (x3 < (s1.length : Int)))) rfl ?_ ?_
  ·
    refine tr_skip ?_
    refine trX_seq ?_
    refine tr_seq ?_
    refine tr_block ?_
    refine tr_seq ?_
    refine tr_reg ?_
    refine trO_mv rfl rfl ?_
    refine trO_asg rfl rfl ?_
    refine trO_nil ?_
    refine trX_seq ?_
    refine tr_seq ?_
    refine tr_reg ?_
    refine trO_ld_obj (v := .agg [.int .i64 v2.a0, .int .i64 v2.a1]) (z := .agg [.int .i64 v2.a0, .int .i64 v2.a1]) rfl rfl rfl rfl rfl rfl ?_
    refine trO_mv rfl rfl ?_
    refine trO_mv rfl rfl ?_
    refine trO_bind fun x_x4 hx_x4 => ?_
    refine trO_ixA_sl (en := eA2_Int) rfl rfl rfl hx_x4 rfl ?_
    refine trO_ld_f (v := .agg [.int .i64 x_x4.a0, .int .i64 x_x4.a1]) rfl rfl rfl rfl ?_
    refine trO_eqA (p := ((v2.a0 == x_x4.a0) && ((v2.a1 == x_x4.a1) && true))) rfl rfl rfl rfl ⟨rfl, ⟨rfl, trivial⟩⟩ rfl ?_
    refine trO_nil_draw (by kernel_rfl) ?_
    refine trX_seq ?_
    refine tr_cond (c := ((v2.a0 == x_x4.a0) && ((v2.a1 == x_x4.a1) && true))) rfl ?_ ?_
    ·
      refine tr_seq ?_
      refine tr_reg ?_
      refine trO_mv rfl rfl ?_
      refine trO_asg rfl rfl ?_
      refine trO_nil ?_
      refine trX_seq ?_
      refine tr_ret ?_
      refine trX_blk_ret ?_
      refine trX_seq_ret ?_
      refine trX_loop_ret ?_
      refine trX_blk_ret ?_
      refine trX_seq_ret ?_
      exact ret_ground (b := x3) rfl (by first | (simp; done) | (simp; omega)) rfl rfl (by first | (simp; done) | (simp; omega)) rfl
    ·
      refine tr_skip ?_
      refine trX_blk_normal ?_
      refine trX_seq ?_
      refine tr_reg ?_
      refine trO_bin (v := .int .i64 (IntKind.i64.wrap (x3 + 1))) rfl rfl rfl rfl rfl ?_
      refine trO_mv rfl rfl ?_
      refine trO_nil ?_
      exact trX_loop (s := IntKind.i64.wrap (x3 + 1)) _ (has_exact ⟨rfl, rfl, rfl, rfl, trivial⟩ ⟨rfl, trivial⟩)
  ·
    refine tr_exit ?_
    refine trX_seq_exit ?_
    refine trX_loop_exit ?_
    refine trX_blk_here ?_
    refine trX_seq ?_
    refine tr_seq ?_
    refine tr_reg ?_
    refine trO_asg rfl rfl ?_
    refine trO_nil ?_
    refine trX_seq ?_
    refine tr_ret ?_
    exact ret_ground (b := (-1)) rfl (by first | (simp; done) | (simp; omega)) rfl rfl (by first | (simp; done) | (simp; omega)) rfl

def dc24 : DCode := (.seq (.reg [⟨(some 3), (.box (.t 1) 2 36), none, []⟩, ⟨(some 4), (.asg (.c (.bool false)) none), none, []⟩] false) (.seq (.reg [⟨(some 5), (.mv (.t 0)), none, []⟩, ⟨(some 6), (.ld 2 true (.t 3)), none, []⟩, ⟨(some 7), (.call (.c (.clo 39 [])) [(.t 5), (.t 6)]), none, []⟩, ⟨(some 8), (.bin .geq (.t 7) (.c (.int .i64 0))), none, []⟩, ⟨(some 4), (.asg (.t 8) none), none, []⟩] false) .ret))
theorem dc24_c : (Try.f24.body.bind (cCode Try.prog Try.f24.ntmps)) = some dc24 := by kernel_rfl
theorem dc24_r : Try.f24.results.toList.mapM (cRes Try.prog) = some [(.t 4)] := by kernel_rfl
def slices_Contains_2_int_2_int_enc (a : (List TA2_Int) × TA2_Int) : List D := [.sl (a.1.map eA2_Int), eA2_Int a.2]
def slices_Contains_2_int_2_int_dec (ds : List D) : (List TA2_Int) × TA2_Int := ((uL uA2_Int) (ds.getD 0 .top), uA2_Int (ds.getD 1 .top))
theorem slices_Contains_2_int_2_int_de (a : (List TA2_Int) × TA2_Int) : slices_Contains_2_int_2_int_dec (slices_Contains_2_int_2_int_enc a) = a := by simp [slices_Contains_2_int_2_int_dec, slices_Contains_2_int_2_int_enc, uI, uBo, uS, uL_e (u := uA2_Int) (en := eA2_Int) uA2_Int_e]
def slices_Contains_2_int_2_int_R (b : Bool) : D := .bool b
def slices_Contains_2_int_2_int_E (_b : Bool) : List D := []
noncomputable def slices_Contains_2_int_2_int_S : Dw.Spec := fSpec [] .ground slices_Contains_2_int_2_int_enc slices_Contains_2_int_2_int_dec (fun a => slices_Contains_2_int_2_int a.1 a.2) slices_Contains_2_int_2_int_R slices_Contains_2_int_2_int_E
set_option maxHeartbeats 4000000 in
theorem slices_Contains_2_int_2_int_ok : SpecOk Try.prog 24 slices_Contains_2_int_2_int_S := by
  refine fn_ok (specs_ok (l := [(39, slices_Index_2_int_2_int_S)]) (by simp [slices_Index_2_int_2_int_ok])) Try.func24 (by decide) dc24_c dc24_r (np := 2) (by decide) slices_Contains_2_int_2_int_de (fun _ => rfl) ?_
  rintro ⟨s1, v2⟩
  show Tr (specs [(39, slices_Index_2_int_2_int_S)]) dc24 (kRet [] .ground [(.t 4)] 2 slices_Contains_2_int_2_int_R slices_Contains_2_int_2_int_E) ⟨[(0, .sl (s1.map eA2_Int)), (1, .agg [.int .i64 v2.a0, .int .i64 v2.a1])], [], 2⟩ (slices_Contains_2_int_2_int s1 v2)
  unfold dc24 slices_Contains_2_int_2_int
  refine tr_seq ?_
  refine tr_reg ?_
  refine trO_box rfl rfl rfl rfl rfl ?_
  refine trO_asg rfl rfl ?_
  refine trO_nil ?_
  refine trX_seq ?_
  refine tr_seq ?_
  refine tr_reg ?_
  refine trO_mv rfl rfl ?_
  refine trO_ld_obj (v := .agg [.int .i64 v2.a0, .int .i64 v2.a1]) (z := .agg [.int .i64 v2.a0, .int .i64 v2.a1]) rfl rfl rfl rfl rfl rfl ?_
  refine trO_bind fun r3 hr3 => ?_
  refine trO_call_ground (s1, v2) rfl rfl rfl slices_Index_2_int_2_int_de rfl rfl (by simp) rfl hr3 rfl ?_
  refine trO_bin (v := .bool (decide (r3 ≥ 0))) rfl rfl rfl rfl rfl ?_
  refine trO_asg rfl rfl ?_
  refine trO_nil ?_
  refine trX_seq ?_
  refine tr_ret ?_
  exact ret_ground (b := (decide (r3 ≥ 0))) rfl (by first | (simp; done) | (simp; omega)) rfl rfl (by first | (simp; done) | (simp; omega)) rfl

def dc8 : DCode := (.seq (.reg [⟨(some 1), (.box (.t 0) 3 27), none, []⟩, ⟨(some 2), (.asg (.c .nils) (some ⟨2, 36⟩)), none, []⟩] false) (.seq (.reg [⟨(some 3), (.asg (.c .nils) (some ⟨2, 36⟩)), none, []⟩] false) (.seq (.seq (.reg [⟨(some 7), (.fldA 2 (.t 1)), none, []⟩, ⟨(some 8), (.ld 1 false (.t 7)), none, []⟩, ⟨(some 9), (.len false (.t 8)), none, []⟩, ⟨(some 10), (.mv (.c (.int .i64 0))), none, []⟩] false) (.block 0 (.loop (.seq (.reg [⟨(some 11), (.bin .lss (.t 10) (.t 9)), none, []⟩] false) (.seq (.cond (.t 11) .skip (.exit 0)) (.seq (.block 1 (.seq (.reg [⟨(some 12), (.ixA 5 (.t 8) (.t 10)), none, []⟩, ⟨(some 13), (.ld 5 true (.t 12)), none, []⟩, ⟨(some 5), (.new (.agg [(.int .i64 0), (.int .i64 0), (.int .i64 0), (.int .i64 0), (.int .u64 0)]) 5 52), none, []⟩, ⟨none, (.st 5 (.t 5) (.t 13)), none, []⟩] false) (.seq (.reg [⟨(some 14), (.fldA 1 (.t 5)), none, []⟩, ⟨(some 15), (.ld 1 false (.t 14)), none, []⟩, ⟨(some 16), (.fldA 2 (.t 5)), none, []⟩, ⟨(some 17), (.ld 1 false (.t 16)), none, []⟩, ⟨(some 18), (.bld [(.int .i64 0), (.int .i64 0)] [⟨0, ⟨1, (.t 15)⟩⟩, ⟨1, ⟨1, (.t 17)⟩⟩]), none, []⟩, ⟨(some 6), (.new (.agg [(.int .i64 0), (.int .i64 0)]) 2 36), none, []⟩, ⟨none, (.st 2 (.t 6) (.t 18)), none, []⟩] false) (.seq (.reg [⟨(some 19), (.fldA 0 (.t 5)), none, []⟩, ⟨(some 20), (.ld 1 false (.t 19)), none, []⟩, ⟨(some 21), (.bin .eql (.t 20) (.c (.int .i64 17))), none, []⟩, ⟨(some 22), (.mv (.t 21)), none, []⟩, ⟨(some 23), (.fldA 1 (.t 5)), (some ⟨22, true⟩), []⟩, ⟨(some 24), (.ld 1 false (.t 23)), (some ⟨22, true⟩), []⟩, ⟨(some 25), (.fldA 2 (.t 5)), (some ⟨22, true⟩), []⟩, ⟨(some 26), (.ld 1 false (.t 25)), (some ⟨22, true⟩), []⟩, ⟨(some 27), (.bin .neq (.t 24) (.t 26)), (some ⟨22, true⟩), []⟩, ⟨(some 28), (.pick (.t 22) (.t 27) (.c (.bool false))), none, []⟩, ⟨(some 29), (.mv (.t 28)), none, []⟩, ⟨(some 30), (.mv (.t 3)), (some ⟨29, true⟩), []⟩, ⟨(some 31), (.ld 2 true (.t 6)), (some ⟨29, true⟩), []⟩, ⟨(some 32), (.call (.c (.clo 24 [])) [(.t 30), (.t 31)]), (some ⟨29, true⟩), []⟩, ⟨(some 33), (.un .not (.t 32)), (some ⟨29, true⟩), []⟩, ⟨(some 34), (.pick (.t 29) (.t 33) (.c (.bool false))), none, []⟩] false) (.cond (.t 34) (.reg [⟨(some 35), (.mv (.t 3)), none, []⟩, ⟨(some 36), (.ld 2 true (.t 6)), none, []⟩, ⟨(some 37), (.bldS 2 36 (.agg [(.int .i64 0), (.int .i64 0)]) 1 [⟨0, (.t 36)⟩]), none, []⟩, ⟨(some 38), (.app 2 36 16 (.t 35) (.t 37)), none, []⟩, ⟨(some 3), (.asg (.t 38) (some ⟨2, 36⟩)), none, []⟩] false) .skip))))) (.reg [⟨(some 39), (.bin .add (.t 10) (.c (.int .i64 1))), none, []⟩, ⟨(some 10), (.mv (.t 39)), none, []⟩] false))))))) (.seq (.reg [⟨(some 40), (.mv (.t 3)), none, []⟩, ⟨(some 2), (.asg (.t 40) (some ⟨2, 36⟩)), none, []⟩] false) .ret))))
theorem dc8_c : (Try.f8.body.bind (cCode Try.prog Try.f8.ntmps)) = some dc8 := by kernel_rfl
theorem dc8_r : Try.f8.results.toList.mapM (cRes Try.prog) = some [(.t 2)] := by kernel_rfl
def interfere_Moves_enc (a : TFunc) : List D := [eFunc a]
def interfere_Moves_dec (ds : List D) : TFunc := uFunc (ds.getD 0 .top)
theorem interfere_Moves_de (a : TFunc) : interfere_Moves_dec (interfere_Moves_enc a) = a := by simp [interfere_Moves_dec, interfere_Moves_enc, uI, uBo, uS]
def interfere_Moves_R (b : (List TA2_Int)) : D := .sl (b.map eA2_Int)
def interfere_Moves_E (_b : (List TA2_Int)) : List D := []
noncomputable def interfere_Moves_S : Dw.Spec := fSpec [] (.row 2 36) interfere_Moves_enc interfere_Moves_dec (fun a => interfere_Moves a) interfere_Moves_R interfere_Moves_E
set_option maxHeartbeats 4000000 in
theorem interfere_Moves_ok : SpecOk Try.prog 8 interfere_Moves_S := by
  refine fn_ok (specs_ok (l := [(24, slices_Contains_2_int_2_int_S)]) (by simp [slices_Contains_2_int_2_int_ok])) Try.func8 (by decide) dc8_c dc8_r (np := 1) (by decide) interfere_Moves_de (fun _ => rfl) ?_
  intro f1
  show Tr (specs [(24, slices_Contains_2_int_2_int_S)]) dc8 (kRet [] (.row 2 36) [(.t 2)] 1 interfere_Moves_R interfere_Moves_E) ⟨[(0, .agg [.int .i64 f1.Params, .sl (f1.Slots.map eSlot), .sl (f1.Code.map eInstr)])], [], 1⟩ (interfere_Moves f1)
  unfold dc8 interfere_Moves
  refine tr_seq ?_
  refine tr_reg ?_
  refine trO_box rfl rfl rfl rfl rfl ?_
  refine trO_asg_nil (α := TA2_Int) rfl eA2_Int rfl ?_
  refine trO_nil ?_
  refine trX_seq ?_
  refine tr_seq ?_
  refine tr_reg ?_
  refine trO_asg_nil (α := TA2_Int) rfl eA2_Int rfl ?_
  refine trO_nil ?_
  refine trX_seq ?_
  refine tr_seq ?_
  refine tr_seq ?_
  refine tr_reg ?_
  refine trO_fldA rfl rfl ?_
  refine trO_ld_obj (v := .sl (f1.Code.map eInstr)) (z := .agg [.int .i64 f1.Params, .sl (f1.Slots.map eSlot), .sl (f1.Code.map eInstr)]) rfl rfl rfl rfl rfl rfl ?_
  refine trO_len_sl rfl rfl ?_
  refine trO_mv rfl rfl ?_
  refine trO_nil ?_
  refine trX_seq ?_
  refine tr_block ?_
  refine tr_loop (E := fun (s : (List TA2_Int) × Int) (g : Nat) => [(3, .osl 3 g 0 s.1.length), (8, .sl (f1.Code.map eInstr)), (9, .int .i64 (f1.Code.length : Int)), (10, .int .i64 s.2)]) (O := fun s g => [(3, some (g, ⟨false, false, 2, 36, s.1.map eA2_Int⟩))]) (body := fun s => interfere_Moves_b1 f1 s.1 s.2) (s := (([] : List TA2_Int), 0)) _ (has_exact ⟨rfl, rfl, rfl, rfl, trivial⟩ ⟨rfl, trivial⟩) ?_
  rintro ⟨l2, x3⟩ v3 nn
  show Tr _ _ _ ⟨[(3, .osl 3 v3 0 l2.length), (8, .sl (f1.Code.map eInstr)), (9, .int .i64 (f1.Code.length : Int)), (10, .int .i64 x3)], [(3, some (v3, ⟨false, false, 2, 36, l2.map eA2_Int⟩))], _⟩ (interfere_Moves_b1 f1 l2 x3)
  unfold interfere_Moves_b1
  refine tr_seq ?_
  refine tr_reg ?_
  refine trO_bin (v := .bool (decide (x3 < (f1.Code.length : Int)))) rfl rfl rfl rfl rfl ?_
  refine trO_nil ?_
  refine trX_seq ?_
  refine tr_seq ?_
  refine tr_cond (c := (decide (x3 < (f1.Code.length : Int)))) rfl ?_ ?_
  ·
    refine tr_skip ?_
    refine trX_seq ?_
    refine tr_seq ?_
    refine tr_block ?_
    refine tr_seq ?_
    refine tr_reg ?_
    refine trO_bind fun x_x4 hx_x4 => ?_
    refine trO_ixA_sl (en := eInstr) rfl rfl rfl hx_x4 rfl ?_
    refine trO_ld_f (v := .agg [.int .i64 x_x4.Op, .int .i64 x_x4.A, .int .i64 x_x4.B, .int .i64 x_x4.C, .int .u64 x_x4.Imm]) rfl rfl rfl rfl ?_
    refine trO_new rfl ?_
    refine trO_st_var (z' := .agg [.int .i64 x_x4.Op, .int .i64 x_x4.A, .int .i64 x_x4.B, .int .i64 x_x4.C, .int .u64 x_x4.Imm]) rfl rfl rfl rfl rfl rfl rfl rfl rfl ?_
    refine trO_nil ?_
    refine trX_seq ?_
    refine tr_seq ?_
    refine tr_reg ?_
    refine trO_fldA rfl rfl ?_
    refine trO_ld_obj (v := .int .i64 x_x4.A) (z := .agg [.int .i64 x_x4.Op, .int .i64 x_x4.A, .int .i64 x_x4.B, .int .i64 x_x4.C, .int .u64 x_x4.Imm]) rfl rfl rfl rfl rfl rfl ?_
    refine trO_fldA rfl rfl ?_
    refine trO_ld_obj (v := .int .i64 x_x4.B) (z := .agg [.int .i64 x_x4.Op, .int .i64 x_x4.A, .int .i64 x_x4.B, .int .i64 x_x4.C, .int .u64 x_x4.Imm]) rfl rfl rfl rfl rfl rfl ?_
    refine trO_bld (cs := [.int .i64 x_x4.A, .int .i64 x_x4.B]) (ps := [(0, 1, .int .i64 x_x4.A), (1, 1, .int .i64 x_x4.B)]) rfl rfl rfl rfl ?_
    refine trO_new rfl ?_
    refine trO_st_var (z' := .agg [.int .i64 x_x4.A, .int .i64 x_x4.B]) rfl rfl rfl rfl rfl rfl rfl rfl rfl ?_
    refine trO_nil ?_
    refine trX_seq ?_
    refine tr_seq ?_
    refine tr_reg ?_
    refine trO_fldA rfl rfl ?_
    refine trO_ld_obj (v := .int .i64 x_x4.Op) (z := .agg [.int .i64 x_x4.Op, .int .i64 x_x4.A, .int .i64 x_x4.B, .int .i64 x_x4.C, .int .u64 x_x4.Imm]) rfl rfl rfl rfl rfl rfl ?_
    refine trO_bin (v := .bool (x_x4.Op == 17)) rfl rfl rfl rfl rfl ?_
    refine trO_mv rfl rfl ?_
    refine trO_split 22 (b := (x_x4.Op == 17)) rfl ?_ ?_
    ·
      refine trO_fldA rfl rfl ?_
      refine trO_ld_obj (v := .int .i64 x_x4.A) (z := .agg [.int .i64 x_x4.Op, .int .i64 x_x4.A, .int .i64 x_x4.B, .int .i64 x_x4.C, .int .u64 x_x4.Imm]) rfl rfl rfl rfl rfl rfl ?_
      refine trO_fldA rfl rfl ?_
      refine trO_ld_obj (v := .int .i64 x_x4.B) (z := .agg [.int .i64 x_x4.Op, .int .i64 x_x4.A, .int .i64 x_x4.B, .int .i64 x_x4.C, .int .u64 x_x4.Imm]) rfl rfl rfl rfl rfl rfl ?_
      refine trO_bin (v := .bool (x_x4.A != x_x4.B)) rfl rfl rfl rfl rfl ?_
      refine trO_pick_true rfl rfl rfl rfl ?_
      refine trO_mv rfl rfl ?_
      refine trO_split 29 (b := (x_x4.A != x_x4.B)) rfl ?_ ?_
      ·
        refine trO_mv rfl rfl ?_
        refine trO_ld_obj (v := .agg [.int .i64 x_x4.A, .int .i64 x_x4.B]) (z := .agg [.int .i64 x_x4.A, .int .i64 x_x4.B]) rfl rfl rfl rfl rfl rfl ?_
        refine trO_bind fun r5 hr5 => ?_
        refine trO_call_ground (l2, (TA2_Int.mk x_x4.A x_x4.B)) rfl rfl rfl slices_Contains_2_int_2_int_de rfl rfl (by simp) (by first | rfl | (simp only [take_drop0_map, take_sub_map]; rfl) | simp [slices_Contains_2_int_2_int_enc, eA2_Int]) hr5 rfl ?_
        refine trO_un (w := .bool (!r5)) rfl rfl rfl rfl trivial ?_
        refine trO_pick_true rfl rfl rfl rfl ?_
        refine trO_nil ?_
        refine trX_seq ?_
        refine tr_cond (c := (!r5)) rfl ?_ ?_
        ·
          refine tr_reg ?_
          refine trO_mv rfl rfl ?_
          refine trO_ld_obj (v := .agg [.int .i64 x_x4.A, .int .i64 x_x4.B]) (z := .agg [.int .i64 x_x4.A, .int .i64 x_x4.B]) rfl rfl rfl rfl rfl rfl ?_
          refine trO_bldS ([(TA2_Int.mk x_x4.A x_x4.B)] : List TA2_Int) eA2_Int rfl rfl rfl (by simp) rfl rfl rfl ?_
          refine trO_chk fun hq => ?_
          refine trO_app (l2) (([(TA2_Int.mk x_x4.A x_x4.B)] : List TA2_Int)) eA2_Int rfl rfl rfl rfl rfl rfl rfl (by simp) (take_drop0_map' _ _ rfl) rfl rfl (by simp) (take_len_map' _ _ rfl) (fun _ => rfl) rfl hq ?_
          refine trO_asg_own (l := l2 ++ ([(TA2_Int.mk x_x4.A x_x4.B)] : List TA2_Int)) (en := eA2_Int) rfl rfl rfl rfl ?_
          refine trO_nil ?_
          refine trX_blk_normal ?_
          refine trX_seq ?_
          refine tr_reg ?_
          refine trO_bin (v := .int .i64 (IntKind.i64.wrap (x3 + 1))) rfl rfl rfl rfl rfl ?_
          refine trO_mv rfl rfl ?_
          refine trO_nil ?_
          exact trX_loop (s := (l2 ++ ([(TA2_Int.mk x_x4.A x_x4.B)] : List TA2_Int), IntKind.i64.wrap (x3 + 1))) _ (has_exact ⟨rfl, rfl, rfl, rfl, trivial⟩ ⟨rfl, trivial⟩)
        ·
          refine tr_skip ?_
          refine trX_blk_normal ?_
          refine trX_seq ?_
          refine tr_reg ?_
          refine trO_bin (v := .int .i64 (IntKind.i64.wrap (x3 + 1))) rfl rfl rfl rfl rfl ?_
          refine trO_mv rfl rfl ?_
          refine trO_nil ?_
          exact trX_loop (s := (l2, IntKind.i64.wrap (x3 + 1))) _ (has_exact ⟨rfl, rfl, rfl, rfl, trivial⟩ ⟨rfl, trivial⟩)
      ·
        refine trO_off rfl ?_
        refine trO_off rfl ?_
        refine trO_off rfl ?_
        refine trO_off rfl ?_
        refine trO_pick_false rfl rfl rfl rfl ?_
        refine trO_nil ?_
        refine trX_seq ?_
        refine tr_cond_false rfl ?_
        refine tr_skip ?_
        refine trX_blk_normal ?_
        refine trX_seq ?_
        refine tr_reg ?_
        refine trO_bin (v := .int .i64 (IntKind.i64.wrap (x3 + 1))) rfl rfl rfl rfl rfl ?_
        refine trO_mv rfl rfl ?_
        refine trO_nil ?_
        exact trX_loop (s := (l2, IntKind.i64.wrap (x3 + 1))) _ (has_exact ⟨rfl, rfl, rfl, rfl, trivial⟩ ⟨rfl, trivial⟩)
    ·
      refine trO_off rfl ?_
      refine trO_off rfl ?_
      refine trO_off rfl ?_
      refine trO_off rfl ?_
      refine trO_off rfl ?_
      refine trO_pick_false rfl rfl rfl rfl ?_
      refine trO_mv rfl rfl ?_
      refine trO_off rfl ?_
      refine trO_off rfl ?_
      refine trO_off rfl ?_
      refine trO_off rfl ?_
      refine trO_pick_false rfl rfl rfl rfl ?_
      refine trO_nil ?_
      refine trX_seq ?_
      refine tr_cond_false rfl ?_
      refine tr_skip ?_
      refine trX_blk_normal ?_
      refine trX_seq ?_
      refine tr_reg ?_
      refine trO_bin (v := .int .i64 (IntKind.i64.wrap (x3 + 1))) rfl rfl rfl rfl rfl ?_
      refine trO_mv rfl rfl ?_
      refine trO_nil ?_
      exact trX_loop (s := (l2, IntKind.i64.wrap (x3 + 1))) _ (has_exact ⟨rfl, rfl, rfl, rfl, trivial⟩ ⟨rfl, trivial⟩)
  ·
    refine tr_exit ?_
    refine trX_seq_exit ?_
    refine trX_loop_exit ?_
    refine trX_blk_here ?_
    refine trX_seq ?_
    refine tr_seq ?_
    refine tr_reg ?_
    refine trO_mv rfl rfl ?_
    refine trO_asg_own (l := l2) (en := eA2_Int) rfl rfl rfl rfl ?_
    refine trO_nil ?_
    refine trX_seq ?_
    refine tr_ret ?_
    exact ret_row (b := l2) rfl (by first | (simp; done) | (simp; omega)) rfl rfl (by first | (simp; done) | (simp; omega)) rfl (by first | (simp; done) | (simp; omega)) (congrArg D.sl (take_len_map' _ _ rfl)) rfl

def dc6 : DCode := (.seq (.reg [⟨(some 0), (.asg (.c (.bool false)) none), none, []⟩] false) (.seq (.reg [⟨(some 2), (.bld [(.int .i64 0), (.int .i64 0)] [⟨0, ⟨1, (.c (.int .i64 8))⟩⟩, ⟨1, ⟨1, (.c (.int .i64 8))⟩⟩]), none, []⟩, ⟨(some 3), (.bld [(.int .i64 0), (.int .i64 0)] [⟨0, ⟨1, (.c (.int .i64 8))⟩⟩, ⟨1, ⟨1, (.c (.int .i64 8))⟩⟩]), none, []⟩, ⟨(some 4), (.bldS 2 49 (.agg [(.int .i64 0), (.int .i64 0)]) 2 [⟨0, (.t 2)⟩, ⟨1, (.t 3)⟩]), none, []⟩, ⟨(some 5), (.bld [(.int .i64 0), (.int .i64 0), (.int .i64 0), (.int .i64 0), (.int .u64 0)] [⟨0, ⟨1, (.c (.int .i64 17))⟩⟩, ⟨2, ⟨1, (.c (.int .i64 1))⟩⟩]), none, []⟩, ⟨(some 6), (.bld [(.int .i64 0), (.int .i64 0), (.int .i64 0), (.int .i64 0), (.int .u64 0)] [⟨0, ⟨1, (.c (.int .i64 23))⟩⟩]), none, []⟩, ⟨(some 7), (.bldS 5 52 (.agg [(.int .i64 0), (.int .i64 0), (.int .i64 0), (.int .i64 0), (.int .u64 0)]) 2 [⟨0, (.t 5)⟩, ⟨1, (.t 6)⟩]), none, []⟩, ⟨(some 8), (.bld [(.int .i64 0), .nils, .nils] [⟨1, ⟨1, (.t 4)⟩⟩, ⟨2, ⟨1, (.t 7)⟩⟩]), none, []⟩, ⟨(some 1), (.new (.agg [(.int .i64 0), .nils, .nils]) 3 27), none, []⟩, ⟨none, (.st 3 (.t 1) (.t 8)), none, []⟩] false) (.seq (.reg [⟨(some 9), (.ld 3 true (.t 1)), none, []⟩, ⟨(some 10), (.call (.c (.clo 8 [])) [(.t 9)]), none, []⟩, ⟨(some 11), (.len false (.t 10)), none, []⟩, ⟨(some 12), (.bin .eql (.t 11) (.c (.int .i64 1))), none, []⟩, ⟨(some 0), (.asg (.t 12) none), none, []⟩] false) .ret)))
theorem dc6_c : (Try.f6.body.bind (cCode Try.prog Try.f6.ntmps)) = some dc6 := by kernel_rfl
theorem dc6_r : Try.f6.results.toList.mapM (cRes Try.prog) = some [(.t 0)] := by kernel_rfl
def law18_awake_enc (a : Unit) : List D := []
def law18_awake_dec (ds : List D) : Unit := ()
theorem law18_awake_de (a : Unit) : law18_awake_dec (law18_awake_enc a) = a := by simp [law18_awake_dec, law18_awake_enc, uI, uBo, uS]
def law18_awake_R (b : Bool) : D := .bool b
def law18_awake_E (_b : Bool) : List D := []
noncomputable def law18_awake_S : Dw.Spec := fSpec [] .ground law18_awake_enc law18_awake_dec (fun a => law18_awake) law18_awake_R law18_awake_E
set_option maxHeartbeats 4000000 in
theorem law18_awake_ok : SpecOk Try.prog 6 law18_awake_S := by
  refine fn_ok (specs_ok (l := [(8, interfere_Moves_S)]) (by simp [interfere_Moves_ok])) Try.func6 (by decide) dc6_c dc6_r (np := 0) (by decide) law18_awake_de (fun _ => rfl) ?_
  intro _
  show Tr (specs [(8, interfere_Moves_S)]) dc6 (kRet [] .ground [(.t 0)] 0 law18_awake_R law18_awake_E) ⟨[], [], 0⟩ (law18_awake)
  unfold dc6 law18_awake
  refine tr_seq ?_
  refine tr_reg ?_
  refine trO_asg rfl rfl ?_
  refine trO_nil ?_
  refine trX_seq ?_
  refine tr_seq ?_
  refine tr_reg ?_
  refine trO_bld (cs := [.int .i64 8, .int .i64 8]) (ps := [(0, 1, .int .i64 8), (1, 1, .int .i64 8)]) rfl rfl rfl rfl ?_
  refine trO_bld (cs := [.int .i64 8, .int .i64 8]) (ps := [(0, 1, .int .i64 8), (1, 1, .int .i64 8)]) rfl rfl rfl rfl ?_
  refine trO_bldS ([(TSlot.mk 8 8), (TSlot.mk 8 8)] : List TSlot) eSlot rfl rfl rfl (by simp) rfl rfl rfl ?_
  refine trO_bld (cs := [.int .i64 17, .int .i64 0, .int .i64 1, .int .i64 0, .int .u64 0]) (ps := [(0, 1, .int .i64 17), (2, 1, .int .i64 1)]) rfl rfl rfl rfl ?_
  refine trO_bld (cs := [.int .i64 23, .int .i64 0, .int .i64 0, .int .i64 0, .int .u64 0]) (ps := [(0, 1, .int .i64 23)]) rfl rfl rfl rfl ?_
  refine trO_bldS ([(TInstr.mk 17 0 1 0 0), (TInstr.mk 23 0 0 0 0)] : List TInstr) eInstr rfl rfl rfl (by simp) rfl rfl rfl ?_
  refine trO_bld (cs := [.int .i64 0, .osl 4 _ 0 (([(TSlot.mk 8 8), (TSlot.mk 8 8)] : List TSlot).length), .osl 7 _ 0 (([(TInstr.mk 17 0 1 0 0), (TInstr.mk 23 0 0 0 0)] : List TInstr).length)]) (ps := [(1, 1, .osl 4 _ 0 (([(TSlot.mk 8 8), (TSlot.mk 8 8)] : List TSlot).length)), (2, 1, .osl 7 _ 0 (([(TInstr.mk 17 0 1 0 0), (TInstr.mk 23 0 0 0 0)] : List TInstr).length))]) rfl rfl rfl rfl ?_
  refine trO_new rfl ?_
  refine trO_st_var (z' := .agg [.int .i64 0, .osl 4 _ 0 (([(TSlot.mk 8 8), (TSlot.mk 8 8)] : List TSlot).length), .osl 7 _ 0 (([(TInstr.mk 17 0 1 0 0), (TInstr.mk 23 0 0 0 0)] : List TInstr).length)]) rfl rfl rfl rfl rfl rfl rfl rfl rfl ?_
  refine trO_nil ?_
  refine trX_seq ?_
  refine tr_seq ?_
  refine tr_reg ?_
  refine trO_ld_obj (v := .agg [.int .i64 0, .osl 4 _ 0 (([(TSlot.mk 8 8), (TSlot.mk 8 8)] : List TSlot).length), .osl 7 _ 0 (([(TInstr.mk 17 0 1 0 0), (TInstr.mk 23 0 0 0 0)] : List TInstr).length)]) (z := .agg [.int .i64 0, .osl 4 _ 0 (([(TSlot.mk 8 8), (TSlot.mk 8 8)] : List TSlot).length), .osl 7 _ 0 (([(TInstr.mk 17 0 1 0 0), (TInstr.mk 23 0 0 0 0)] : List TInstr).length)]) rfl rfl rfl rfl rfl rfl ?_
  refine trO_bind fun r1 hr1 => ?_
  refine trO_call_row (l := r1) (en := eA2_Int) (TFunc.mk 0 ([(TSlot.mk 8 8), (TSlot.mk 8 8)] : List TSlot) ([(TInstr.mk 17 0 1 0 0), (TInstr.mk 23 0 0 0 0)] : List TInstr)) rfl rfl rfl interfere_Moves_de rfl rfl (by simp) (by first | rfl | (simp only [take_drop0_map, take_sub_map]; rfl) | simp [interfere_Moves_enc, eFunc]) hr1 rfl ?_
  refine trO_len_own rfl rfl ?_
  refine trO_bin (v := .bool ((r1.length : Int) == 1)) rfl rfl rfl rfl rfl ?_
  refine trO_asg rfl rfl ?_
  refine trO_nil ?_
  refine trX_seq ?_
  refine tr_ret ?_
  exact ret_ground (b := ((r1.length : Int) == 1)) rfl (by first | (simp; done) | (simp; omega)) rfl rfl (by first | (simp; done) | (simp; omega)) rfl

def dc14 : DCode := (.seq (.reg [⟨(some 4), (.asg (.c .top) none), none, []⟩] false) (.seq (.reg [⟨(some 5), (.mv (.t 0)), none, []⟩, ⟨(some 6), (.mv (.t 0)), none, []⟩, ⟨(some 7), (.len false (.t 6)), none, []⟩, ⟨(some 8), (.mv (.t 1)), none, []⟩, ⟨(some 9), (.min [(.t 7), (.t 8)]), none, []⟩, ⟨(some 10), (.slc 1 (.t 5) none (some (.t 9))), none, []⟩, ⟨(some 11), (.bld [.nils, (.int .i64 0)] [⟨0, ⟨1, (.t 10)⟩⟩]), none, []⟩, ⟨(some 12), (.box (.t 11) 2 67), none, []⟩, ⟨(some 4), (.asg (.t 12) none), none, []⟩] false) .ret))
theorem dc14_c : (Try.f14.body.bind (cCode Try.prog Try.f14.ntmps)) = some dc14 := by kernel_rfl
theorem dc14_r : Try.f14.results.toList.mapM (cRes Try.prog) = some [(.t 4)] := by kernel_rfl
def draw_New_enc (a : (List Int) × Int) : List D := [.sl (a.1.map eU8), .int .i64 a.2]
def draw_New_dec (ds : List D) : (List Int) × Int := ((uL uI) (ds.getD 0 .top), uI (ds.getD 1 .top))
theorem draw_New_de (a : (List Int) × Int) : draw_New_dec (draw_New_enc a) = a := by simp [draw_New_dec, draw_New_enc, uI, uBo, uS, uL_e (u := uI) (en := eU8) (fun _ => rfl)]
def draw_New_R (b : Tdraw_Codes) : D := edraw_Codes b
def draw_New_E (_b : Tdraw_Codes) : List D := []
noncomputable def draw_New_S : Dw.Spec := fSpec [] (.ptr 2 67) draw_New_enc draw_New_dec (fun a => draw_New a.1 a.2) draw_New_R draw_New_E
set_option maxHeartbeats 4000000 in
theorem draw_New_ok : SpecOk Try.prog 14 draw_New_S := by
  refine fn_ok (specs_nil) Try.func14 (by decide) dc14_c dc14_r (np := 2) (by decide) draw_New_de (fun _ => rfl) ?_
  rintro ⟨list1, limit2⟩
  show Tr (specs []) dc14 (kRet [] (.ptr 2 67) [(.t 4)] 2 draw_New_R draw_New_E) ⟨[(0, .sl (list1.map eU8)), (1, .int .i64 limit2)], [], 2⟩ (draw_New list1 limit2)
  unfold dc14 draw_New
  refine tr_seq ?_
  refine tr_reg ?_
  refine trO_asg rfl rfl ?_
  refine trO_nil ?_
  refine trX_seq ?_
  refine tr_seq ?_
  refine tr_reg ?_
  refine trO_mv rfl rfl ?_
  refine trO_mv rfl rfl ?_
  refine trO_len_sl rfl rfl ?_
  refine trO_mv rfl rfl ?_
  refine trO_min rfl rfl rfl ?_
  refine trO_chk fun hq => ?_
  refine trO_slc_sl_hi (l := list1) (en := eU8) rfl rfl rfl (fun _ => rfl) rfl hq ?_
  refine trO_bld (cs := [.sl ((list1.take (minI (list1.length : Int) limit2).toNat).map eU8), .int .i64 0]) (ps := [(0, 1, .sl ((list1.take (minI (list1.length : Int) limit2).toNat).map eU8))]) rfl rfl rfl rfl ?_
  refine trO_box rfl rfl rfl rfl rfl ?_
  refine trO_asg rfl rfl ?_
  refine trO_nil ?_
  refine trX_seq ?_
  refine tr_ret ?_
  exact ret_ptr (b := (Tdraw_Codes.mk (list1.take (minI (list1.length : Int) limit2).toNat) 0)) rfl (by first | (simp; done) | (simp; omega)) rfl (by first | (simp; done) | (simp; omega)) rfl rfl (by first | (simp; done) | (simp; omega)) rfl

def dc35 : DCode := (.seq (.reg [⟨(some 2), (.asg (.c (.bool false)) none), none, []⟩] false) (.seq (.reg [⟨(some 3), (.mv (.t 0)), none, []⟩, ⟨(some 4), (.nilck (.t 3)), none, [0]⟩, ⟨(some 5), (.fldA 1 (.t 4)), none, [1]⟩, ⟨(some 6), (.ld 1 false (.t 5)), none, [2]⟩, ⟨(some 7), (.mv (.t 0)), none, []⟩, ⟨(some 8), (.nilck (.t 7)), none, [4]⟩, ⟨(some 9), (.fldA 0 (.t 8)), none, [5]⟩, ⟨(some 10), (.ld 1 false (.t 9)), none, [6]⟩, ⟨(some 11), (.len false (.t 10)), none, [7]⟩, ⟨(some 12), (.bin .lss (.t 6) (.t 11)), none, [3, 8]⟩, ⟨(some 2), (.asg (.t 12) none), none, [9, 0, 1, 2, 3, 4, 5, 6, 7, 8, 9]⟩] true) .ret))
theorem dc35_c : (Try.f35.body.bind (cCode Try.prog Try.f35.ntmps)) = some dc35 := by kernel_rfl
theorem dc35_r : Try.f35.results.toList.mapM (cRes Try.prog) = some [(.t 2)] := by kernel_rfl
def draw_Codes_Left_enc (a : Tdraw_Codes) : List D := [edraw_Codes a]
def draw_Codes_Left_dec (ds : List D) : Tdraw_Codes := udraw_Codes (ds.getD 0 .top)
theorem draw_Codes_Left_de (a : Tdraw_Codes) : draw_Codes_Left_dec (draw_Codes_Left_enc a) = a := by simp [draw_Codes_Left_dec, draw_Codes_Left_enc, uI, uBo, uS]
def draw_Codes_Left_R (b : Bool × Tdraw_Codes) : D := .bool b.1
def draw_Codes_Left_E (b : Bool × Tdraw_Codes) : List D := [edraw_Codes b.2]
noncomputable def draw_Codes_Left_S : Dw.Spec := fSpec [(0, (2, 67))] .val draw_Codes_Left_enc draw_Codes_Left_dec (fun a => draw_Codes_Left a) draw_Codes_Left_R draw_Codes_Left_E
set_option maxHeartbeats 4000000 in
theorem draw_Codes_Left_ok : SpecOk Try.prog 35 draw_Codes_Left_S := by
  refine fn_ok (specs_nil) Try.func35 (by decide) dc35_c dc35_r (np := 1) (by decide) draw_Codes_Left_de (fun _ => rfl) ?_
  intro c1
  show Tr (specs []) dc35 (kRet [(0, (2, 67))] .val [(.t 2)] 1 draw_Codes_Left_R draw_Codes_Left_E) ⟨[(0, .optr 0 0 0 0)], [(0, some (0, ⟨false, true, 2, 67, [.agg [.sl (c1.list.map eU8), .int .i64 c1.at_]]⟩))], 1⟩ (draw_Codes_Left c1)
  unfold dc35 draw_Codes_Left
  refine tr_seq ?_
  refine tr_reg ?_
  refine trO_asg rfl rfl ?_
  refine trO_nil ?_
  refine trX_seq ?_
  refine tr_seq ?_
  refine tr_reg ?_
  refine trO_mv rfl rfl ?_
  refine trO_nilck rfl rfl rfl ?_
  refine trO_fldA rfl rfl ?_
  refine trO_ld_obj (v := .int .i64 c1.at_) (z := .agg [.sl (c1.list.map eU8), .int .i64 c1.at_]) rfl rfl rfl rfl rfl rfl ?_
  refine trO_mv rfl rfl ?_
  refine trO_nilck rfl rfl rfl ?_
  refine trO_fldA rfl rfl ?_
  refine trO_ld_obj (v := .sl (c1.list.map eU8)) (z := .agg [.sl (c1.list.map eU8), .int .i64 c1.at_]) rfl rfl rfl rfl rfl rfl ?_
  refine trO_len_sl rfl rfl ?_
  refine trO_bin (v := .bool (decide (c1.at_ < (c1.list.length : Int)))) rfl rfl rfl rfl rfl ?_
  refine trO_asg rfl rfl ?_
  refine trO_nil_draw (by kernel_rfl) ?_
  refine trX_seq ?_
  refine tr_ret ?_
  exact ret_val (b := ((decide (c1.at_ < (c1.list.length : Int))), c1)) rfl (by first | (simp; done) | (simp; omega)) rfl rfl (by first | (simp; done) | (simp; omega)) rfl

def dc22 : DCode := (.seq (.reg [⟨(some 4), (.asg (.c (.int .i64 0)) none), none, []⟩] false) (.seq (.seq (.reg [⟨(some 6), (.mv (.t 0)), none, []⟩, ⟨(some 7), (.call (.c (.clo 35 [])) [(.t 6)]), none, []⟩, ⟨(some 8), (.un .not (.t 7)), none, []⟩, ⟨(some 9), (.mv (.t 8)), none, []⟩, ⟨(some 10), (.mv (.t 1)), (some ⟨9, false⟩), []⟩, ⟨(some 11), (.bin .lss (.t 10) (.c (.int .i64 1))), (some ⟨9, false⟩), []⟩, ⟨(some 12), (.pick (.t 9) (.c (.bool true)) (.t 11)), none, []⟩] false) (.cond (.t 12) (.seq (.reg [⟨(some 4), (.asg (.c (.int .i64 0)) none), none, []⟩] false) .ret) .skip)) (.seq (.reg [⟨(some 13), (.mv (.t 0)), none, []⟩, ⟨(some 14), (.nilck (.t 13)), none, [0]⟩, ⟨(some 15), (.fldA 0 (.t 14)), none, [1]⟩, ⟨(some 16), (.ld 1 false (.t 15)), none, [2]⟩, ⟨(some 17), (.mv (.t 0)), none, []⟩, ⟨(some 18), (.nilck (.t 17)), none, [4]⟩, ⟨(some 19), (.fldA 1 (.t 18)), none, [5]⟩, ⟨(some 20), (.ld 1 false (.t 19)), none, [6]⟩, ⟨(some 21), (.ixA 1 (.t 16) (.t 20)), none, [3, 7]⟩, ⟨(some 22), (.ld 1 false (.t 21)), none, [8]⟩, ⟨(some 23), (.cvt .i64 (.t 22)), none, [9]⟩, ⟨(some 5), (.asg (.t 23) none), none, [10, 0, 1, 2, 3, 4, 5, 6, 7, 8, 9, 10]⟩] true) (.seq (.reg [⟨(some 24), (.mv (.t 0)), none, []⟩, ⟨(some 25), (.nilck (.t 24)), none, []⟩, ⟨(some 26), (.fldA 1 (.t 25)), none, []⟩, ⟨(some 27), (.ld 1 false (.t 26)), none, []⟩, ⟨(some 28), (.bin .add (.t 27) (.c (.int .i64 1))), none, []⟩, ⟨(some 29), (.nilck (.t 24)), none, []⟩, ⟨(some 30), (.fldA 1 (.t 29)), none, []⟩, ⟨none, (.st 1 (.t 30) (.t 28)), none, []⟩] false) (.seq (.reg [⟨(some 31), (.mv (.t 5)), none, []⟩, ⟨(some 32), (.mv (.t 1)), none, []⟩, ⟨(some 33), (.bin .mul (.t 31) (.t 32)), none, []⟩, ⟨(some 34), (.bin .quo (.t 33) (.c (.int .i64 256))), none, []⟩, ⟨(some 4), (.asg (.t 34) none), none, []⟩] false) .ret)))))
theorem dc22_c : (Try.f22.body.bind (cCode Try.prog Try.f22.ntmps)) = some dc22 := by kernel_rfl
theorem dc22_r : Try.f22.results.toList.mapM (cRes Try.prog) = some [(.t 4)] := by kernel_rfl
def draw_Codes_Next_enc (a : Tdraw_Codes × Int) : List D := [edraw_Codes a.1, .int .i64 a.2]
def draw_Codes_Next_dec (ds : List D) : Tdraw_Codes × Int := (udraw_Codes (ds.getD 0 .top), uI (ds.getD 1 .top))
theorem draw_Codes_Next_de (a : Tdraw_Codes × Int) : draw_Codes_Next_dec (draw_Codes_Next_enc a) = a := by simp [draw_Codes_Next_dec, draw_Codes_Next_enc, uI, uBo, uS]
def draw_Codes_Next_R (b : Int × Tdraw_Codes) : D := .int .i64 b.1
def draw_Codes_Next_E (b : Int × Tdraw_Codes) : List D := [edraw_Codes b.2]
noncomputable def draw_Codes_Next_S : Dw.Spec := fSpec [(0, (2, 67))] .val draw_Codes_Next_enc draw_Codes_Next_dec (fun a => draw_Codes_Next a.1 a.2) draw_Codes_Next_R draw_Codes_Next_E
set_option maxHeartbeats 4000000 in
theorem draw_Codes_Next_ok : SpecOk Try.prog 22 draw_Codes_Next_S := by
  refine fn_ok (specs_ok (l := [(35, draw_Codes_Left_S)]) (by simp [draw_Codes_Left_ok])) Try.func22 (by decide) dc22_c dc22_r (np := 2) (by decide) draw_Codes_Next_de (fun _ => rfl) ?_
  rintro ⟨c1, n2⟩
  show Tr (specs [(35, draw_Codes_Left_S)]) dc22 (kRet [(0, (2, 67))] .val [(.t 4)] 2 draw_Codes_Next_R draw_Codes_Next_E) ⟨[(0, .optr 0 0 0 0), (1, .int .i64 n2)], [(0, some (0, ⟨false, true, 2, 67, [.agg [.sl (c1.list.map eU8), .int .i64 c1.at_]]⟩))], 2⟩ (draw_Codes_Next c1 n2)
  unfold dc22 draw_Codes_Next
  refine tr_seq ?_
  refine tr_reg ?_
  refine trO_asg rfl rfl ?_
  refine trO_nil ?_
  refine trX_seq ?_
  refine tr_seq_cut (E := fun (s : (List Int) × Int) (g : Unit) => [(0, .optr 0 0 0 0), (1, .int .i64 n2)]) (O := fun s g => [(0, some (0, ⟨false, true, 2, 67, [.agg [.sl (s.1.map eU8), .int .i64 s.2]]⟩))]) (j := fun s => draw_Codes_Next_j1 n2 s.1 s.2) ?_ ?_
  ·
    refine tr_seq ?_
    refine tr_reg ?_
    refine trO_mv rfl rfl ?_
    refine trO_bind fun r5 hr5 => ?_
    refine trO_call_val c1 rfl rfl rfl draw_Codes_Left_de rfl rfl (by simp) rfl hr5 ?_
    refine trO_un (w := .bool (!r5.1)) rfl rfl rfl rfl trivial ?_
    refine trO_mv rfl rfl ?_
    refine trO_split 9 (b := (!r5.1)) rfl ?_ ?_
    ·
      refine trO_off rfl ?_
      refine trO_off rfl ?_
      refine trO_pick_true rfl rfl rfl rfl ?_
      refine trO_nil ?_
      refine trX_seq ?_
      refine tr_cond_true rfl ?_
      refine tr_seq ?_
      refine tr_reg ?_
      refine trO_asg rfl rfl ?_
      refine trO_nil ?_
      refine trX_seq ?_
      refine tr_ret ?_
      refine trX_cut_ret ?_
      exact ret_val (b := (0, r5.2)) rfl (by first | (simp; done) | (simp; omega)) rfl rfl (by first | (simp; done) | (simp; omega)) rfl
    ·
      refine trO_mv rfl rfl ?_
      refine trO_bin (v := .bool (decide (n2 < 1))) rfl rfl rfl rfl rfl ?_
      refine trO_pick_false rfl rfl rfl rfl ?_
      refine trO_nil ?_
      refine trX_seq ?_
      refine tr_cond (c := (decide (n2 < 1))) rfl ?_ ?_
      ·
        refine tr_seq ?_
        refine tr_reg ?_
        refine trO_asg rfl rfl ?_
        refine trO_nil ?_
        refine trX_seq ?_
        refine tr_ret ?_
        refine trX_cut_ret ?_
        exact ret_val (b := (0, r5.2)) rfl (by first | (simp; done) | (simp; omega)) rfl rfl (by first | (simp; done) | (simp; omega)) rfl
      ·
        refine tr_skip ?_
        exact trX_cut (s := (r5.2.list, r5.2.at_)) () (has_exact ⟨rfl, rfl, trivial⟩ ⟨rfl, trivial⟩)
  ·
    rintro ⟨c3, c4⟩ ⟨⟩ nn
    show Tr _ _ _ ⟨[(0, .optr 0 0 0 0), (1, .int .i64 n2)], [(0, some (0, ⟨false, true, 2, 67, [.agg [.sl (c3.map eU8), .int .i64 c4]]⟩))], _⟩ (draw_Codes_Next_j1 n2 c3 c4)
    unfold draw_Codes_Next_j1
    refine tr_seq ?_
    refine tr_reg ?_
    refine trO_mv rfl rfl ?_
    refine trO_nilck rfl rfl rfl ?_
    refine trO_fldA rfl rfl ?_
    refine trO_ld_obj (v := .sl (c3.map eU8)) (z := .agg [.sl (c3.map eU8), .int .i64 c4]) rfl rfl rfl rfl rfl rfl ?_
    refine trO_mv rfl rfl ?_
    refine trO_nilck rfl rfl rfl ?_
    refine trO_fldA rfl rfl ?_
    refine trO_ld_obj (v := .int .i64 c4) (z := .agg [.sl (c3.map eU8), .int .i64 c4]) rfl rfl rfl rfl rfl rfl ?_
    refine trO_bind fun x_x6 hx_x6 => ?_
    refine trO_ixA_sl (en := eU8) rfl rfl rfl hx_x6 rfl ?_
    refine trO_ld_f (v := .int .u8 x_x6) rfl rfl rfl rfl ?_
    refine trO_cvt rfl rfl ?_
    refine trO_asg rfl rfl ?_
    refine trO_nil_draw (by kernel_rfl) ?_
    refine trX_seq ?_
    refine tr_seq ?_
    refine tr_reg ?_
    refine trO_mv rfl rfl ?_
    refine trO_nilck rfl rfl rfl ?_
    refine trO_fldA rfl rfl ?_
    refine trO_ld_obj (v := .int .i64 c4) (z := .agg [.sl (c3.map eU8), .int .i64 c4]) rfl rfl rfl rfl rfl rfl ?_
    refine trO_bin (v := .int .i64 (IntKind.i64.wrap (c4 + 1))) rfl rfl rfl rfl rfl ?_
    refine trO_nilck rfl rfl rfl ?_
    refine trO_fldA rfl rfl ?_
    refine trO_st_var (z' := .agg [.sl (c3.map eU8), .int .i64 (IntKind.i64.wrap (c4 + 1))]) rfl rfl rfl rfl rfl rfl rfl rfl rfl ?_
    refine trO_nil ?_
    refine trX_seq ?_
    refine tr_seq ?_
    refine tr_reg ?_
    refine trO_mv rfl rfl ?_
    refine trO_mv rfl rfl ?_
    refine trO_bin (v := .int .i64 (IntKind.i64.wrap ((IntKind.i64.wrap (x_x6)) * n2))) rfl rfl rfl rfl rfl ?_
    refine trO_bin (v := .int .i64 (IntKind.i64.wrap ((IntKind.i64.wrap ((IntKind.i64.wrap (x_x6)) * n2)).tdiv 256))) rfl rfl rfl rfl ⟨rfl, (by decide)⟩ ?_
    refine trO_asg rfl rfl ?_
    refine trO_nil ?_
    refine trX_seq ?_
    refine tr_ret ?_
    exact ret_val (b := (IntKind.i64.wrap ((IntKind.i64.wrap ((IntKind.i64.wrap (x_x6)) * n2)).tdiv 256), (Tdraw_Codes.mk c3 (IntKind.i64.wrap (c4 + 1))))) rfl (by first | (simp; done) | (simp; omega)) rfl rfl (by first | (simp; done) | (simp; omega)) rfl

def dc53 : DCode := (.seq (.reg [⟨(some 2), (.new (.agg [(.int .i64 0), (.int .i64 0)]) 2 49), none, []⟩] false) (.seq (.reg [⟨(some 3), (.bldS 1 3 (.int .i64 0) 7 [⟨0, (.c (.int .i64 8))⟩, ⟨1, (.c (.int .i64 4))⟩, ⟨2, (.c (.int .i64 8))⟩, ⟨3, (.c (.int .i64 1))⟩, ⟨4, (.c (.int .i64 2))⟩, ⟨5, (.c (.int .i64 16))⟩, ⟨6, (.c (.int .i64 8))⟩]), none, []⟩, ⟨(some 4), (.mv (.t 0)), none, []⟩, ⟨(some 5), (.call (.c (.clo 22 [])) [(.t 4), (.c (.int .i64 7))]), none, [1]⟩, ⟨(some 6), (.ixA 1 (.t 3) (.t 5)), none, [0, 2]⟩, ⟨(some 7), (.ld 1 false (.t 6)), none, [3]⟩, ⟨(some 8), (.bldS 1 3 (.int .i64 0) 8 [⟨0, (.c (.int .i64 8))⟩, ⟨1, (.c (.int .i64 4))⟩, ⟨2, (.c (.int .i64 1))⟩, ⟨3, (.c (.int .i64 8))⟩, ⟨4, (.c (.int .i64 16))⟩, ⟨5, (.c (.int .i64 2))⟩, ⟨6, (.c (.int .i64 32))⟩, ⟨7, (.c (.int .i64 64))⟩]), none, []⟩, ⟨(some 9), (.mv (.t 0)), none, []⟩, ⟨(some 10), (.call (.c (.clo 22 [])) [(.t 9), (.c (.int .i64 8))]), none, [6, 2]⟩, ⟨(some 11), (.ixA 1 (.t 8) (.t 10)), none, [5, 7]⟩, ⟨(some 12), (.ld 1 false (.t 11)), none, [8]⟩, ⟨(some 13), (.bld [(.int .i64 0), (.int .i64 0)] [⟨0, ⟨1, (.t 7)⟩⟩, ⟨1, ⟨1, (.t 12)⟩⟩]), none, [4, 9]⟩, ⟨none, (.st 2 (.t 2) (.t 13)), none, [10, 7, 0, 1, 2, 3, 4, 5, 6, 7, 8, 9, 10]⟩] true) .ret))
theorem dc53_c : (Try.f53.body.bind (cCode Try.prog Try.f53.ntmps)) = some dc53 := by kernel_rfl
theorem dc53_r : Try.f53.results.toList.mapM (cRes Try.prog) = some [(.c 2 2 true)] := by kernel_rfl
def draw_Codes_Slot_enc (a : Tdraw_Codes) : List D := [edraw_Codes a]
def draw_Codes_Slot_dec (ds : List D) : Tdraw_Codes := udraw_Codes (ds.getD 0 .top)
theorem draw_Codes_Slot_de (a : Tdraw_Codes) : draw_Codes_Slot_dec (draw_Codes_Slot_enc a) = a := by simp [draw_Codes_Slot_dec, draw_Codes_Slot_enc, uI, uBo, uS]
def draw_Codes_Slot_R (b : TSlot × Tdraw_Codes) : D := eSlot b.1
def draw_Codes_Slot_E (b : TSlot × Tdraw_Codes) : List D := [edraw_Codes b.2]
noncomputable def draw_Codes_Slot_S : Dw.Spec := fSpec [(0, (2, 67))] .val draw_Codes_Slot_enc draw_Codes_Slot_dec (fun a => draw_Codes_Slot a) draw_Codes_Slot_R draw_Codes_Slot_E
set_option maxHeartbeats 4000000 in
theorem draw_Codes_Slot_ok : SpecOk Try.prog 53 draw_Codes_Slot_S := by
  refine fn_ok (specs_ok (l := [(22, draw_Codes_Next_S)]) (by simp [draw_Codes_Next_ok])) Try.func53 (by decide) dc53_c dc53_r (np := 1) (by decide) draw_Codes_Slot_de (fun _ => rfl) ?_
  intro c1
  show Tr (specs [(22, draw_Codes_Next_S)]) dc53 (kRet [(0, (2, 67))] .val [(.c 2 2 true)] 1 draw_Codes_Slot_R draw_Codes_Slot_E) ⟨[(0, .optr 0 0 0 0)], [(0, some (0, ⟨false, true, 2, 67, [.agg [.sl (c1.list.map eU8), .int .i64 c1.at_]]⟩))], 1⟩ (draw_Codes_Slot c1)
  unfold dc53 draw_Codes_Slot
  refine tr_seq ?_
  refine tr_reg ?_
  refine trO_new rfl ?_
  refine trO_nil ?_
  refine trX_seq ?_
  refine tr_seq ?_
  refine tr_reg ?_
  refine trO_bldS ([8, 4, 8, 1, 2, 16, 8] : List Int) eI64 rfl rfl rfl (by simp) rfl rfl rfl ?_
  refine trO_mv rfl rfl ?_
  refine trO_bind fun r2 hr2 => ?_
  refine trO_call_val (c1, 7) rfl rfl rfl draw_Codes_Next_de rfl rfl (by simp) rfl hr2 ?_
  refine trO_chk fun hq => ?_
  refine trO_ixA_own (l := ([8, 4, 8, 1, 2, 16, 8] : List Int)) (en := eI64) rfl rfl rfl rfl rfl hq ?_
  refine trO_bind fun x_e3 hx_e3 => ?_
  refine trO_ld_obj (v := .int .i64 x_e3) (z := eI64 x_e3) rfl rfl rfl (map_get hx_e3) rfl rfl ?_
  refine trO_bldS ([8, 4, 1, 8, 16, 2, 32, 64] : List Int) eI64 rfl rfl rfl (by simp) rfl rfl rfl ?_
  refine trO_mv rfl rfl ?_
  refine trO_bind fun r4 hr4 => ?_
  refine trO_call_val (r2.2, 8) rfl rfl rfl draw_Codes_Next_de rfl rfl (by simp) rfl hr4 ?_
  refine trO_chk fun hq => ?_
  refine trO_ixA_own (l := ([8, 4, 1, 8, 16, 2, 32, 64] : List Int)) (en := eI64) rfl rfl rfl rfl rfl hq ?_
  refine trO_bind fun x_e5 hx_e5 => ?_
  refine trO_ld_obj (v := .int .i64 x_e5) (z := eI64 x_e5) rfl rfl rfl (map_get hx_e5) rfl rfl ?_
  refine trO_bld (cs := [.int .i64 x_e3, .int .i64 x_e5]) (ps := [(0, 1, .int .i64 x_e3), (1, 1, .int .i64 x_e5)]) rfl rfl rfl rfl ?_
  refine trO_st_var (z' := .agg [.int .i64 x_e3, .int .i64 x_e5]) rfl rfl rfl rfl rfl rfl rfl rfl rfl ?_
  refine trO_nil_draw (by kernel_rfl) ?_
  refine trX_seq ?_
  refine tr_ret ?_
  exact ret_val (b := ((TSlot.mk x_e3 x_e5), r4.2)) rfl (by first | (simp; done) | (simp; omega)) rfl rfl (by first | (simp; done) | (simp; omega)) rfl

def dc47 : DCode := (.seq (.reg [⟨(some 4), (.asg (.c .nils) (some ⟨2, 49⟩)), none, []⟩] false) (.seq (.reg [⟨(some 5), (.asg (.c .nils) (some ⟨2, 49⟩)), none, []⟩] false) (.seq (.seq (.reg [⟨(some 7), (.mv (.t 0)), none, []⟩, ⟨(some 8), (.mv (.t 1)), none, []⟩, ⟨(some 9), (.bin .add (.t 8) (.c (.int .i64 1))), none, []⟩, ⟨(some 10), (.call (.c (.clo 22 [])) [(.t 7), (.t 9)]), none, []⟩, ⟨(some 6), (.asg (.t 10) none), none, []⟩] false) (.block 0 (.loop (.seq (.seq (.reg [⟨(some 11), (.mv (.t 6)), none, []⟩, ⟨(some 12), (.bin .gtr (.t 11) (.c (.int .i64 0))), none, []⟩] false) (.cond (.t 12) .skip (.exit 0))) (.seq (.block 1 (.reg [⟨(some 15), (.mv (.t 5)), none, []⟩, ⟨(some 16), (.mv (.t 0)), none, []⟩, ⟨(some 17), (.call (.c (.clo 53 [])) [(.t 16)]), none, []⟩, ⟨(some 18), (.bldS 2 49 (.agg [(.int .i64 0), (.int .i64 0)]) 1 [⟨0, (.t 17)⟩]), none, []⟩, ⟨(some 19), (.app 2 49 16 (.t 15) (.t 18)), none, []⟩, ⟨(some 5), (.asg (.t 19) (some ⟨2, 49⟩)), none, []⟩] false)) (.reg [⟨(some 13), (.mv (.t 6)), none, []⟩, ⟨(some 14), (.bin .sub (.t 13) (.c (.int .i64 1))), none, []⟩, ⟨(some 6), (.asg (.t 14) none), none, []⟩] false)))))) (.seq (.reg [⟨(some 20), (.mv (.t 5)), none, []⟩, ⟨(some 4), (.asg (.t 20) (some ⟨2, 49⟩)), none, []⟩] false) .ret))))
theorem dc47_c : (Try.f47.body.bind (cCode Try.prog Try.f47.ntmps)) = some dc47 := by kernel_rfl
theorem dc47_r : Try.f47.results.toList.mapM (cRes Try.prog) = some [(.t 4)] := by kernel_rfl
def draw_Codes_Slots_enc (a : Tdraw_Codes × Int) : List D := [edraw_Codes a.1, .int .i64 a.2]
def draw_Codes_Slots_dec (ds : List D) : Tdraw_Codes × Int := (udraw_Codes (ds.getD 0 .top), uI (ds.getD 1 .top))
theorem draw_Codes_Slots_de (a : Tdraw_Codes × Int) : draw_Codes_Slots_dec (draw_Codes_Slots_enc a) = a := by simp [draw_Codes_Slots_dec, draw_Codes_Slots_enc, uI, uBo, uS]
def draw_Codes_Slots_R (b : (List TSlot) × Tdraw_Codes) : D := .sl (b.1.map eSlot)
def draw_Codes_Slots_E (b : (List TSlot) × Tdraw_Codes) : List D := [edraw_Codes b.2]
noncomputable def draw_Codes_Slots_S : Dw.Spec := fSpec [(0, (2, 67))] (.row 2 49) draw_Codes_Slots_enc draw_Codes_Slots_dec (fun a => draw_Codes_Slots a.1 a.2) draw_Codes_Slots_R draw_Codes_Slots_E
set_option maxHeartbeats 4000000 in
theorem draw_Codes_Slots_ok : SpecOk Try.prog 47 draw_Codes_Slots_S := by
  refine fn_ok (specs_ok (l := [(22, draw_Codes_Next_S), (53, draw_Codes_Slot_S)]) (by simp [draw_Codes_Next_ok, draw_Codes_Slot_ok])) Try.func47 (by decide) dc47_c dc47_r (np := 2) (by decide) draw_Codes_Slots_de (fun _ => rfl) ?_
  rintro ⟨c1, most2⟩
  show Tr (specs [(22, draw_Codes_Next_S), (53, draw_Codes_Slot_S)]) dc47 (kRet [(0, (2, 67))] (.row 2 49) [(.t 4)] 2 draw_Codes_Slots_R draw_Codes_Slots_E) ⟨[(0, .optr 0 0 0 0), (1, .int .i64 most2)], [(0, some (0, ⟨false, true, 2, 67, [.agg [.sl (c1.list.map eU8), .int .i64 c1.at_]]⟩))], 2⟩ (draw_Codes_Slots c1 most2)
  unfold dc47 draw_Codes_Slots
  refine tr_seq ?_
  refine tr_reg ?_
  refine trO_asg_nil (α := TSlot) rfl eSlot rfl ?_
  refine trO_nil ?_
  refine trX_seq ?_
  refine tr_seq ?_
  refine tr_reg ?_
  refine trO_asg_nil (α := TSlot) rfl eSlot rfl ?_
  refine trO_nil ?_
  refine trX_seq ?_
  refine tr_seq ?_
  refine tr_seq ?_
  refine tr_reg ?_
  refine trO_mv rfl rfl ?_
  refine trO_mv rfl rfl ?_
  refine trO_bin (v := .int .i64 (IntKind.i64.wrap (most2 + 1))) rfl rfl rfl rfl rfl ?_
  refine trO_bind fun r3 hr3 => ?_
  refine trO_call_val (c1, IntKind.i64.wrap (most2 + 1)) rfl rfl rfl draw_Codes_Next_de rfl rfl (by simp) rfl hr3 ?_
  refine trO_asg rfl rfl ?_
  refine trO_nil ?_
  refine trX_seq ?_
  refine tr_block ?_
  refine tr_loop (E := fun (s : (List Int) × Int × (List TSlot) × Int) (g : Nat) => [(0, .optr 0 0 0 0), (5, .osl 5 g 0 s.2.2.1.length), (6, .int .i64 s.2.2.2)]) (O := fun s g => [(0, some (0, ⟨false, true, 2, 67, [.agg [.sl (s.1.map eU8), .int .i64 s.2.1]]⟩)), (5, some (g, ⟨false, false, 2, 49, s.2.2.1.map eSlot⟩))]) (body := fun s => draw_Codes_Slots_b1 s.1 s.2.1 s.2.2.1 s.2.2.2) (s := (r3.2.list, r3.2.at_, ([] : List TSlot), r3.1)) _ (has_exact ⟨rfl, rfl, rfl, trivial⟩ ⟨rfl, rfl, trivial⟩) ?_
  rintro ⟨c4, c5, l6, n7⟩ v5 nn
  show Tr _ _ _ ⟨[(0, .optr 0 0 0 0), (5, .osl 5 v5 0 l6.length), (6, .int .i64 n7)], [(0, some (0, ⟨false, true, 2, 67, [.agg [.sl (c4.map eU8), .int .i64 c5]]⟩)), (5, some (v5, ⟨false, false, 2, 49, l6.map eSlot⟩))], _⟩ (draw_Codes_Slots_b1 c4 c5 l6 n7)
  unfold draw_Codes_Slots_b1
  refine tr_seq ?_
  refine tr_seq ?_
  refine tr_reg ?_
  refine trO_mv rfl rfl ?_
  refine trO_bin (v := .bool (decide (n7 > 0))) rfl rfl rfl rfl rfl ?_
  refine trO_nil ?_
  refine trX_seq ?_
  refine tr_cond (c := (decide (n7 > 0))) rfl ?_ ?_
  ·
    refine tr_skip ?_
    refine trX_seq ?_
    refine tr_seq ?_
    refine tr_block ?_
    refine tr_reg ?_
    refine trO_mv rfl rfl ?_
    refine trO_mv rfl rfl ?_
    refine trO_bind fun r8 hr8 => ?_
    refine trO_call_val (Tdraw_Codes.mk c4 c5) rfl rfl rfl draw_Codes_Slot_de rfl rfl (by simp) rfl hr8 ?_
    refine trO_bldS ([r8.1] : List TSlot) eSlot rfl rfl rfl (by simp) rfl rfl rfl ?_
    refine trO_chk fun hq => ?_
    refine trO_app (l6) (([r8.1] : List TSlot)) eSlot rfl rfl rfl rfl rfl rfl rfl (by simp) (take_drop0_map' _ _ rfl) rfl rfl (by simp) (take_len_map' _ _ rfl) (fun _ => rfl) rfl hq ?_
    refine trO_asg_own (l := l6 ++ ([r8.1] : List TSlot)) (en := eSlot) rfl rfl rfl rfl ?_
    refine trO_nil ?_
    refine trX_blk_normal ?_
    refine trX_seq ?_
    refine tr_reg ?_
    refine trO_mv rfl rfl ?_
    refine trO_bin (v := .int .i64 (IntKind.i64.wrap (n7 - 1))) rfl rfl rfl rfl rfl ?_
    refine trO_asg rfl rfl ?_
    refine trO_nil ?_
    exact trX_loop (s := (r8.2.list, r8.2.at_, l6 ++ ([r8.1] : List TSlot), IntKind.i64.wrap (n7 - 1))) _ (has_exact ⟨rfl, rfl, rfl, trivial⟩ ⟨rfl, rfl, trivial⟩)
  ·
    refine tr_exit ?_
    refine trX_seq_exit ?_
    refine trX_loop_exit ?_
    refine trX_blk_here ?_
    refine trX_seq ?_
    refine tr_seq ?_
    refine tr_reg ?_
    refine trO_mv rfl rfl ?_
    refine trO_asg_own (l := l6) (en := eSlot) rfl rfl rfl rfl ?_
    refine trO_nil ?_
    refine trX_seq ?_
    refine tr_ret ?_
    exact ret_row (b := (l6, (Tdraw_Codes.mk c4 c5))) rfl (by first | (simp; done) | (simp; omega)) rfl rfl (by first | (simp; done) | (simp; omega)) rfl (by first | (simp; done) | (simp; omega)) (congrArg D.sl (take_len_map' _ _ rfl)) rfl

def dc49 : DCode := (.seq (.reg [⟨(some 2), (.asg (.c (.int .u64 0)) none), none, []⟩] false) (.seq (.seq (.reg [⟨(some 3), (.mv (.t 0)), none, []⟩, ⟨(some 4), (.call (.c (.clo 22 [])) [(.t 3), (.c (.int .i64 6))]), none, []⟩] false) (.block 0 (.seq (.reg [⟨(some 6), (.bin .eql (.t 4) (.c (.int .i64 0))), none, []⟩, ⟨(some 5), (.asg (.t 6) none), none, []⟩] false) (.cond (.t 5) (.seq (.reg [⟨(some 7), (.mv (.t 0)), none, []⟩, ⟨(some 8), (.call (.c (.clo 22 [])) [(.t 7), (.c (.int .i64 3))]), none, []⟩, ⟨(some 9), (.cvt .u64 (.t 8)), none, []⟩, ⟨(some 10), (.bin .sub (.c (.int .u64 18446744073709551615)) (.t 9)), none, []⟩, ⟨(some 2), (.asg (.t 10) none), none, []⟩] false) .ret) (.seq (.reg [⟨(some 12), (.bin .eql (.t 4) (.c (.int .i64 1))), none, []⟩, ⟨(some 11), (.asg (.t 12) none), none, []⟩] false) (.cond (.t 11) (.seq (.reg [⟨(some 13), (.mv (.t 0)), none, []⟩, ⟨(some 14), (.call (.c (.clo 22 [])) [(.t 13), (.c (.int .i64 64))]), none, []⟩, ⟨(some 15), (.bin .shl (.c (.int .u64 1)) (.t 14)), none, []⟩, ⟨(some 2), (.asg (.t 15) none), none, []⟩] false) .ret) (.seq (.reg [⟨(some 17), (.bin .eql (.t 4) (.c (.int .i64 2))), none, []⟩, ⟨(some 16), (.asg (.t 17) none), none, []⟩] false) (.cond (.t 16) (.seq (.reg [⟨(some 2), (.asg (.c (.int .u64 0)) none), none, []⟩] false) .ret) .skip)))))))) (.seq (.reg [⟨(some 18), (.mv (.t 0)), none, []⟩, ⟨(some 19), (.call (.c (.clo 22 [])) [(.t 18), (.c (.int .i64 256))]), none, []⟩, ⟨(some 20), (.cvt .u64 (.t 19)), none, []⟩, ⟨(some 2), (.asg (.t 20) none), none, []⟩] false) .ret)))
theorem dc49_c : (Try.f49.body.bind (cCode Try.prog Try.f49.ntmps)) = some dc49 := by kernel_rfl
theorem dc49_r : Try.f49.results.toList.mapM (cRes Try.prog) = some [(.t 2)] := by kernel_rfl
def draw_Codes_Word_enc (a : Tdraw_Codes) : List D := [edraw_Codes a]
def draw_Codes_Word_dec (ds : List D) : Tdraw_Codes := udraw_Codes (ds.getD 0 .top)
theorem draw_Codes_Word_de (a : Tdraw_Codes) : draw_Codes_Word_dec (draw_Codes_Word_enc a) = a := by simp [draw_Codes_Word_dec, draw_Codes_Word_enc, uI, uBo, uS]
def draw_Codes_Word_R (b : Int × Tdraw_Codes) : D := .int .u64 b.1
def draw_Codes_Word_E (b : Int × Tdraw_Codes) : List D := [edraw_Codes b.2]
noncomputable def draw_Codes_Word_S : Dw.Spec := fSpec [(0, (2, 67))] .val draw_Codes_Word_enc draw_Codes_Word_dec (fun a => draw_Codes_Word a) draw_Codes_Word_R draw_Codes_Word_E
set_option maxHeartbeats 4000000 in
theorem draw_Codes_Word_ok : SpecOk Try.prog 49 draw_Codes_Word_S := by
  refine fn_ok (specs_ok (l := [(22, draw_Codes_Next_S)]) (by simp [draw_Codes_Next_ok])) Try.func49 (by decide) dc49_c dc49_r (np := 1) (by decide) draw_Codes_Word_de (fun _ => rfl) ?_
  intro c1
  show Tr (specs [(22, draw_Codes_Next_S)]) dc49 (kRet [(0, (2, 67))] .val [(.t 2)] 1 draw_Codes_Word_R draw_Codes_Word_E) ⟨[(0, .optr 0 0 0 0)], [(0, some (0, ⟨false, true, 2, 67, [.agg [.sl (c1.list.map eU8), .int .i64 c1.at_]]⟩))], 1⟩ (draw_Codes_Word c1)
  unfold dc49 draw_Codes_Word
  refine tr_seq ?_
  refine tr_reg ?_
  refine trO_asg rfl rfl ?_
  refine trO_nil ?_
  refine trX_seq ?_
  refine tr_seq ?_
  refine tr_seq ?_
  refine tr_reg ?_
  refine trO_mv rfl rfl ?_
  refine trO_bind fun r2 hr2 => ?_
  refine trO_call_val (c1, 6) rfl rfl rfl draw_Codes_Next_de rfl rfl (by simp) rfl hr2 ?_
  refine trO_nil ?_
  refine trX_seq ?_
  refine tr_block ?_
  refine tr_seq ?_
  refine tr_reg ?_
  refine trO_bin (v := .bool (r2.1 == 0)) rfl rfl rfl rfl rfl ?_
  refine trO_asg rfl rfl ?_
  refine trO_nil ?_
  refine trX_seq ?_
  refine tr_cond (c := (r2.1 == 0)) rfl ?_ ?_
  ·
    refine tr_seq ?_
    refine tr_reg ?_
    refine trO_mv rfl rfl ?_
    refine trO_bind fun r3 hr3 => ?_
    refine trO_call_val (r2.2, 3) rfl rfl rfl draw_Codes_Next_de rfl rfl (by simp) rfl hr3 ?_
    refine trO_cvt rfl rfl ?_
    refine trO_bin (v := .int .u64 (IntKind.u64.wrap (18446744073709551615 - (IntKind.u64.wrap (r3.1))))) rfl rfl rfl rfl rfl ?_
    refine trO_asg rfl rfl ?_
    refine trO_nil ?_
    refine trX_seq ?_
    refine tr_ret ?_
    refine trX_blk_ret ?_
    refine trX_seq_ret ?_
    exact ret_val (b := (IntKind.u64.wrap (18446744073709551615 - (IntKind.u64.wrap (r3.1))), r3.2)) rfl (by first | (simp; done) | (simp; omega)) rfl rfl (by first | (simp; done) | (simp; omega)) rfl
  ·
    refine tr_seq ?_
    refine tr_reg ?_
    refine trO_bin (v := .bool (r2.1 == 1)) rfl rfl rfl rfl rfl ?_
    refine trO_asg rfl rfl ?_
    refine trO_nil ?_
    refine trX_seq ?_
    refine tr_cond (c := (r2.1 == 1)) rfl ?_ ?_
    ·
      refine tr_seq ?_
      refine tr_reg ?_
      refine trO_mv rfl rfl ?_
      refine trO_bind fun r4 hr4 => ?_
      refine trO_call_val (r2.2, 64) rfl rfl rfl draw_Codes_Next_de rfl rfl (by simp) rfl hr4 ?_
      refine trO_chk fun hq => ?_
      refine trO_bin (v := .int .u64 (IntKind.u64.wrap (1 * 2 ^ (Nat.min r4.1.toNat IntKind.u64.bits)))) rfl rfl rfl rfl hq ?_
      refine trO_asg rfl rfl ?_
      refine trO_nil ?_
      refine trX_seq ?_
      refine tr_ret ?_
      refine trX_blk_ret ?_
      refine trX_seq_ret ?_
      exact ret_val (b := (IntKind.u64.wrap (1 * 2 ^ (Nat.min r4.1.toNat IntKind.u64.bits)), r4.2)) rfl (by first | (simp; done) | (simp; omega)) rfl rfl (by first | (simp; done) | (simp; omega)) rfl
    ·
      refine tr_seq ?_
      refine tr_reg ?_
      refine trO_bin (v := .bool (r2.1 == 2)) rfl rfl rfl rfl rfl ?_
      refine trO_asg rfl rfl ?_
      refine trO_nil ?_
      refine trX_seq ?_
      refine tr_cond (c := (r2.1 == 2)) rfl ?_ ?_
      ·
        refine tr_seq ?_
        refine tr_reg ?_
        refine trO_asg rfl rfl ?_
        refine trO_nil ?_
        refine trX_seq ?_
        refine tr_ret ?_
        refine trX_blk_ret ?_
        refine trX_seq_ret ?_
        exact ret_val (b := (0, r2.2)) rfl (by first | (simp; done) | (simp; omega)) rfl rfl (by first | (simp; done) | (simp; omega)) rfl
      ·
        refine tr_skip ?_
        refine trX_blk_normal ?_
        refine trX_seq ?_
        refine tr_seq ?_
        refine tr_reg ?_
        refine trO_mv rfl rfl ?_
        refine trO_bind fun r5 hr5 => ?_
        refine trO_call_val (r2.2, 256) rfl rfl rfl draw_Codes_Next_de rfl rfl (by simp) rfl hr5 ?_
        refine trO_cvt rfl rfl ?_
        refine trO_asg rfl rfl ?_
        refine trO_nil ?_
        refine trX_seq ?_
        refine tr_ret ?_
        exact ret_val (b := (IntKind.u64.wrap (r5.1), r5.2)) rfl (by first | (simp; done) | (simp; omega)) rfl rfl (by first | (simp; done) | (simp; omega)) rfl

def dc54 : DCode := (.seq (.reg [⟨(some 4), (.box (.t 1) 3 27), none, []⟩, ⟨(some 6), (.asg (.c (.int .i64 0)) none), none, []⟩] false) (.seq (.reg [⟨(some 7), (.asg (.c .nils) (some ⟨1, 3⟩)), none, []⟩] false) (.seq (.seq (.reg [⟨(some 8), (.asg (.c (.int .i64 0)) none), none, []⟩] false) (.block 0 (.loop (.seq (.seq (.reg [⟨(some 9), (.mv (.t 8)), none, []⟩, ⟨(some 10), (.fldA 1 (.t 4)), none, []⟩, ⟨(some 11), (.ld 1 false (.t 10)), none, []⟩, ⟨(some 12), (.len false (.t 11)), none, []⟩, ⟨(some 13), (.bin .lss (.t 9) (.t 12)), none, []⟩] false) (.cond (.t 13) .skip (.exit 0))) (.seq (.block 1 (.seq (.reg [⟨(some 16), (.fldA 1 (.t 4)), none, []⟩, ⟨(some 17), (.ld 1 false (.t 16)), none, [0]⟩, ⟨(some 18), (.mv (.t 8)), none, []⟩, ⟨(some 19), (.ixA 2 (.t 17) (.t 18)), none, [1, 2]⟩, ⟨(some 20), (.fldA 0 (.t 19)), none, [3]⟩, ⟨(some 21), (.ld 1 false (.t 20)), none, [4]⟩, ⟨(some 22), (.fldA 1 (.t 4)), none, []⟩, ⟨(some 23), (.ld 1 false (.t 22)), none, [6]⟩, ⟨(some 24), (.mv (.t 2)), none, []⟩, ⟨(some 25), (.ixA 2 (.t 23) (.t 24)), none, [7, 8]⟩, ⟨(some 26), (.fldA 0 (.t 25)), none, [9]⟩, ⟨(some 27), (.ld 1 false (.t 26)), none, [10]⟩, ⟨(some 28), (.bin .eql (.t 21) (.t 27)), none, [5, 11]⟩] true) (.cond (.t 28) (.reg [⟨(some 29), (.mv (.t 7)), none, []⟩, ⟨(some 30), (.mv (.t 8)), none, []⟩, ⟨(some 31), (.bldS 1 3 (.int .i64 0) 1 [⟨0, (.t 30)⟩]), none, []⟩, ⟨(some 32), (.app 1 3 8 (.t 29) (.t 31)), none, []⟩, ⟨(some 7), (.asg (.t 32) (some ⟨1, 3⟩)), none, []⟩] false) .skip))) (.reg [⟨(some 14), (.mv (.t 8)), none, []⟩, ⟨(some 15), (.bin .add (.t 14) (.c (.int .i64 1))), none, []⟩, ⟨(some 8), (.asg (.t 15) none), none, []⟩] false)))))) (.seq (.reg [⟨(some 33), (.mv (.t 7)), none, []⟩, ⟨(some 34), (.mv (.t 0)), none, []⟩, ⟨(some 35), (.mv (.t 7)), none, []⟩, ⟨(some 36), (.len false (.t 35)), none, []⟩, ⟨(some 37), (.call (.c (.clo 22 [])) [(.t 34), (.t 36)]), none, []⟩, ⟨(some 38), (.ixA 1 (.t 33) (.t 37)), none, []⟩, ⟨(some 39), (.ld 1 false (.t 38)), none, []⟩, ⟨(some 6), (.asg (.t 39) none), none, []⟩] false) .ret))))
theorem dc54_c : (Try.f54.body.bind (cCode Try.prog Try.f54.ntmps)) = some dc54 := by kernel_rfl
theorem dc54_r : Try.f54.results.toList.mapM (cRes Try.prog) = some [(.t 6)] := by kernel_rfl
def draw_Codes_like_enc (a : Tdraw_Codes × TFunc × Int) : List D := [edraw_Codes a.1, eFunc a.2.1, .int .i64 a.2.2]
def draw_Codes_like_dec (ds : List D) : Tdraw_Codes × TFunc × Int := (udraw_Codes (ds.getD 0 .top), uFunc (ds.getD 1 .top), uI (ds.getD 2 .top))
theorem draw_Codes_like_de (a : Tdraw_Codes × TFunc × Int) : draw_Codes_like_dec (draw_Codes_like_enc a) = a := by simp [draw_Codes_like_dec, draw_Codes_like_enc, uI, uBo, uS]
def draw_Codes_like_R (b : Int × Tdraw_Codes) : D := .int .i64 b.1
def draw_Codes_like_E (b : Int × Tdraw_Codes) : List D := [edraw_Codes b.2]
noncomputable def draw_Codes_like_S : Dw.Spec := fSpec [(0, (2, 67))] .val draw_Codes_like_enc draw_Codes_like_dec (fun a => draw_Codes_like a.1 a.2.1 a.2.2) draw_Codes_like_R draw_Codes_like_E
set_option maxHeartbeats 4000000 in
theorem draw_Codes_like_ok : SpecOk Try.prog 54 draw_Codes_like_S := by
  refine fn_ok (specs_ok (l := [(22, draw_Codes_Next_S)]) (by simp [draw_Codes_Next_ok])) Try.func54 (by decide) dc54_c dc54_r (np := 3) (by decide) draw_Codes_like_de (fun _ => rfl) ?_
  rintro ⟨c1, f2, s3⟩
  show Tr (specs [(22, draw_Codes_Next_S)]) dc54 (kRet [(0, (2, 67))] .val [(.t 6)] 3 draw_Codes_like_R draw_Codes_like_E) ⟨[(0, .optr 0 0 0 0), (1, .agg [.int .i64 f2.Params, .sl (f2.Slots.map eSlot), .sl (f2.Code.map eInstr)]), (2, .int .i64 s3)], [(0, some (0, ⟨false, true, 2, 67, [.agg [.sl (c1.list.map eU8), .int .i64 c1.at_]]⟩))], 3⟩ (draw_Codes_like c1 f2 s3)
  unfold dc54 draw_Codes_like
  refine tr_seq ?_
  refine tr_reg ?_
  refine trO_box rfl rfl rfl rfl rfl ?_
  refine trO_asg rfl rfl ?_
  refine trO_nil ?_
  refine trX_seq ?_
  refine tr_seq ?_
  refine tr_reg ?_
  refine trO_asg_nil (α := Int) rfl eI64 rfl ?_
  refine trO_nil ?_
  refine trX_seq ?_
  refine tr_seq ?_
  refine tr_seq ?_
  refine tr_reg ?_
  refine trO_asg rfl rfl ?_
  refine trO_nil ?_
  refine trX_seq ?_
  refine tr_block ?_
  refine tr_loop (E := fun (s : (List Int) × Int) (g : Nat × Nat) => [(0, .optr 0 0 0 0), (2, .int .i64 s3), (4, .optr 4 g.1 0 0), (7, .osl 7 g.2 0 s.1.length), (8, .int .i64 s.2)]) (O := fun s g => [(0, some (0, ⟨false, true, 2, 67, [.agg [.sl (c1.list.map eU8), .int .i64 c1.at_]]⟩)), (4, some (g.1, ⟨false, true, 3, 27, [.agg [.int .i64 f2.Params, .sl (f2.Slots.map eSlot), .sl (f2.Code.map eInstr)]]⟩)), (7, some (g.2, ⟨false, false, 1, 3, s.1.map eI64⟩))]) (body := fun s => draw_Codes_like_b1 f2 s3 c1 s.1 s.2) (s := (([] : List Int), 0)) (_, _) (has_exact ⟨rfl, rfl, rfl, rfl, rfl, trivial⟩ ⟨rfl, rfl, rfl, trivial⟩) ?_
  rintro ⟨l4, k5⟩ ⟨v4, v7⟩ nn
  show Tr _ _ _ ⟨[(0, .optr 0 0 0 0), (2, .int .i64 s3), (4, .optr 4 v4 0 0), (7, .osl 7 v7 0 l4.length), (8, .int .i64 k5)], [(0, some (0, ⟨false, true, 2, 67, [.agg [.sl (c1.list.map eU8), .int .i64 c1.at_]]⟩)), (4, some (v4, ⟨false, true, 3, 27, [.agg [.int .i64 f2.Params, .sl (f2.Slots.map eSlot), .sl (f2.Code.map eInstr)]]⟩)), (7, some (v7, ⟨false, false, 1, 3, l4.map eI64⟩))], _⟩ (draw_Codes_like_b1 f2 s3 c1 l4 k5)
  unfold draw_Codes_like_b1
  refine tr_seq ?_
  refine tr_seq ?_
  refine tr_reg ?_
  refine trO_mv rfl rfl ?_
  refine trO_fldA rfl rfl ?_
  refine trO_ld_obj (v := .sl (f2.Slots.map eSlot)) (z := .agg [.int .i64 f2.Params, .sl (f2.Slots.map eSlot), .sl (f2.Code.map eInstr)]) rfl rfl rfl rfl rfl rfl ?_
  refine trO_len_sl rfl rfl ?_
  refine trO_bin (v := .bool (decide (k5 < (f2.Slots.length : Int)))) rfl rfl rfl rfl rfl ?_
  refine trO_nil ?_
  refine trX_seq ?_
  refine tr_cond (c := (decide (k5 < (f2.Slots.length : Int)))) rfl ?_ ?_
  ·
    refine tr_skip ?_
    refine trX_seq ?_
    refine tr_seq ?_
    refine tr_block ?_
    refine tr_seq ?_
    refine tr_reg ?_
    refine trO_fldA rfl rfl ?_
    refine trO_ld_obj (v := .sl (f2.Slots.map eSlot)) (z := .agg [.int .i64 f2.Params, .sl (f2.Slots.map eSlot), .sl (f2.Code.map eInstr)]) rfl rfl rfl rfl rfl rfl ?_
    refine trO_mv rfl rfl ?_
    refine trO_bind fun x_x6 hx_x6 => ?_
    refine trO_ixA_sl (en := eSlot) rfl rfl rfl hx_x6 rfl ?_
    refine trO_fldA_f rfl rfl ?_
    refine trO_ld_f (v := .int .i64 x_x6.Size) rfl rfl rfl rfl ?_
    refine trO_fldA rfl rfl ?_
    refine trO_ld_obj (v := .sl (f2.Slots.map eSlot)) (z := .agg [.int .i64 f2.Params, .sl (f2.Slots.map eSlot), .sl (f2.Code.map eInstr)]) rfl rfl rfl rfl rfl rfl ?_
    refine trO_mv rfl rfl ?_
    refine trO_bind fun x_x7 hx_x7 => ?_
    refine trO_ixA_sl (en := eSlot) rfl rfl rfl hx_x7 rfl ?_
    refine trO_fldA_f rfl rfl ?_
    refine trO_ld_f (v := .int .i64 x_x7.Size) rfl rfl rfl rfl ?_
    refine trO_bin (v := .bool (x_x6.Size == x_x7.Size)) rfl rfl rfl rfl rfl ?_
    refine trO_nil_draw (by kernel_rfl) ?_
    refine trX_seq ?_
    refine tr_cond (c := (x_x6.Size == x_x7.Size)) rfl ?_ ?_
    ·
      refine tr_reg ?_
      refine trO_mv rfl rfl ?_
      refine trO_mv rfl rfl ?_
      refine trO_bldS ([k5] : List Int) eI64 rfl rfl rfl (by simp) rfl rfl rfl ?_
      refine trO_chk fun hq => ?_
      refine trO_app (l4) (([k5] : List Int)) eI64 rfl rfl rfl rfl rfl rfl rfl (by simp) (take_drop0_map' _ _ rfl) rfl rfl (by simp) (take_len_map' _ _ rfl) (fun _ => rfl) rfl hq ?_
      refine trO_asg_own (l := l4 ++ ([k5] : List Int)) (en := eI64) rfl rfl rfl rfl ?_
      refine trO_nil ?_
      refine trX_blk_normal ?_
      refine trX_seq ?_
      refine tr_reg ?_
      refine trO_mv rfl rfl ?_
      refine trO_bin (v := .int .i64 (IntKind.i64.wrap (k5 + 1))) rfl rfl rfl rfl rfl ?_
      refine trO_asg rfl rfl ?_
      refine trO_nil ?_
      exact trX_loop (s := (l4 ++ ([k5] : List Int), IntKind.i64.wrap (k5 + 1))) (_, _) (has_exact ⟨rfl, rfl, rfl, rfl, rfl, trivial⟩ ⟨rfl, rfl, rfl, trivial⟩)
    ·
      refine tr_skip ?_
      refine trX_blk_normal ?_
      refine trX_seq ?_
      refine tr_reg ?_
      refine trO_mv rfl rfl ?_
      refine trO_bin (v := .int .i64 (IntKind.i64.wrap (k5 + 1))) rfl rfl rfl rfl rfl ?_
      refine trO_asg rfl rfl ?_
      refine trO_nil ?_
      exact trX_loop (s := (l4, IntKind.i64.wrap (k5 + 1))) (_, _) (has_exact ⟨rfl, rfl, rfl, rfl, rfl, trivial⟩ ⟨rfl, rfl, rfl, trivial⟩)
  ·
    refine tr_exit ?_
    refine trX_seq_exit ?_
    refine trX_loop_exit ?_
    refine trX_blk_here ?_
    refine trX_seq ?_
    refine tr_seq ?_
    refine tr_reg ?_
    refine trO_mv rfl rfl ?_
    refine trO_mv rfl rfl ?_
    refine trO_mv rfl rfl ?_
    refine trO_len_own rfl rfl ?_
    refine trO_bind fun r8 hr8 => ?_
    refine trO_call_val (c1, (l4.length : Int)) rfl rfl rfl draw_Codes_Next_de rfl rfl (by simp) rfl hr8 ?_
    refine trO_chk fun hq => ?_
    refine trO_ixA_own (l := l4) (en := eI64) rfl rfl rfl rfl rfl hq ?_
    refine trO_bind fun l_e9 hl_e9 => ?_
    refine trO_ld_obj (v := .int .i64 l_e9) (z := eI64 l_e9) rfl rfl rfl (map_get hl_e9) rfl rfl ?_
    refine trO_asg rfl rfl ?_
    refine trO_nil ?_
    refine trX_seq ?_
    refine tr_ret ?_
    exact ret_val (b := (l_e9, r8.2)) rfl (by first | (simp; done) | (simp; omega)) rfl rfl (by first | (simp; done) | (simp; omega)) rfl

end Go.Proofs.Ytihomlbcppfngaa
