/-
  Programs on typed data, and the proofs that the code does what they say; written by a program (dx.py).
-/
import Derived.Test.YtcelninhkmhjkaaDoorProg
import Derived.Test.YtcelninhkmhjkaaDoorDc
import Derived.KernelRfl
import Derived.Test.YtcelninhkmhjkaaDoorSh
import Derived.Test.YtcelninhkmhjkaaDoorDxP
namespace Go.Proofs.YtcelninhkmhjkaaDoor
open Go Go.Dw Go.Proofs
set_option maxRecDepth 100000
open Go.Dw renaming trO_mv → mV, trO_bin → bN, trO_ld_obj → lO, trO_bind → bD, trO_chk → cK, trO_nil → nI, trX_seq → xS, tr_reg → rG, tr_seq → sQ, trO_asg_own → aO, trO_asg → aS, trO_off → oF, trO_bld → bL, trO_bldS → bS, trO_call_val → cV, trO_call_ground → cG, trO_call_row → cR, trO_app → aP, trO_st_var → sV, trO_ixA_sl → iS, trO_len_sl → lS, trO_fldA → fA, trO_fldA_f → fF, trO_nilck → nC, trO_ld_f → lF, trO_split → sP, trO_pick_true → pT, trO_pick_false → pF, trO_un → uN, trO_cvt → cT, trO_new → nW, trO_box → bX, trO_asg_nil → aN, trO_asg_sl → aL, tr_cond → cD, tr_block → bK, tr_ret → rT, tr_skip → sK, tr_exit → eT, trX_cut → xC, trX_loop → xL, trX_seq_ret → xR, trX_cut_ret → zR, trX_loop_ret → lR, has_exact → hE, trX_loop_exit → lE, trX_blk_here → bH, trX_blk_normal → bM, trX_blk_ret → bR, trX_seq_exit → xE, trO_call_ptr → cP, tr_loop → lP, tr_seq_cut → sC, trO_mkf → mF
def dc115 : DCode := (.seq (.reg [P 2 (.asg (.c (.bool false)) none)] false) (.seq (.reg [M 3 0, P 4 (.bin .geq (T 3) (C 0)), M 5 4, ⟨(some 6), (.mv (T 0)), (some ⟨5, true⟩), []⟩, ⟨(some 7), (.bin .lss (T 6) (C 512)), (some ⟨5, true⟩), []⟩, P 8 (.pick (T 5) (T 7) (.c (.bool false))), P 2 (.asg (T 8) none)] false) .ret))
theorem dc115_c : (Tryd.f115.body.bind (cCode Tryd.prog Tryd.f115.ntmps)) = some dc115 := by kernel_rfl
theorem dc115_r : Tryd.f115.results.toList.mapM (cRes Tryd.prog) = some [(.t 2)] := by kernel_rfl
def bitset_within_int_enc (a : Int) : List D := [.int .i64 a]
def bitset_within_int_dec (ds : List D) : Int := uI (ds.getD 0 .top)
theorem bitset_within_int_de (a : Int) : bitset_within_int_dec (bitset_within_int_enc a) = a := by simp [bitset_within_int_dec, bitset_within_int_enc, uI]
def bitset_within_int_R (b : Bool) : D := .bool b
def bitset_within_int_E (_b : Bool) : List D := []
noncomputable def bitset_within_int_S : Dw.Spec := fSpec [] .ground bitset_within_int_enc bitset_within_int_dec (fun a => bitset_within_int a) bitset_within_int_R bitset_within_int_E
set_option maxHeartbeats 4000000 in
theorem bitset_within_int_ok : SpecOk Tryd.prog 115 bitset_within_int_S := by
 refine fn_ok (specs_nil) Tryd.func115 (by decide) dc115_c dc115_r (np := 1) (by decide) bitset_within_int_de (fun _ => rfl) (fun _ => rfl) (by decide) <| ?_
 intro n1
 show TrE (specs []) dc115 (kRet [] .ground [(.t 2)] bitset_within_int_R bitset_within_int_E) ⟨[(0, .int .i64 n1)], [], 262144⟩ (bitset_within_int n1)
 refine tr_ent <| ?_
 unfold dc115 bitset_within_int
 refine sQ <| rG <| aS rfl rfl <| nI <| xS <| sQ <| rG <| mV rfl rfl <| bN (v := .bool (decide (n1 ≥ 0))) rfl rfl rfl rfl rfl <| mV rfl rfl <| sP 5 (b := (decide (n1 ≥ 0))) rfl ?_ ?_
 ·refine mV rfl rfl <| bN (v := .bool (decide (n1 < 512))) rfl rfl rfl rfl rfl <| pT rfl rfl rfl rfl <| aS rfl rfl <| nI <| xS <| rT <| ret_ground (b := (decide (n1 < 512))) rfl ?_ rfl rfl ?_ rfl
  all_goals first|(simp;done)|(simp;omega)|rfl|(simp [isFro,isFro0];done)
 ·refine oF rfl <| oF rfl <| pF rfl rfl rfl rfl <| aS rfl rfl <| nI <| xS <| rT <| ret_ground (b := false) rfl ?_ rfl rfl ?_ rfl
  all_goals first|(simp;done)|(simp;omega)|rfl|(simp [isFro,isFro0];done)

def dc91 : DCode := (.seq (.reg [P 2 (.asg (.c (.bool false)) none)] false) (.seq (.seq (.reg [M 5 0, P 6 (.len false (T 5)), P 7 (.mv (C 0))] false) (.block 0 (.loop (.seq (.reg [P 8 (.bin .lss (T 7) (T 6))] false) (.seq (.cond (T 8) .skip (.exit 0)) (.seq (.block 1 (.seq (.reg [M 9 7, P 10 (.ixA 1 (T 5) (T 7)), P 11 (.ld 1 false (T 10)), P 3 (.asg (T 9) none), P 4 (.asg (T 11) none)] false) (.seq (.reg [M 12 4, P 13 (.call (.c (.clo 115 [])) [(T 12)]), P 14 (.un .not (T 13)), M 15 14, ⟨(some 16), (.mv (T 3)), (some ⟨15, false⟩), []⟩, ⟨(some 17), (.bin .gtr (T 16) (C 0)), (some ⟨15, false⟩), []⟩, ⟨(some 18), (.mv (T 17)), (some ⟨15, false⟩), []⟩, ⟨(some 19), (.mv (T 4)), (some ⟨18, true⟩), []⟩, ⟨(some 20), (.mv (T 0)), (some ⟨18, true⟩), []⟩, ⟨(some 21), (.mv (T 3)), (some ⟨18, true⟩), []⟩, ⟨(some 22), (.bin .sub (T 21) (C 1)), (some ⟨18, true⟩), []⟩, ⟨(some 23), (.ixA 1 (T 20) (T 22)), (some ⟨18, true⟩), []⟩, ⟨(some 24), (.ld 1 false (T 23)), (some ⟨18, true⟩), []⟩, ⟨(some 25), (.bin .leq (T 19) (T 24)), (some ⟨18, true⟩), []⟩, ⟨(some 26), (.pick (T 18) (T 25) (.c (.bool false))), (some ⟨15, false⟩), []⟩, P 27 (.pick (T 15) (.c (.bool true)) (T 26))] false) (.cond (T 27) (.seq (.reg [P 2 (.asg (.c (.bool false)) none)] false) .ret) .skip)))) (.reg [P 28 (.bin .add (T 7) (C 1)), M 7 28] false))))))) (.seq (.reg [P 2 (.asg (.c (.bool true)) none)] false) .ret)))
theorem dc91_c : (Tryd.f91.body.bind (cCode Tryd.prog Tryd.f91.ntmps)) = some dc91 := by kernel_rfl
theorem dc91_r : Tryd.f91.results.toList.mapM (cRes Tryd.prog) = some [(.t 2)] := by kernel_rfl
def bitset_Check_enc (a : (List Int)) : List D := [.sl (a.map eI64)]
def bitset_Check_dec (ds : List D) : (List Int) := (uL uI) (ds.getD 0 .top)
theorem bitset_Check_de (a : (List Int)) : bitset_Check_dec (bitset_Check_enc a) = a := by simp [bitset_Check_dec, bitset_Check_enc, uL_e (u := uI) (en := eI64) (fun _ => rfl)]
def bitset_Check_R (b : Bool) : D := .bool b
def bitset_Check_E (_b : Bool) : List D := []
noncomputable def bitset_Check_S : Dw.Spec := fSpec [] .ground bitset_Check_enc bitset_Check_dec (fun a => bitset_Check a) bitset_Check_R bitset_Check_E
set_option maxHeartbeats 4000000 in
theorem bitset_Check_ok : SpecOk Tryd.prog 91 bitset_Check_S := by
 refine fn_ok (specs_ok (l := [(115, bitset_within_int_S)]) (by simp [bitset_within_int_ok])) Tryd.func91 (by decide) dc91_c dc91_r (np := 1) (by decide) bitset_Check_de (fun _ => rfl) (fun _ => rfl) (by decide) <| ?_
 intro s1
 show TrE (specs [(115, bitset_within_int_S)]) dc91 (kRet [] .ground [(.t 2)] bitset_Check_R bitset_Check_E) ⟨[(0, .sl (s1.map eI64))], [], 262144⟩ (bitset_Check s1)
 refine tr_ent <| ?_
 unfold dc91 bitset_Check
 refine sQ <| rG <| aS rfl rfl <| nI <| xS <| sQ <| sQ <| rG <| mV rfl rfl <| lS rfl rfl <| mV rfl rfl <| nI <| xS <| bK <| lP (E := fun (s : Int) (g : Unit) => [(0, .sl (s1.map eI64)), (5, .sl (s1.map eI64)), (6, .int .i64 (s1.length : Int)), (7, .int .i64 s)]) (O := fun s g => []) (body := fun s => bitset_Check_b1 s1 s) (s := 0) () ((hE ⟨rfl, rfl, rfl, rfl, trivial⟩ trivial)) <| ?_
 rintro x2 ⟨⟩ nn
 try dsimp only
 unfold bitset_Check_b1
 refine sQ <| rG <| bN (v := .bool (decide (x2 < (s1.length : Int)))) rfl rfl rfl rfl rfl <| nI <| xS <| sQ <| cD (c := (decide (x2 < (s1.length : Int)))) rfl ?_ ?_
 ·refine sK <| xS <| sQ <| bK <| sQ <| rG <| mV rfl rfl <| bD fun x_x3 hx_x3 => iS (en := eI64) rfl rfl rfl hx_x3 rfl <| lF (v := .int .i64 x_x3) rfl rfl rfl rfl <| aS rfl rfl <| aS rfl rfl <| nI <| xS <| sQ <| rG <| mV rfl rfl <| bD fun r4 hr4 => cG x_x3 rfl rfl rfl bitset_within_int_de rfl rfl (by simp) rfl hr4 rfl <| uN (w := .bool (!r4)) rfl rfl rfl rfl trivial <| mV rfl rfl <| sP 15 (b := (!r4)) rfl ?_ ?_
  ·refine oF rfl <| oF rfl <| oF rfl <| oF rfl <| oF rfl <| oF rfl <| oF rfl <| oF rfl <| oF rfl <| oF rfl <| oF rfl <| pT rfl rfl rfl rfl <| nI <| xS <| tr_cond_true rfl <| sQ <| rG <| aS rfl rfl <| nI <| xS <| rT <| bR <| xR <| lR <| bR <| xR <| ret_ground (b := false) rfl ?_ rfl rfl ?_ rfl
   all_goals first|(simp;done)|(simp;omega)|rfl|(simp [isFro,isFro0];done)
  ·refine mV rfl rfl <| bN (v := .bool (decide (x2 > 0))) rfl rfl rfl rfl rfl <| mV rfl rfl <| sP 18 (b := (decide (x2 > 0))) rfl ?_ ?_
   ·refine mV rfl rfl <| mV rfl rfl <| mV rfl rfl <| bN (v := .int .i64 (IntKind.i64.wrap (x2 - 1))) rfl rfl rfl rfl rfl <| bD fun x_x5 hx_x5 => iS (en := eI64) rfl rfl rfl hx_x5 rfl <| lF (v := .int .i64 x_x5) rfl rfl rfl rfl <| bN (v := .bool (decide (x_x3 ≤ x_x5))) rfl rfl rfl rfl rfl <| pT rfl rfl rfl rfl <| pF rfl rfl rfl rfl <| nI <| xS <| cD (c := (decide (x_x3 ≤ x_x5))) rfl ?_ ?_
    ·refine sQ <| rG <| aS rfl rfl <| nI <| xS <| rT <| bR <| xR <| lR <| bR <| xR <| ret_ground (b := false) rfl ?_ rfl rfl ?_ rfl
     all_goals first|(simp;done)|(simp;omega)|rfl|(simp [isFro,isFro0];done)
    ·exact sK <| bM <| xS <| rG <| bN (v := .int .i64 (IntKind.i64.wrap (x2 + 1))) rfl rfl rfl rfl rfl <| mV rfl rfl <| nI <| xL (s := IntKind.i64.wrap (x2 + 1)) () ((hE ⟨rfl, rfl, rfl, rfl, trivial⟩ trivial))
   ·exact oF rfl <| oF rfl <| oF rfl <| oF rfl <| oF rfl <| oF rfl <| oF rfl <| pF rfl rfl rfl rfl <| pF rfl rfl rfl rfl <| nI <| xS <| tr_cond_false rfl <| sK <| bM <| xS <| rG <| bN (v := .int .i64 (IntKind.i64.wrap (x2 + 1))) rfl rfl rfl rfl rfl <| mV rfl rfl <| nI <| xL (s := IntKind.i64.wrap (x2 + 1)) () ((hE ⟨rfl, rfl, rfl, rfl, trivial⟩ trivial))
 ·refine eT <| xE <| lE <| bH <| xS <| sQ <| rG <| aS rfl rfl <| nI <| xS <| rT <| ret_ground (b := true) rfl ?_ rfl rfl ?_ rfl
  all_goals first|(simp;done)|(simp;omega)|rfl|(simp [isFro,isFro0];done)

def dc90 : DCode := (.seq (.reg [P 3 (.asg (.c (.bool false)) none)] false) (.seq (.reg [M 4 0, ⟨(some 5), (.call (.c (.clo 91 [])) [(T 4)]), none, [0]⟩, ⟨(some 6), (.un .not (T 5)), none, [1]⟩, ⟨(some 7), (.mv (T 6)), none, [2, 1]⟩, ⟨(some 8), (.mv (T 0)), (some ⟨7, false⟩), [3]⟩, ⟨(some 9), (.len false (T 8)), (some ⟨7, false⟩), [4, 3]⟩, ⟨(some 10), (.bin .gtr (T 9) (C 0)), (some ⟨7, false⟩), [5, 3]⟩, ⟨(some 11), (.mv (T 10)), (some ⟨7, false⟩), [6, 3, 3]⟩, ⟨(some 12), (.mv (T 0)), (some ⟨11, true⟩), [7]⟩, ⟨(some 13), (.mv (T 0)), (some ⟨11, true⟩), [7]⟩, ⟨(some 14), (.len false (T 13)), (some ⟨11, true⟩), [9, 7]⟩, ⟨(some 15), (.bin .sub (T 14) (C 1)), (some ⟨11, true⟩), [10, 7]⟩, ⟨(some 16), (.ixA 1 (T 12) (T 15)), (some ⟨11, true⟩), [8, 11, 7]⟩, ⟨(some 17), (.ld 1 false (T 16)), (some ⟨11, true⟩), [12, 7]⟩, ⟨(some 18), (.fldA 1 (T 1)), (some ⟨11, true⟩), [7]⟩, ⟨(some 19), (.ld 1 false (T 18)), (some ⟨11, true⟩), [14, 7]⟩, ⟨(some 20), (.len false (T 19)), (some ⟨11, true⟩), [15, 7]⟩, ⟨(some 21), (.bin .geq (T 17) (T 20)), (some ⟨11, true⟩), [13, 16, 7]⟩, ⟨(some 22), (.pick (T 11) (T 21) (.c (.bool false))), (some ⟨7, false⟩), [7, 17, 3]⟩, ⟨(some 23), (.pick (T 7) (.c (.bool true)) (T 22)), none, [3, 18]⟩, ⟨(some 3), (.asg (T 23) none), none, [19, 7, 0, 1, 2, 3, 4, 5, 6, 7, 8, 9, 10, 11, 12, 13, 14, 15, 16, 17, 18, 19]⟩] true) .ret))
theorem dc90_c : (Tryd.f90.body.bind (cCode Tryd.prog Tryd.f90.ntmps)) = some dc90 := by kernel_rfl
theorem dc90_r : Tryd.f90.results.toList.mapM (cRes Tryd.prog) = some [(.t 3)] := by kernel_rfl
def livecheck_formed_1_fp_enc (a : (List Int) × TFunc) : List D := [.sl (a.1.map eI64), .fptr (eFunc a.2) 0]
def livecheck_formed_1_fp_dec (ds : List D) : (List Int) × TFunc := ((uL uI) (ds.getD 0 .top), uFunc (fpD (ds.getD 1 .top)))
theorem livecheck_formed_1_fp_de (a : (List Int) × TFunc) : livecheck_formed_1_fp_dec (livecheck_formed_1_fp_enc a) = a := by simp [livecheck_formed_1_fp_dec, livecheck_formed_1_fp_enc, fpD, uL_e (u := uI) (en := eI64) (fun _ => rfl)]
def livecheck_formed_1_fp_R (b : Bool) : D := .bool b
def livecheck_formed_1_fp_E (_b : Bool) : List D := []
noncomputable def livecheck_formed_1_fp_S : Dw.Spec := fSpec [] .ground livecheck_formed_1_fp_enc livecheck_formed_1_fp_dec (fun a => livecheck_formed_1_fp a.1 a.2) livecheck_formed_1_fp_R livecheck_formed_1_fp_E
set_option maxHeartbeats 4000000 in
theorem livecheck_formed_1_fp_ok : SpecOk Tryd.prog 90 livecheck_formed_1_fp_S := by
 refine fn_ok (specs_ok (l := [(91, bitset_Check_S)]) (by simp [bitset_Check_ok])) Tryd.func90 (by decide) dc90_c dc90_r (np := 2) (by decide) livecheck_formed_1_fp_de (fun _ => rfl) (fun _ => rfl) (by decide) <| ?_
 rintro ⟨s1, cap2⟩
 show TrE (specs [(91, bitset_Check_S)]) dc90 (kRet [] .ground [(.t 3)] livecheck_formed_1_fp_R livecheck_formed_1_fp_E) ⟨[(0, .sl (s1.map eI64)), (1, .fptr (.agg [.int .i64 cap2.Params, .sl (cap2.Slots.map eSlot), .sl (cap2.Code.map eInstr)]) 0)], [], 262144⟩ (livecheck_formed_1_fp s1 cap2)
 refine tr_ent <| ?_
 unfold dc90 livecheck_formed_1_fp
 refine sQ <| rG <| aS rfl rfl <| nI <| xS <| sQ <| rG <| mV rfl rfl <| bD fun r3 hr3 => cG s1 rfl rfl rfl bitset_Check_de rfl rfl (by simp) rfl hr3 rfl <| uN (w := .bool (!r3)) rfl rfl rfl rfl trivial <| mV rfl rfl <| sP 7 (b := (!r3)) rfl ?_ ?_
 ·refine oF rfl <| oF rfl <| oF rfl <| oF rfl <| oF rfl <| oF rfl <| oF rfl <| oF rfl <| oF rfl <| oF rfl <| oF rfl <| oF rfl <| oF rfl <| oF rfl <| oF rfl <| pT rfl rfl rfl rfl <| aS rfl rfl <| trO_nil_draw (by kernel_rfl) <| xS <| rT <| ret_ground (b := true) rfl ?_ rfl rfl ?_ rfl
  all_goals first|(simp;done)|(simp;omega)|rfl|(simp [isFro,isFro0];done)
 ·refine mV rfl rfl <| lS rfl rfl <| bN (v := .bool (decide ((s1.length : Int) > 0))) rfl rfl rfl rfl rfl <| mV rfl rfl <| sP 11 (b := (decide ((s1.length : Int) > 0))) rfl ?_ ?_
  ·refine mV rfl rfl <| mV rfl rfl <| lS rfl rfl <| bN (v := .int .i64 (IntKind.i64.wrap ((s1.length : Int) - 1))) rfl rfl rfl rfl rfl <| bD fun x_x4 hx_x4 => iS (en := eI64) rfl rfl rfl hx_x4 rfl <| lF (v := .int .i64 x_x4) rfl rfl rfl rfl <| fF rfl rfl <| lF (v := .sl (cap2.Slots.map eSlot)) rfl rfl rfl rfl <| lS rfl rfl <| bN (v := .bool (decide (x_x4 ≥ (cap2.Slots.length : Int)))) rfl rfl rfl rfl rfl <| pT rfl rfl rfl rfl <| pF rfl rfl rfl rfl <| aS rfl rfl <| trO_nil_draw (by kernel_rfl) <| xS <| rT <| ret_ground (b := (decide (x_x4 ≥ (cap2.Slots.length : Int)))) rfl ?_ rfl rfl ?_ rfl
   all_goals first|(simp;done)|(simp;omega)|rfl|(simp [isFro,isFro0];done)
  ·refine oF rfl <| oF rfl <| oF rfl <| oF rfl <| oF rfl <| oF rfl <| oF rfl <| oF rfl <| oF rfl <| oF rfl <| pF rfl rfl rfl rfl <| pF rfl rfl rfl rfl <| aS rfl rfl <| trO_nil_draw (by kernel_rfl) <| xS <| rT <| ret_ground (b := false) rfl ?_ rfl rfl ?_ rfl
   all_goals first|(simp;done)|(simp;omega)|rfl|(simp [isFro,isFro0];done)

def dc116 : DCode := (.seq (.reg [P 4 (.asg (C 0) none)] false) (.seq (.seq (.reg [M 6 0, P 7 (.len false (T 6)), P 8 (.mv (C 0))] false) (.block 0 (.loop (.seq (.reg [P 9 (.bin .lss (T 8) (T 7))] false) (.seq (.cond (T 9) .skip (.exit 0)) (.seq (.block 1 (.seq (.reg [M 10 8, P 5 (.asg (T 10) none)] false) (.seq (.reg [M 11 1, M 12 0, M 13 5, P 14 (.ixA 1 (T 12) (T 13)), P 15 (.ld 1 false (T 14)), P 16 (.call (T 11) [(T 15)])] false) (.cond (T 16) (.seq (.reg [M 17 5, P 4 (.asg (T 17) none)] false) .ret) .skip)))) (.reg [P 18 (.bin .add (T 8) (C 1)), M 8 18] false))))))) (.seq (.reg [⟨(some 4), (.asg (.c (.int .i64 (-1))) none), none, []⟩] false) .ret)))
theorem dc116_c : (Tryd.f116.body.bind (cCode Tryd.prog Tryd.f116.ntmps)) = some dc116 := by kernel_rfl
theorem dc116_r : Tryd.f116.results.toList.mapM (cRes Tryd.prog) = some [(.t 4)] := by kernel_rfl
def slices_IndexFunc_int_int_formed_1_enc (a : (List (List Int)) × TFunc) : List D := [.sl (a.1.map (eL eI64)), .clo 90 [.fptr (eFunc a.2) 0]]
def slices_IndexFunc_int_int_formed_1_dec (ds : List D) : (List (List Int)) × TFunc := ((uL (uL uI)) (ds.getD 0 .top), uFunc (fpD (capD (ds.getD 1 .top) 0)))
theorem slices_IndexFunc_int_int_formed_1_de (a : (List (List Int)) × TFunc) : slices_IndexFunc_int_int_formed_1_dec (slices_IndexFunc_int_int_formed_1_enc a) = a := by simp [slices_IndexFunc_int_int_formed_1_dec, slices_IndexFunc_int_int_formed_1_enc, fpD, capD, uL_e (u := (uL uI)) (en := (eL eI64)) (uL_e (u := uI) (en := eI64) (fun _ => rfl))]
def slices_IndexFunc_int_int_formed_1_R (b : Int) : D := .int .i64 b
def slices_IndexFunc_int_int_formed_1_E (_b : Int) : List D := []
noncomputable def slices_IndexFunc_int_int_formed_1_S : Dw.Spec := fSpec [] .ground slices_IndexFunc_int_int_formed_1_enc slices_IndexFunc_int_int_formed_1_dec (fun a => slices_IndexFunc_int_int_formed_1 a.1 a.2) slices_IndexFunc_int_int_formed_1_R slices_IndexFunc_int_int_formed_1_E
set_option maxHeartbeats 4000000 in
theorem slices_IndexFunc_int_int_formed_1_ok : SpecOk Tryd.prog 116 slices_IndexFunc_int_int_formed_1_S := by
 refine fn_ok (specs_ok (l := [(90, livecheck_formed_1_fp_S)]) (by simp [livecheck_formed_1_fp_ok])) Tryd.func116 (by decide) dc116_c dc116_r (np := 2) (by decide) slices_IndexFunc_int_int_formed_1_de (fun _ => rfl) (fun _ => rfl) (by decide) <| ?_
 rintro ⟨s1, f2⟩
 show TrE (specs [(90, livecheck_formed_1_fp_S)]) dc116 (kRet [] .ground [(.t 4)] slices_IndexFunc_int_int_formed_1_R slices_IndexFunc_int_int_formed_1_E) ⟨[(0, .sl (s1.map (eL eI64))), (1, .clo 90 [.fptr (.agg [.int .i64 f2.Params, .sl (f2.Slots.map eSlot), .sl (f2.Code.map eInstr)]) 0])], [], 262144⟩ (slices_IndexFunc_int_int_formed_1 s1 f2)
 refine tr_ent <| ?_
 unfold dc116 slices_IndexFunc_int_int_formed_1
 refine sQ <| rG <| aS rfl rfl <| nI <| xS <| sQ <| sQ <| rG <| mV rfl rfl <| lS rfl rfl <| mV rfl rfl <| nI <| xS <| bK <| lP (E := fun (s : Int) (g : Unit) => [(0, .sl (s1.map (eL eI64))), (1, .clo 90 [.fptr (.agg [.int .i64 f2.Params, .sl (f2.Slots.map eSlot), .sl (f2.Code.map eInstr)]) 0]), (7, .int .i64 (s1.length : Int)), (8, .int .i64 s)]) (O := fun s g => []) (body := fun s => slices_IndexFunc_int_int_formed_1_b1 s1 f2 s) (s := 0) () ((hE ⟨rfl, rfl, rfl, rfl, trivial⟩ trivial)) <| ?_
 rintro x3 ⟨⟩ nn
 try dsimp only
 unfold slices_IndexFunc_int_int_formed_1_b1
 refine sQ <| rG <| bN (v := .bool (decide (x3 < (s1.length : Int)))) rfl rfl rfl rfl rfl <| nI <| xS <| sQ <| cD (c := (decide (x3 < (s1.length : Int)))) rfl ?_ ?_
 ·refine sK <| xS <| sQ <| bK <| sQ <| rG <| mV rfl rfl <| aS rfl rfl <| nI <| xS <| sQ <| rG <| mV rfl rfl <| mV rfl rfl <| mV rfl rfl <| bD fun x_x4 hx_x4 => iS (en := (eL eI64)) rfl rfl rfl hx_x4 rfl <| lF (v := .sl (x_x4.map eI64)) rfl rfl rfl rfl <| bD fun r5 hr5 => cG (x_x4, f2) rfl rfl rfl livecheck_formed_1_fp_de rfl rfl (by simp) rfl hr5 rfl <| nI <| xS <| cD (c := r5) rfl ?_ ?_
  ·refine sQ <| rG <| mV rfl rfl <| aS rfl rfl <| nI <| xS <| rT <| bR <| xR <| lR <| bR <| xR <| ret_ground (b := x3) rfl ?_ rfl rfl ?_ rfl
   all_goals first|(simp;done)|(simp;omega)|rfl|(simp [isFro,isFro0];done)
  ·exact sK <| bM <| xS <| rG <| bN (v := .int .i64 (IntKind.i64.wrap (x3 + 1))) rfl rfl rfl rfl rfl <| mV rfl rfl <| nI <| xL (s := IntKind.i64.wrap (x3 + 1)) () ((hE ⟨rfl, rfl, rfl, rfl, trivial⟩ trivial))
 ·refine eT <| xE <| lE <| bH <| xS <| sQ <| rG <| aS rfl rfl <| nI <| xS <| rT <| ret_ground (b := (-1)) rfl ?_ rfl rfl ?_ rfl
  all_goals first|(simp;done)|(simp;omega)|rfl|(simp [isFro,isFro0];done)

def dc92 : DCode := (.seq (.reg [P 4 (.asg (.c (.bool false)) none)] false) (.seq (.reg [M 5 0, M 6 1, P 7 (.call (.c (.clo 116 [])) [(T 5), (T 6)]), P 8 (.bin .geq (T 7) (C 0)), P 4 (.asg (T 8) none)] false) .ret))
theorem dc92_c : (Tryd.f92.body.bind (cCode Tryd.prog Tryd.f92.ntmps)) = some dc92 := by kernel_rfl
theorem dc92_r : Tryd.f92.results.toList.mapM (cRes Tryd.prog) = some [(.t 4)] := by kernel_rfl
def slices_ContainsFunc_int_int_formed_1_enc (a : (List (List Int)) × TFunc) : List D := [.sl (a.1.map (eL eI64)), .clo 90 [.fptr (eFunc a.2) 0]]
def slices_ContainsFunc_int_int_formed_1_dec (ds : List D) : (List (List Int)) × TFunc := ((uL (uL uI)) (ds.getD 0 .top), uFunc (fpD (capD (ds.getD 1 .top) 0)))
theorem slices_ContainsFunc_int_int_formed_1_de (a : (List (List Int)) × TFunc) : slices_ContainsFunc_int_int_formed_1_dec (slices_ContainsFunc_int_int_formed_1_enc a) = a := by simp [slices_ContainsFunc_int_int_formed_1_dec, slices_ContainsFunc_int_int_formed_1_enc, fpD, capD, uL_e (u := (uL uI)) (en := (eL eI64)) (uL_e (u := uI) (en := eI64) (fun _ => rfl))]
def slices_ContainsFunc_int_int_formed_1_R (b : Bool) : D := .bool b
def slices_ContainsFunc_int_int_formed_1_E (_b : Bool) : List D := []
noncomputable def slices_ContainsFunc_int_int_formed_1_S : Dw.Spec := fSpec [] .ground slices_ContainsFunc_int_int_formed_1_enc slices_ContainsFunc_int_int_formed_1_dec (fun a => slices_ContainsFunc_int_int_formed_1 a.1 a.2) slices_ContainsFunc_int_int_formed_1_R slices_ContainsFunc_int_int_formed_1_E
set_option maxHeartbeats 4000000 in
theorem slices_ContainsFunc_int_int_formed_1_ok : SpecOk Tryd.prog 92 slices_ContainsFunc_int_int_formed_1_S := by
 refine fn_ok (specs_ok (l := [(372852, slices_IndexFunc_int_int_formed_1_S)]) (by simp [slices_IndexFunc_int_int_formed_1_ok])) Tryd.func92 (by decide) dc92_c dc92_r (np := 2) (by decide) slices_ContainsFunc_int_int_formed_1_de (fun _ => rfl) (fun _ => rfl) (by decide) <| ?_
 rintro ⟨s1, f2⟩
 show TrE (specs [(372852, slices_IndexFunc_int_int_formed_1_S)]) dc92 (kRet [] .ground [(.t 4)] slices_ContainsFunc_int_int_formed_1_R slices_ContainsFunc_int_int_formed_1_E) ⟨[(0, .sl (s1.map (eL eI64))), (1, .clo 90 [.fptr (.agg [.int .i64 f2.Params, .sl (f2.Slots.map eSlot), .sl (f2.Code.map eInstr)]) 0])], [], 262144⟩ (slices_ContainsFunc_int_int_formed_1 s1 f2)
 refine tr_ent <| ?_
 unfold dc92 slices_ContainsFunc_int_int_formed_1
 refine sQ <| rG <| aS rfl rfl <| nI <| xS <| sQ <| rG <| mV rfl rfl <| mV rfl rfl <| bD fun r3 hr3 => cG (s1, f2) rfl rfl (show _ = some slices_IndexFunc_int_int_formed_1_S from by kernel_rfl) slices_IndexFunc_int_int_formed_1_de rfl rfl (by simp) rfl hr3 rfl <| bN (v := .bool (decide (r3 ≥ 0))) rfl rfl rfl rfl rfl <| aS rfl rfl <| nI <| xS <| rT <| ret_ground (b := (decide (r3 ≥ 0))) rfl ?_ rfl rfl ?_ rfl
 all_goals first|(simp;done)|(simp;omega)|rfl|(simp [isFro,isFro0];done)

def dc63 : DCode := (.seq (.reg [P 2 (.box (T 0) 3 27), P 3 (.box (T 1) 1 30), P 4 (.asg (.c (.bool false)) none)] false) (.seq (.reg [P 6 (.mkf 90 [(T 2)]), P 5 (.asg (T 6) none)] false) (.seq (.reg [P 7 (.fldA 0 (T 3)), P 8 (.ld 1 false (T 7)), P 9 (.len false (T 8)), P 10 (.fldA 2 (T 2)), P 11 (.ld 1 false (T 10)), P 12 (.len false (T 11)), P 13 (.bin .eql (T 9) (T 12)), M 14 13, ⟨(some 15), (.fldA 0 (T 3)), (some ⟨14, true⟩), []⟩, ⟨(some 16), (.ld 1 false (T 15)), (some ⟨14, true⟩), []⟩, ⟨(some 17), (.mv (T 5)), (some ⟨14, true⟩), []⟩, ⟨(some 18), (.call (.c (.clo 92 [])) [(T 16), (T 17)]), (some ⟨14, true⟩), []⟩, ⟨(some 19), (.un .not (T 18)), (some ⟨14, true⟩), []⟩, P 20 (.pick (T 14) (T 19) (.c (.bool false))), P 4 (.asg (T 20) none)] false) .ret)))
theorem dc63_c : (Tryd.f63.body.bind (cCode Tryd.prog Tryd.f63.ntmps)) = some dc63 := by kernel_rfl
theorem dc63_r : Tryd.f63.results.toList.mapM (cRes Tryd.prog) = some [(.t 4)] := by kernel_rfl
def livecheck_formed_enc (a : TFunc × TLive) : List D := [eFunc a.1, eLive a.2]
def livecheck_formed_dec (ds : List D) : TFunc × TLive := (uFunc (ds.getD 0 .top), uLive (ds.getD 1 .top))
theorem livecheck_formed_de (a : TFunc × TLive) : livecheck_formed_dec (livecheck_formed_enc a) = a := by simp [livecheck_formed_dec, livecheck_formed_enc]
def livecheck_formed_R (b : Bool) : D := .bool b
def livecheck_formed_E (_b : Bool) : List D := []
noncomputable def livecheck_formed_S : Dw.Spec := fSpec [] .ground livecheck_formed_enc livecheck_formed_dec (fun a => livecheck_formed a.1 a.2) livecheck_formed_R livecheck_formed_E
set_option maxHeartbeats 4000000 in
theorem livecheck_formed_ok : SpecOk Tryd.prog 63 livecheck_formed_S := by
 refine fn_ok (specs_ok (l := [(372828, slices_ContainsFunc_int_int_formed_1_S)]) (by simp [slices_ContainsFunc_int_int_formed_1_ok])) Tryd.func63 (by decide) dc63_c dc63_r (np := 2) (by decide) livecheck_formed_de (fun _ => rfl) (fun _ => rfl) (by decide) <| ?_
 rintro ⟨f1, l2⟩
 show TrE (specs [(372828, slices_ContainsFunc_int_int_formed_1_S)]) dc63 (kRet [] .ground [(.t 4)] livecheck_formed_R livecheck_formed_E) ⟨[(0, .agg [.int .i64 f1.Params, .sl (f1.Slots.map eSlot), .sl (f1.Code.map eInstr)]), (1, .agg [.sl (l2.Out.map (eL eI64))])], [], 262144⟩ (livecheck_formed f1 l2)
 refine tr_ent <| ?_
 unfold dc63 livecheck_formed
 refine sQ <| rG <| bX rfl rfl rfl rfl rfl <| bX rfl rfl rfl rfl rfl <| aS rfl rfl <| nI <| trX_seq_has (E := [(2, .fptr (.agg [.int .i64 f1.Params, .sl (f1.Slots.map eSlot), .sl (f1.Code.map eInstr)]) 0), (3, .optr 3 _ 0 0)]) (O := [(3, some (_, ⟨false, true, 1, 30, [.agg [.sl (l2.Out.map (eL eI64))]]⟩))]) ((has_fvar (g := 2) rfl (by first | rfl | (simp [cells, frp, frps, isFro]; done)) (hE ⟨(by first | rfl | (simp [lookB, lkO, frp, frps, frO]; done) | (simp [lookB, lkO, frp, frps, frO]; rfl)), (by first | rfl | (simp [lookB, lkO, frp, frps, frO]; done) | (simp [lookB, lkO, frp, frps, frO]; rfl)), trivial⟩ ⟨(by first | rfl | (simp [lookB, lkO, frp, frps, frO]; done) | (simp [lookB, lkO, frp, frps, frO]; rfl)), trivial⟩))) fun nn => sQ <| rG <| mF (caps := [.fptr (.agg [.int .i64 f1.Params, .sl (f1.Slots.map eSlot), .sl (f1.Code.map eInstr)]) 0]) rfl rfl (by simp [refOnly]) <| aS rfl rfl <| nI <| xS <| sQ <| rG <| fA rfl rfl <| lO (v := .sl (l2.Out.map (eL eI64))) (z := .agg [.sl (l2.Out.map (eL eI64))]) rfl rfl rfl rfl rfl rfl <| lS rfl rfl <| fF rfl rfl <| lF (v := .sl (f1.Code.map eInstr)) rfl rfl rfl rfl <| lS rfl rfl <| bN (v := .bool ((l2.Out.length : Int) == (f1.Code.length : Int))) rfl rfl rfl rfl rfl <| mV rfl rfl <| sP 14 (b := ((l2.Out.length : Int) == (f1.Code.length : Int))) rfl ?_ ?_
 ·refine fA rfl rfl <| lO (v := .sl (l2.Out.map (eL eI64))) (z := .agg [.sl (l2.Out.map (eL eI64))]) rfl rfl rfl rfl rfl rfl <| mV rfl rfl <| bD fun r3 hr3 => cG (l2.Out, f1) rfl rfl (show _ = some slices_ContainsFunc_int_int_formed_1_S from by kernel_rfl) slices_ContainsFunc_int_int_formed_1_de rfl rfl (by simp) rfl hr3 rfl <| uN (w := .bool (!r3)) rfl rfl rfl rfl trivial <| pT rfl rfl rfl rfl <| aS rfl rfl <| nI <| xS <| rT <| ret_ground (b := (!r3)) rfl ?_ rfl rfl ?_ rfl
  all_goals first|(simp;done)|(simp;omega)|rfl|(simp [isFro,isFro0];done)
 ·refine oF rfl <| oF rfl <| oF rfl <| oF rfl <| oF rfl <| pF rfl rfl rfl rfl <| aS rfl rfl <| nI <| xS <| rT <| ret_ground (b := false) rfl ?_ rfl rfl ?_ rfl
  all_goals first|(simp;done)|(simp;omega)|rfl|(simp [isFro,isFro0];done)

def dc67 : DCode := (.seq (.reg [P 1 (.box (T 0) 1 30), P 2 (.asg (.c .nilf) none)] false) (.seq (.reg [P 3 (.mkf 94 [(T 1)]), P 2 (.asg (T 3) none)] false) .ret))
theorem dc67_c : (Tryd.f67.body.bind (cCode Tryd.prog Tryd.f67.ntmps)) = some dc67 := by kernel_rfl
theorem dc67_r : Tryd.f67.results.toList.mapM (cRes Tryd.prog) = some [(.t 2)] := by kernel_rfl
def livecheck_sets_enc (a : TLive) : List D := [eLive a]
def livecheck_sets_dec (ds : List D) : TLive := uLive (ds.getD 0 .top)
theorem livecheck_sets_de (a : TLive) : livecheck_sets_dec (livecheck_sets_enc a) = a := by simp [livecheck_sets_dec, livecheck_sets_enc]
def livecheck_sets_R (b : TLive) : D := .clo 94 [.fptr (eLive b) 0]
def livecheck_sets_E (_b : TLive) : List D := []
noncomputable def livecheck_sets_S : Dw.Spec := fSpec [] .val livecheck_sets_enc livecheck_sets_dec (fun a => livecheck_sets a) livecheck_sets_R livecheck_sets_E
set_option maxHeartbeats 4000000 in
theorem livecheck_sets_ok : SpecOk Tryd.prog 67 livecheck_sets_S := by
 refine fn_ok (specs_nil) Tryd.func67 (by decide) dc67_c dc67_r (np := 1) (by decide) livecheck_sets_de (fun _ => rfl) (fun _ => rfl) (by decide) <| ?_
 intro l1
 show TrE (specs []) dc67 (kRet [] .val [(.t 2)] livecheck_sets_R livecheck_sets_E) ⟨[(0, .agg [.sl (l1.Out.map (eL eI64))])], [], 262144⟩ (livecheck_sets l1)
 refine tr_ent <| ?_
 unfold dc67 livecheck_sets
 refine sQ <| rG <| bX rfl rfl rfl rfl rfl <| aS rfl rfl <| nI <| trX_seq_has (E := [(1, .fptr (.agg [.sl (l1.Out.map (eL eI64))]) 0)]) (O := []) ((has_fvar (g := 1) rfl (by first | rfl | (simp [cells, frp, frps, isFro]; done)) (hE ⟨(by first | rfl | (simp [lookB, lkO, frp, frps, frO]; done) | (simp [lookB, lkO, frp, frps, frO]; rfl)), trivial⟩ trivial))) fun nn => sQ <| rG <| mF (caps := [.fptr (.agg [.sl (l1.Out.map (eL eI64))]) 0]) rfl rfl (by simp [refOnly]) <| aS rfl rfl <| nI <| xS <| rT <| ret_val (b := l1) rfl ?_ rfl rfl ?_ rfl
 all_goals first|(simp;done)|(simp;omega)|rfl|(simp [isFro,isFro0];done)

def dc112 : DCode := (.seq (.reg [P 2 (.asg (.c (.bool false)) none)] false) (.seq (.reg [M 3 0, P 4 (.bin .eql (T 3) (C 20)), M 5 4, ⟨(some 6), (.mv (T 0)), (some ⟨5, false⟩), []⟩, ⟨(some 7), (.bin .eql (T 6) (C 23)), (some ⟨5, false⟩), []⟩, P 8 (.pick (T 5) (.c (.bool true)) (T 7)), M 9 8, ⟨(some 10), (.mv (T 0)), (some ⟨9, false⟩), []⟩, ⟨(some 11), (.bin .eql (T 10) (C 24)), (some ⟨9, false⟩), []⟩, P 12 (.pick (T 9) (.c (.bool true)) (T 11)), P 2 (.asg (T 12) none)] false) .ret))
theorem dc112_c : (Tryd.f112.body.bind (cCode Tryd.prog Tryd.f112.ntmps)) = some dc112 := by kernel_rfl
theorem dc112_r : Tryd.f112.results.toList.mapM (cRes Tryd.prog) = some [(.t 2)] := by kernel_rfl
def sir_Terminator_enc (a : Int) : List D := [.int .i64 a]
def sir_Terminator_dec (ds : List D) : Int := uI (ds.getD 0 .top)
theorem sir_Terminator_de (a : Int) : sir_Terminator_dec (sir_Terminator_enc a) = a := by simp [sir_Terminator_dec, sir_Terminator_enc, uI]
def sir_Terminator_R (b : Bool) : D := .bool b
def sir_Terminator_E (_b : Bool) : List D := []
noncomputable def sir_Terminator_S : Dw.Spec := fSpec [] .ground sir_Terminator_enc sir_Terminator_dec (fun a => sir_Terminator a) sir_Terminator_R sir_Terminator_E
set_option maxHeartbeats 4000000 in
theorem sir_Terminator_ok : SpecOk Tryd.prog 112 sir_Terminator_S := by
 refine fn_ok (specs_nil) Tryd.func112 (by decide) dc112_c dc112_r (np := 1) (by decide) sir_Terminator_de (fun _ => rfl) (fun _ => rfl) (by decide) <| ?_
 intro op1
 show TrE (specs []) dc112 (kRet [] .ground [(.t 2)] sir_Terminator_R sir_Terminator_E) ⟨[(0, .int .i64 op1)], [], 262144⟩ (sir_Terminator op1)
 refine tr_ent <| ?_
 unfold dc112 sir_Terminator
 refine sQ <| rG <| aS rfl rfl <| nI <| xS <| sQ <| rG <| mV rfl rfl <| bN (v := .bool (op1 == 20)) rfl rfl rfl rfl rfl <| mV rfl rfl <| sP 5 (b := (op1 == 20)) rfl ?_ ?_
 ·refine oF rfl <| oF rfl <| pT rfl rfl rfl rfl <| mV rfl rfl <| oF rfl <| oF rfl <| pT rfl rfl rfl rfl <| aS rfl rfl <| nI <| xS <| rT <| ret_ground (b := true) rfl ?_ rfl rfl ?_ rfl
  all_goals first|(simp;done)|(simp;omega)|rfl|(simp [isFro,isFro0];done)
 ·refine mV rfl rfl <| bN (v := .bool (op1 == 23)) rfl rfl rfl rfl rfl <| pF rfl rfl rfl rfl <| mV rfl rfl <| sP 9 (b := (op1 == 23)) rfl ?_ ?_
  ·refine oF rfl <| oF rfl <| pT rfl rfl rfl rfl <| aS rfl rfl <| nI <| xS <| rT <| ret_ground (b := true) rfl ?_ rfl rfl ?_ rfl
   all_goals first|(simp;done)|(simp;omega)|rfl|(simp [isFro,isFro0];done)
  ·refine mV rfl rfl <| bN (v := .bool (op1 == 24)) rfl rfl rfl rfl rfl <| pF rfl rfl rfl rfl <| aS rfl rfl <| nI <| xS <| rT <| ret_ground (b := (op1 == 24)) rfl ?_ rfl rfl ?_ rfl
   all_goals first|(simp;done)|(simp;omega)|rfl|(simp [isFro,isFro0];done)

def dc88 : DCode := (.seq (.reg [P 2 (.box (T 0) 3 27), ⟨(some 4), (.asg (.c .nils) (some ⟨1, 3⟩)), none, []⟩] false) (.seq (.seq (.reg [M 7 1, P 8 (.bin .lss (T 7) (C 0)), M 9 8, ⟨(some 10), (.mv (T 1)), (some ⟨9, false⟩), []⟩, ⟨(some 11), (.fldA 2 (T 2)), (some ⟨9, false⟩), []⟩, ⟨(some 12), (.ld 1 false (T 11)), (some ⟨9, false⟩), []⟩, ⟨(some 13), (.len false (T 12)), (some ⟨9, false⟩), []⟩, ⟨(some 14), (.bin .geq (T 10) (T 13)), (some ⟨9, false⟩), []⟩, P 15 (.pick (T 9) (.c (.bool true)) (T 14))] false) (.cond (T 15) (.seq (.reg [⟨(some 4), (.asg (.c .nils) (some ⟨1, 3⟩)), none, []⟩] false) .ret) .skip)) (.seq (.reg [⟨(some 5), (.asg (.c .nils) (some ⟨1, 3⟩)), none, []⟩] false) (.seq (.reg [P 16 (.fldA 2 (T 2)), P 17 (.ld 1 false (T 16)), M 18 1, P 19 (.ixA 5 (T 17) (T 18)), P 20 (.ld 5 true (T 19)), P 6 (.new (.agg [(.int .i64 0), (.int .i64 0), (.int .i64 0), (.int .i64 0), (.int .u64 0)]) 5 66), ⟨none, (.st 5 (T 6) (T 20)), none, []⟩] false) (.seq (.seq (.reg [P 21 (.fldA 0 (T 6)), P 22 (.ld 1 false (T 21)), P 23 (.call (.c (.clo 112 [])) [(T 22)]), P 24 (.un .not (T 23))] false) (.cond (T 24) (.reg [M 25 5, M 26 1, P 27 (.bin .add (T 26) (C 1)), ⟨(some 28), (.bldS 1 3 (.int .i64 0) 1 [⟨0, (T 27)⟩]), none, []⟩, P 29 (.app 1 3 8 (T 25) (T 28)), ⟨(some 5), (.asg (T 29) (some ⟨1, 3⟩)), none, []⟩] false) .skip)) (.seq (.seq (.reg [P 30 (.fldA 0 (T 6)), P 31 (.ld 1 false (T 30))] false) (.block 0 (.seq (.reg [P 33 (.bin .eql (T 31) (C 20)), P 32 (.asg (T 33) none)] false) (.cond (T 32) (.reg [M 34 5, P 35 (.fldA 1 (T 6)), P 36 (.ld 1 false (T 35)), ⟨(some 37), (.bldS 1 3 (.int .i64 0) 1 [⟨0, (T 36)⟩]), none, []⟩, P 38 (.app 1 3 8 (T 34) (T 37)), ⟨(some 5), (.asg (T 38) (some ⟨1, 3⟩)), none, []⟩] false) (.seq (.reg [P 40 (.bin .eql (T 31) (C 21)), P 39 (.asg (T 40) none)] false) (.cond (T 39) (.reg [M 41 5, P 42 (.fldA 2 (T 6)), P 43 (.ld 1 false (T 42)), ⟨(some 44), (.bldS 1 3 (.int .i64 0) 1 [⟨0, (T 43)⟩]), none, []⟩, P 45 (.app 1 3 8 (T 41) (T 44)), ⟨(some 5), (.asg (T 45) (some ⟨1, 3⟩)), none, []⟩] false) .skip)))))) (.seq (.reg [M 46 5, P 47 (.call (.c (.clo 113 [])) [(T 46)])] false) (.seq (.reg [M 48 5, P 49 (.call (.c (.clo 114 [])) [(T 48)]), ⟨(some 4), (.asg (T 49) (some ⟨1, 3⟩)), none, []⟩] false) .ret))))))))
theorem dc88_c : (Tryd.f88.body.bind (cCode Tryd.prog Tryd.f88.ntmps)) = some dc88 := by kernel_rfl
theorem dc88_r : Tryd.f88.results.toList.mapM (cRes Tryd.prog) = some [(.t 4)] := by kernel_rfl
def flow_Next_enc (a : TFunc × Int) : List D := [eFunc a.1, .int .i64 a.2]
def flow_Next_dec (ds : List D) : TFunc × Int := (uFunc (ds.getD 0 .top), uI (ds.getD 1 .top))
theorem flow_Next_de (a : TFunc × Int) : flow_Next_dec (flow_Next_enc a) = a := by simp [flow_Next_dec, flow_Next_enc, uI]
def flow_Next_R (b : (List Int)) : D := .sl (b.map eI64)
def flow_Next_E (_b : (List Int)) : List D := []
noncomputable def flow_Next_S : Dw.Spec := fSpec [] (.row 1 3) flow_Next_enc flow_Next_dec (fun a => flow_Next a.1 a.2) flow_Next_R flow_Next_E
set_option maxHeartbeats 4000000 in
theorem flow_Next_ok : SpecOk Tryd.prog 88 flow_Next_S := by
 refine fn_ok (specs_ok (l := [(112, sir_Terminator_S), (113, slices_Sort_int_int_S), (114, slices_Compact_int_int_S)]) (by simp [sir_Terminator_ok, slices_Sort_int_int_ok, slices_Compact_int_int_ok])) Tryd.func88 (by decide) dc88_c dc88_r (np := 2) (by decide) flow_Next_de (fun _ => rfl) (fun _ => rfl) (by decide) <| ?_
 rintro ⟨f1, k2⟩
 show TrE (specs [(112, sir_Terminator_S), (113, slices_Sort_int_int_S), (114, slices_Compact_int_int_S)]) dc88 (kRet [] (.row 1 3) [(.t 4)] flow_Next_R flow_Next_E) ⟨[(0, .agg [.int .i64 f1.Params, .sl (f1.Slots.map eSlot), .sl (f1.Code.map eInstr)]), (1, .int .i64 k2)], [], 262144⟩ (flow_Next f1 k2)
 refine tr_ent <| ?_
 unfold dc88 flow_Next
 refine sQ <| rG <| bX rfl rfl rfl rfl rfl <| aN (α := Int) rfl eI64 rfl <| nI <| xS <| sC (E := fun (s : Unit) (g : Nat) => [(1, .int .i64 k2), (2, .optr 2 g 0 0)]) (O := fun s g => [(2, some (g, ⟨false, true, 3, 27, [.agg [.int .i64 f1.Params, .sl (f1.Slots.map eSlot), .sl (f1.Code.map eInstr)]]⟩))]) (j := fun s => flow_Next_j1 f1 k2) ?_ ?_
 ·refine sQ <| rG <| mV rfl rfl <| bN (v := .bool (decide (k2 < 0))) rfl rfl rfl rfl rfl <| mV rfl rfl <| sP 9 (b := (decide (k2 < 0))) rfl ?_ ?_
  ·refine oF rfl <| oF rfl <| oF rfl <| oF rfl <| oF rfl <| pT rfl rfl rfl rfl <| nI <| xS <| tr_cond_true rfl <| sQ <| rG <| aN (α := Int) rfl eI64 rfl <| nI <| xS <| rT <| zR <| ret_row (b := ([] : List Int)) rfl ?_ rfl rfl ?_ rfl ?_ (congrArg D.sl (take_len_map' _ _ rfl)) rfl
   all_goals first|(simp;done)|(simp;omega)|rfl|(simp [isFro,isFro0];done)
  ·refine mV rfl rfl <| fA rfl rfl <| lO (v := .sl (f1.Code.map eInstr)) (z := .agg [.int .i64 f1.Params, .sl (f1.Slots.map eSlot), .sl (f1.Code.map eInstr)]) rfl rfl rfl rfl rfl rfl <| lS rfl rfl <| bN (v := .bool (decide (k2 ≥ (f1.Code.length : Int)))) rfl rfl rfl rfl rfl <| pF rfl rfl rfl rfl <| nI <| xS <| cD (c := (decide (k2 ≥ (f1.Code.length : Int)))) rfl ?_ ?_
   ·refine sQ <| rG <| aN (α := Int) rfl eI64 rfl <| nI <| xS <| rT <| zR <| ret_row (b := ([] : List Int)) rfl ?_ rfl rfl ?_ rfl ?_ (congrArg D.sl (take_len_map' _ _ rfl)) rfl
    all_goals first|(simp;done)|(simp;omega)|rfl|(simp [isFro,isFro0];done)
   ·exact sK <| xC (s := ()) _ ((hE ⟨rfl, rfl, trivial⟩ ⟨rfl, trivial⟩))
 ·rintro ⟨⟩ v2x1 nn
  try dsimp only
  unfold flow_Next_j1
  refine sQ <| rG <| aN (α := Int) rfl eI64 rfl <| nI <| xS <| sQ <| rG <| fA rfl rfl <| lO (v := .sl (f1.Code.map eInstr)) (z := .agg [.int .i64 f1.Params, .sl (f1.Slots.map eSlot), .sl (f1.Code.map eInstr)]) rfl rfl rfl rfl rfl rfl <| mV rfl rfl <| bD fun x_x3 hx_x3 => iS (en := eInstr) rfl rfl rfl hx_x3 rfl <| lF (v := .agg [.int .i64 x_x3.Op, .int .i64 x_x3.A, .int .i64 x_x3.B, .int .i64 x_x3.C, .int .u64 x_x3.Imm]) rfl rfl rfl rfl <| nW rfl <| sV (z' := .agg [.int .i64 x_x3.Op, .int .i64 x_x3.A, .int .i64 x_x3.B, .int .i64 x_x3.C, .int .u64 x_x3.Imm]) rfl rfl rfl rfl rfl rfl rfl rfl rfl <| nI <| xS <| sC (E := fun (s : (List Int)) (g : Nat × Nat) => [(5, .osl 5 g.1 0 s.length), (6, .optr 6 g.2 0 0)]) (O := fun s g => [(5, some (g.1, ⟨false, false, 1, 3, s.map eI64⟩)), (6, some (g.2, ⟨false, true, 5, 66, [.agg [.int .i64 x_x3.Op, .int .i64 x_x3.A, .int .i64 x_x3.B, .int .i64 x_x3.C, .int .u64 x_x3.Imm]]⟩))]) (j := fun s => flow_Next_j2 x_x3 s) ?_ ?_
  ·refine sQ <| rG <| fA rfl rfl <| lO (v := .int .i64 x_x3.Op) (z := .agg [.int .i64 x_x3.Op, .int .i64 x_x3.A, .int .i64 x_x3.B, .int .i64 x_x3.C, .int .u64 x_x3.Imm]) rfl rfl rfl rfl rfl rfl <| bD fun r5 hr5 => cG x_x3.Op rfl rfl rfl sir_Terminator_de rfl rfl (by simp) rfl hr5 rfl <| uN (w := .bool (!r5)) rfl rfl rfl rfl trivial <| nI <| xS <| cD (c := (!r5)) rfl ?_ ?_
   ·exact rG <| mV rfl rfl <| mV rfl rfl <| bN (v := .int .i64 (IntKind.i64.wrap (k2 + 1))) rfl rfl rfl rfl rfl <| bS ([IntKind.i64.wrap (k2 + 1)] : List Int) eI64 rfl rfl rfl (by simp) rfl rfl rfl <| cK fun hq => aP (([] : List Int)) (([IntKind.i64.wrap (k2 + 1)] : List Int)) eI64 rfl rfl rfl rfl rfl rfl rfl (by simp) (take_drop0_map' _ _ rfl) rfl rfl (by simp) (take_len_map' _ _ rfl) (fun _ => rfl) rfl hq <| aO (l := ([] : List Int) ++ ([IntKind.i64.wrap (k2 + 1)] : List Int)) (en := eI64) rfl rfl rfl rfl <| nI <| xC (s := ([] : List Int) ++ ([IntKind.i64.wrap (k2 + 1)] : List Int)) (_, _) ((hE ⟨rfl, rfl, trivial⟩ ⟨rfl, rfl, trivial⟩))
   ·exact sK <| xC (s := ([] : List Int)) (_, _) ((hE ⟨rfl, rfl, trivial⟩ ⟨rfl, rfl, trivial⟩))
  ·rintro l4 ⟨v5x2, v6x2⟩ nn
   try dsimp only
   unfold flow_Next_j2
   refine sQ <| sQ <| rG <| fA rfl rfl <| lO (v := .int .i64 x_x3.Op) (z := .agg [.int .i64 x_x3.Op, .int .i64 x_x3.A, .int .i64 x_x3.B, .int .i64 x_x3.C, .int .u64 x_x3.Imm]) rfl rfl rfl rfl rfl rfl <| nI <| xS <| bK <| sQ <| rG <| bN (v := .bool (x_x3.Op == 20)) rfl rfl rfl rfl rfl <| aS rfl rfl <| nI <| xS <| cD (c := (x_x3.Op == 20)) rfl ?_ ?_
   ·refine rG <| mV rfl rfl <| fA rfl rfl <| lO (v := .int .i64 x_x3.A) (z := .agg [.int .i64 x_x3.Op, .int .i64 x_x3.A, .int .i64 x_x3.B, .int .i64 x_x3.C, .int .u64 x_x3.Imm]) rfl rfl rfl rfl rfl rfl <| bS ([x_x3.A] : List Int) eI64 rfl rfl rfl (by simp) rfl rfl rfl <| cK fun hq => aP (l4) (([x_x3.A] : List Int)) eI64 rfl rfl rfl rfl rfl rfl rfl (by simp) (take_drop0_map' _ _ rfl) rfl rfl (by simp) (take_len_map' _ _ rfl) (fun _ => rfl) rfl hq <| aO (l := l4 ++ ([x_x3.A] : List Int)) (en := eI64) rfl rfl rfl rfl <| nI <| bM <| xS <| sQ <| rG <| mV rfl rfl <| cK fun hq => trO_inpl_d (l := l4 ++ ([x_x3.A] : List Int)) (l' := sortI (l4 ++ ([x_x3.A] : List Int))) rfl rfl rfl rfl rfl rfl rfl hq rfl <| nI <| xS <| sQ <| rG <| mV rfl rfl <| cK fun hq => trO_inpl_cut (l := sortI (l4 ++ ([x_x3.A] : List Int))) (l' := Lib.compact (sortI (l4 ++ ([x_x3.A] : List Int)))) rfl rfl rfl rfl rfl (by simp) rfl hq (compactIn_take _) rfl <| aO (l := Lib.compact (sortI (l4 ++ ([x_x3.A] : List Int)))) (en := eI64) rfl rfl rfl rfl <| nI <| xS <| rT <| ret_row (b := Lib.compact (sortI (l4 ++ ([x_x3.A] : List Int)))) rfl ?_ rfl rfl ?_ rfl ?_ (congrArg D.sl (take_len_map' _ _ rfl)) rfl
    all_goals first|(simp;done)|(simp;omega)|rfl|(simp [isFro,isFro0];done)
   ·refine sQ <| rG <| bN (v := .bool (x_x3.Op == 21)) rfl rfl rfl rfl rfl <| aS rfl rfl <| nI <| xS <| cD (c := (x_x3.Op == 21)) rfl ?_ ?_
    ·refine rG <| mV rfl rfl <| fA rfl rfl <| lO (v := .int .i64 x_x3.B) (z := .agg [.int .i64 x_x3.Op, .int .i64 x_x3.A, .int .i64 x_x3.B, .int .i64 x_x3.C, .int .u64 x_x3.Imm]) rfl rfl rfl rfl rfl rfl <| bS ([x_x3.B] : List Int) eI64 rfl rfl rfl (by simp) rfl rfl rfl <| cK fun hq => aP (l4) (([x_x3.B] : List Int)) eI64 rfl rfl rfl rfl rfl rfl rfl (by simp) (take_drop0_map' _ _ rfl) rfl rfl (by simp) (take_len_map' _ _ rfl) (fun _ => rfl) rfl hq <| aO (l := l4 ++ ([x_x3.B] : List Int)) (en := eI64) rfl rfl rfl rfl <| nI <| bM <| xS <| sQ <| rG <| mV rfl rfl <| cK fun hq => trO_inpl_d (l := l4 ++ ([x_x3.B] : List Int)) (l' := sortI (l4 ++ ([x_x3.B] : List Int))) rfl rfl rfl rfl rfl rfl rfl hq rfl <| nI <| xS <| sQ <| rG <| mV rfl rfl <| cK fun hq => trO_inpl_cut (l := sortI (l4 ++ ([x_x3.B] : List Int))) (l' := Lib.compact (sortI (l4 ++ ([x_x3.B] : List Int)))) rfl rfl rfl rfl rfl (by simp) rfl hq (compactIn_take _) rfl <| aO (l := Lib.compact (sortI (l4 ++ ([x_x3.B] : List Int)))) (en := eI64) rfl rfl rfl rfl <| nI <| xS <| rT <| ret_row (b := Lib.compact (sortI (l4 ++ ([x_x3.B] : List Int)))) rfl ?_ rfl rfl ?_ rfl ?_ (congrArg D.sl (take_len_map' _ _ rfl)) rfl
     all_goals first|(simp;done)|(simp;omega)|rfl|(simp [isFro,isFro0];done)
    ·refine sK <| bM <| xS <| sQ <| rG <| mV rfl rfl <| cK fun hq => trO_inpl_d (l := l4) (l' := sortI l4) rfl rfl rfl rfl rfl rfl rfl hq rfl <| nI <| xS <| sQ <| rG <| mV rfl rfl <| cK fun hq => trO_inpl_cut (l := sortI l4) (l' := Lib.compact (sortI l4)) rfl rfl rfl rfl rfl (by simp) rfl hq (compactIn_take _) rfl <| aO (l := Lib.compact (sortI l4)) (en := eI64) rfl rfl rfl rfl <| nI <| xS <| rT <| ret_row (b := Lib.compact (sortI l4)) rfl ?_ rfl rfl ?_ rfl ?_ (congrArg D.sl (take_len_map' _ _ rfl)) rfl
     all_goals first|(simp;done)|(simp;omega)|rfl|(simp [isFro,isFro0];done)

def dc94 : DCode := (.seq (.reg [⟨(some 3), (.asg (.c .nils) (some ⟨1, 3⟩)), none, []⟩] false) (.seq (.reg [P 4 (.fldA 0 (T 1)), P 5 (.ld 1 false (T 4)), M 6 0, P 7 (.ixA 1 (T 5) (T 6)), P 8 (.ld 1 false (T 7)), ⟨(some 3), (.asg (T 8) (some ⟨1, 3⟩)), none, []⟩] false) .ret))
theorem dc94_c : (Tryd.f94.body.bind (cCode Tryd.prog Tryd.f94.ntmps)) = some dc94 := by kernel_rfl
theorem dc94_r : Tryd.f94.results.toList.mapM (cRes Tryd.prog) = some [(.t 3)] := by kernel_rfl
def livecheck_sets_1_fp_enc (a : Int × TLive) : List D := [.int .i64 a.1, .fptr (eLive a.2) 0]
def livecheck_sets_1_fp_dec (ds : List D) : Int × TLive := (uI (ds.getD 0 .top), uLive (fpD (ds.getD 1 .top)))
theorem livecheck_sets_1_fp_de (a : Int × TLive) : livecheck_sets_1_fp_dec (livecheck_sets_1_fp_enc a) = a := by simp [livecheck_sets_1_fp_dec, livecheck_sets_1_fp_enc, uI, fpD]
def livecheck_sets_1_fp_R (b : (List Int)) : D := .sl (b.map eI64)
def livecheck_sets_1_fp_E (_b : (List Int)) : List D := []
noncomputable def livecheck_sets_1_fp_S : Dw.Spec := fSpec [] .val livecheck_sets_1_fp_enc livecheck_sets_1_fp_dec (fun a => livecheck_sets_1_fp a.1 a.2) livecheck_sets_1_fp_R livecheck_sets_1_fp_E
set_option maxHeartbeats 4000000 in
theorem livecheck_sets_1_fp_ok : SpecOk Tryd.prog 94 livecheck_sets_1_fp_S := by
 refine fn_ok (specs_nil) Tryd.func94 (by decide) dc94_c dc94_r (np := 2) (by decide) livecheck_sets_1_fp_de (fun _ => rfl) (fun _ => rfl) (by decide) <| ?_
 rintro ⟨j1, cap2⟩
 show TrE (specs []) dc94 (kRet [] .val [(.t 3)] livecheck_sets_1_fp_R livecheck_sets_1_fp_E) ⟨[(0, .int .i64 j1), (1, .fptr (.agg [.sl (cap2.Out.map (eL eI64))]) 0)], [], 262144⟩ (livecheck_sets_1_fp j1 cap2)
 refine tr_ent <| ?_
 unfold dc94 livecheck_sets_1_fp
 refine sQ <| rG <| aN (α := Int) rfl eI64 rfl <| nI <| xS <| sQ <| rG <| fF rfl rfl <| lF (v := .sl (cap2.Out.map (eL eI64))) rfl rfl rfl rfl <| mV rfl rfl <| bD fun x_x3 hx_x3 => iS (en := (eL eI64)) rfl rfl rfl hx_x3 rfl <| lF (v := .sl (x_x3.map eI64)) rfl rfl rfl rfl <| aL rfl rfl <| nI <| xS <| rT <| ret_val (b := x_x3) rfl ?_ rfl rfl ?_ rfl
 all_goals first|(simp;done)|(simp;omega)|rfl|(simp [isFro,isFro0];done)

def dc100 : DCode := (.seq (.reg [P 1 (.box (T 0) 5 66), P 2 (.asg (C 0) none), P 3 (.asg (.c (.bool false)) none)] false) (.seq (.seq (.reg [P 4 (.fldA 0 (T 1)), P 5 (.ld 1 false (T 4))] false) (.block 0 (.seq (.seq (.reg [P 7 (.bin .eql (T 5) (C 16)), P 6 (.asg (T 7) none)] false) (.cond (T 6) .skip (.reg [P 8 (.bin .eql (T 5) (C 17)), P 6 (.asg (T 8) none)] false))) (.cond (T 6) (.seq (.reg [P 9 (.fldA 1 (T 1)), P 10 (.ld 1 false (T 9)), P 2 (.asg (T 10) none), P 3 (.asg (.c (.bool true)) none)] false) .ret) .skip)))) (.seq (.reg [P 2 (.asg (C 0) none), P 3 (.asg (.c (.bool false)) none)] false) .ret)))
theorem dc100_c : (Tryd.f100.body.bind (cCode Tryd.prog Tryd.f100.ntmps)) = some dc100 := by kernel_rfl
theorem dc100_r : Tryd.f100.results.toList.mapM (cRes Tryd.prog) = some [(.t 2), (.t 3)] := by kernel_rfl
def effect_Defines_enc (a : TInstr) : List D := [eInstr a]
def effect_Defines_dec (ds : List D) : TInstr := uInstr (ds.getD 0 .top)
theorem effect_Defines_de (a : TInstr) : effect_Defines_dec (effect_Defines_enc a) = a := by simp [effect_Defines_dec, effect_Defines_enc]
def effect_Defines_R (b : Int × Bool) : D := .tup [.int .i64 b.1, .bool b.2]
def effect_Defines_E (_b : Int × Bool) : List D := []
noncomputable def effect_Defines_S : Dw.Spec := fSpec [] .ground effect_Defines_enc effect_Defines_dec (fun a => effect_Defines a) effect_Defines_R effect_Defines_E
set_option maxHeartbeats 4000000 in
theorem effect_Defines_ok : SpecOk Tryd.prog 100 effect_Defines_S := by
 refine fn_ok (specs_nil) Tryd.func100 (by decide) dc100_c dc100_r (np := 1) (by decide) effect_Defines_de (fun _ => rfl) (fun _ => rfl) (by decide) <| ?_
 intro x1
 show TrE (specs []) dc100 (kRet [] .ground [(.t 2), (.t 3)] effect_Defines_R effect_Defines_E) ⟨[(0, .agg [.int .i64 x1.Op, .int .i64 x1.A, .int .i64 x1.B, .int .i64 x1.C, .int .u64 x1.Imm])], [], 262144⟩ (effect_Defines x1)
 refine tr_ent <| ?_
 unfold dc100 effect_Defines
 refine sQ <| rG <| bX rfl rfl rfl rfl rfl <| aS rfl rfl <| aS rfl rfl <| nI <| xS <| sQ <| sQ <| rG <| fA rfl rfl <| lO (v := .int .i64 x1.Op) (z := .agg [.int .i64 x1.Op, .int .i64 x1.A, .int .i64 x1.B, .int .i64 x1.C, .int .u64 x1.Imm]) rfl rfl rfl rfl rfl rfl <| nI <| xS <| bK <| sQ <| sQ <| rG <| bN (v := .bool (x1.Op == 16)) rfl rfl rfl rfl rfl <| aS rfl rfl <| nI <| xS <| cD (c := (x1.Op == 16)) rfl ?_ ?_
 ·refine sK <| xS <| cD (c := (x1.Op == 16)) rfl ?_ ?_
  ·refine sQ <| rG <| fA rfl rfl <| lO (v := .int .i64 x1.A) (z := .agg [.int .i64 x1.Op, .int .i64 x1.A, .int .i64 x1.B, .int .i64 x1.C, .int .u64 x1.Imm]) rfl rfl rfl rfl rfl rfl <| aS rfl rfl <| aS rfl rfl <| nI <| xS <| rT <| bR <| xR <| ret_tup_ground (b := (x1.A, true)) rfl ?_ rfl rfl ?_ rfl (by decide)
   all_goals first|(simp;done)|(simp;omega)|rfl|(simp [isFro,isFro0];done)
  ·refine sK <| bM <| xS <| sQ <| rG <| aS rfl rfl <| aS rfl rfl <| nI <| xS <| rT <| ret_tup_ground (b := (0, false)) rfl ?_ rfl rfl ?_ rfl (by decide)
   all_goals first|(simp;done)|(simp;omega)|rfl|(simp [isFro,isFro0];done)
 ·refine rG <| bN (v := .bool (x1.Op == 17)) rfl rfl rfl rfl rfl <| aS rfl rfl <| nI <| xS <| cD (c := (x1.Op == 17)) rfl ?_ ?_
  ·refine sQ <| rG <| fA rfl rfl <| lO (v := .int .i64 x1.A) (z := .agg [.int .i64 x1.Op, .int .i64 x1.A, .int .i64 x1.B, .int .i64 x1.C, .int .u64 x1.Imm]) rfl rfl rfl rfl rfl rfl <| aS rfl rfl <| aS rfl rfl <| nI <| xS <| rT <| bR <| xR <| ret_tup_ground (b := (x1.A, true)) rfl ?_ rfl rfl ?_ rfl (by decide)
   all_goals first|(simp;done)|(simp;omega)|rfl|(simp [isFro,isFro0];done)
  ·refine sK <| bM <| xS <| sQ <| rG <| aS rfl rfl <| aS rfl rfl <| nI <| xS <| rT <| ret_tup_ground (b := (0, false)) rfl ?_ rfl rfl ?_ rfl (by decide)
   all_goals first|(simp;done)|(simp;omega)|rfl|(simp [isFro,isFro0];done)

def dc103 : DCode := (.seq (.reg [M 7 1, P 8 (.cvt .u64 (T 7)), P 9 (.bin .rem (T 8) (.c (.int .u64 64))), P 10 (.bin .shl (.c (.int .u64 1)) (T 9)), P 6 (.asg (T 10) none)] false) (.block 0 (.seq (.reg [M 22 1, P 23 (.call (.c (.clo 115 [])) [(T 22)]), P 24 (.un .not (T 23)), P 21 (.asg (T 24) none)] false) (.cond (T 21) .skip (.seq (.reg [M 26 2, P 25 (.asg (T 26) none)] false) (.cond (T 25) (.reg [M 27 0, M 28 1, ⟨(some 29), (.bin .quo (T 28) (C 64)), none, [1]⟩, ⟨(some 30), (.nilck (T 27)), none, [0]⟩, ⟨(some 31), (.ixP 1 8 (T 30) (T 29)), none, [3, 2]⟩, ⟨(some 32), (.ld 1 false (T 31)), none, [4]⟩, M 33 6, ⟨(some 34), (.bin .or (T 32) (T 33)), none, [5, 6]⟩, ⟨(some 35), (.nilck (T 27)), none, [0]⟩, ⟨(some 36), (.ixP 1 8 (T 35) (T 29)), none, [8, 2, 0, 1, 2, 3, 4, 5, 6, 7]⟩, ⟨none, (.st 1 (T 36) (T 34)), none, [9, 7, 0, 1, 2, 3, 4, 5, 6, 7]⟩] true) (.reg [M 11 0, M 12 1, ⟨(some 13), (.bin .quo (T 12) (C 64)), none, [1]⟩, ⟨(some 14), (.nilck (T 11)), none, [0]⟩, ⟨(some 15), (.ixP 1 8 (T 14) (T 13)), none, [3, 2]⟩, ⟨(some 16), (.ld 1 false (T 15)), none, [4]⟩, M 17 6, ⟨(some 18), (.bin .andNot (T 16) (T 17)), none, [5, 6]⟩, ⟨(some 19), (.nilck (T 11)), none, [0]⟩, ⟨(some 20), (.ixP 1 8 (T 19) (T 13)), none, [8, 2, 0, 1, 2, 3, 4, 5, 6, 7]⟩, ⟨none, (.st 1 (T 20) (T 18)), none, [9, 7, 0, 1, 2, 3, 4, 5, 6, 7]⟩] true)))))))
theorem dc103_c : (Tryd.f103.body.bind (cCode Tryd.prog Tryd.f103.ntmps)) = some dc103 := by kernel_rfl
theorem dc103_r : Tryd.f103.results.toList.mapM (cRes Tryd.prog) = some [] := by kernel_rfl
def bitset_set_int_put_enc (a : Tbitset_set_int_ × Int × Bool) : List D := [ebitset_set_int_ a.1, .int .i64 a.2.1, .bool a.2.2]
def bitset_set_int_put_dec (ds : List D) : Tbitset_set_int_ × Int × Bool := (ubitset_set_int_ (ds.getD 0 .top), uI (ds.getD 1 .top), uBo (ds.getD 2 .top))
theorem bitset_set_int_put_de (a : Tbitset_set_int_ × Int × Bool) : bitset_set_int_put_dec (bitset_set_int_put_enc a) = a := by simp [bitset_set_int_put_dec, bitset_set_int_put_enc, uI, uBo]
def bitset_set_int_put_R (b : Tbitset_set_int_) : D := .tup []
def bitset_set_int_put_E (b : Tbitset_set_int_) : List D := [ebitset_set_int_ b]
noncomputable def bitset_set_int_put_S : Dw.Spec := fSpec [(0, (8, 122))] .val bitset_set_int_put_enc bitset_set_int_put_dec (fun a => bitset_set_int_put a.1 a.2.1 a.2.2) bitset_set_int_put_R bitset_set_int_put_E
set_option maxHeartbeats 4000000 in
theorem bitset_set_int_put_ok : SpecOk Tryd.prog 103 bitset_set_int_put_S := by
 refine fn_ok (specs_ok (l := [(115, bitset_within_int_S)]) (by simp [bitset_within_int_ok])) Tryd.func103 (by decide) dc103_c dc103_r (np := 3) (by decide) bitset_set_int_put_de (fun _ => rfl) (fun _ => rfl) (by decide) <| ?_
 rintro ⟨s1, n2, in3⟩
 show TrE (specs [(115, bitset_within_int_S)]) dc103 (kRet [(0, (8, 122))] .val [] bitset_set_int_put_R bitset_set_int_put_E) ⟨[(0, .optr 8192 0 0 0), (1, .int .i64 n2), (2, .bool in3)], [(8192, some (0, ⟨false, true, 8, 122, [.agg [.int .u64 s1.a0, .int .u64 s1.a1, .int .u64 s1.a2, .int .u64 s1.a3, .int .u64 s1.a4, .int .u64 s1.a5, .int .u64 s1.a6, .int .u64 s1.a7]]⟩))], 262144⟩ (bitset_set_int_put s1 n2 in3)
 refine tr_ent <| ?_
 unfold dc103 bitset_set_int_put
 refine sQ <| rG <| mV rfl rfl <| cT rfl rfl <| bN (v := .int .u64 ((IntKind.u64.wrap (n2)).tmod 64)) rfl rfl rfl rfl ⟨rfl, (by decide)⟩ <| cK fun hq => bN (v := .int .u64 (IntKind.u64.wrap (1 * 2 ^ (Nat.min ((IntKind.u64.wrap (n2)).tmod 64).toNat IntKind.u64.bits)))) rfl rfl rfl rfl hq <| aS rfl rfl <| nI <| xS <| bK <| sQ <| rG <| mV rfl rfl <| bD fun r4 hr4 => cG n2 rfl rfl rfl bitset_within_int_de rfl rfl (by simp) rfl hr4 rfl <| uN (w := .bool (!r4)) rfl rfl rfl rfl trivial <| aS rfl rfl <| nI <| xS <| cD (c := (!r4)) rfl ?_ ?_
 ·refine sK <| bM <| ret_tup_val (b := s1) rfl ?_ rfl rfl ?_ rfl (by decide)
  all_goals first|(simp;done)|(simp;omega)|rfl|(simp [isFro,isFro0];done)
 ·refine sQ <| rG <| mV rfl rfl <| aS rfl rfl <| nI <| xS <| cD (c := in3) rfl ?_ ?_
  ·refine rG <| mV rfl rfl <| mV rfl rfl <| bN (v := .int .i64 (IntKind.i64.wrap (n2.tdiv 64))) rfl rfl rfl rfl ⟨rfl, (by decide)⟩ <| nC rfl rfl rfl <| cK fun hq => trO_ixP rfl rfl rfl hq <| bD fun s_e5 hs_e5 => trO_ld_arr (q := s_e5) (l := s1.toList) (en := eU64) (j := (IntKind.i64.wrap (n2.tdiv 64)).toNat) (by simp) rfl rfl rfl hs_e5 rfl (fun _ => rfl) <| mV rfl rfl <| bN (v := .int .u64 (IntKind.u64.wrap ((BitVec.ofInt IntKind.u64.bits s_e5 ||| BitVec.ofInt IntKind.u64.bits (IntKind.u64.wrap (1 * 2 ^ (Nat.min ((IntKind.u64.wrap (n2)).tmod 64).toNat IntKind.u64.bits)))).toNat))) rfl rfl rfl rfl rfl <| nC rfl rfl rfl <| cK fun hq => trO_ixP rfl rfl rfl hq <| bD fun s_o6 hs_o6 => trO_st_arr_rich (q := s_o6) (q' := IntKind.u64.wrap ((BitVec.ofInt IntKind.u64.bits s_e5 ||| BitVec.ofInt IntKind.u64.bits (IntKind.u64.wrap (1 * 2 ^ (Nat.min ((IntKind.u64.wrap (n2)).tmod 64).toNat IntKind.u64.bits)))).toNat)) (l := s1.toList) (en := eU64) (j := (IntKind.i64.wrap (n2.tdiv 64)).toNat) (z' := .agg [.int .u64 ((s1.set ((IntKind.i64.wrap (n2.tdiv 64)).toNat) (IntKind.u64.wrap ((BitVec.ofInt IntKind.u64.bits s_e5 ||| BitVec.ofInt IntKind.u64.bits (IntKind.u64.wrap (1 * 2 ^ (Nat.min ((IntKind.u64.wrap (n2)).tmod 64).toNat IntKind.u64.bits)))).toNat))).a0), .int .u64 ((s1.set ((IntKind.i64.wrap (n2.tdiv 64)).toNat) (IntKind.u64.wrap ((BitVec.ofInt IntKind.u64.bits s_e5 ||| BitVec.ofInt IntKind.u64.bits (IntKind.u64.wrap (1 * 2 ^ (Nat.min ((IntKind.u64.wrap (n2)).tmod 64).toNat IntKind.u64.bits)))).toNat))).a1), .int .u64 ((s1.set ((IntKind.i64.wrap (n2.tdiv 64)).toNat) (IntKind.u64.wrap ((BitVec.ofInt IntKind.u64.bits s_e5 ||| BitVec.ofInt IntKind.u64.bits (IntKind.u64.wrap (1 * 2 ^ (Nat.min ((IntKind.u64.wrap (n2)).tmod 64).toNat IntKind.u64.bits)))).toNat))).a2), .int .u64 ((s1.set ((IntKind.i64.wrap (n2.tdiv 64)).toNat) (IntKind.u64.wrap ((BitVec.ofInt IntKind.u64.bits s_e5 ||| BitVec.ofInt IntKind.u64.bits (IntKind.u64.wrap (1 * 2 ^ (Nat.min ((IntKind.u64.wrap (n2)).tmod 64).toNat IntKind.u64.bits)))).toNat))).a3), .int .u64 ((s1.set ((IntKind.i64.wrap (n2.tdiv 64)).toNat) (IntKind.u64.wrap ((BitVec.ofInt IntKind.u64.bits s_e5 ||| BitVec.ofInt IntKind.u64.bits (IntKind.u64.wrap (1 * 2 ^ (Nat.min ((IntKind.u64.wrap (n2)).tmod 64).toNat IntKind.u64.bits)))).toNat))).a4), .int .u64 ((s1.set ((IntKind.i64.wrap (n2.tdiv 64)).toNat) (IntKind.u64.wrap ((BitVec.ofInt IntKind.u64.bits s_e5 ||| BitVec.ofInt IntKind.u64.bits (IntKind.u64.wrap (1 * 2 ^ (Nat.min ((IntKind.u64.wrap (n2)).tmod 64).toNat IntKind.u64.bits)))).toNat))).a5), .int .u64 ((s1.set ((IntKind.i64.wrap (n2.tdiv 64)).toNat) (IntKind.u64.wrap ((BitVec.ofInt IntKind.u64.bits s_e5 ||| BitVec.ofInt IntKind.u64.bits (IntKind.u64.wrap (1 * 2 ^ (Nat.min ((IntKind.u64.wrap (n2)).tmod 64).toNat IntKind.u64.bits)))).toNat))).a6), .int .u64 ((s1.set ((IntKind.i64.wrap (n2.tdiv 64)).toNat) (IntKind.u64.wrap ((BitVec.ofInt IntKind.u64.bits s_e5 ||| BitVec.ofInt IntKind.u64.bits (IntKind.u64.wrap (1 * 2 ^ (Nat.min ((IntKind.u64.wrap (n2)).tmod 64).toNat IntKind.u64.bits)))).toNat))).a7)]) (by simp) rfl rfl rfl rfl rfl hs_o6 rfl rfl (congrArg (fun l => D.agg (l.map eU64)) (Tbitset_set_int__set s1 ((IntKind.i64.wrap (n2.tdiv 64)).toNat) (IntKind.u64.wrap ((BitVec.ofInt IntKind.u64.bits s_e5 ||| BitVec.ofInt IntKind.u64.bits (IntKind.u64.wrap (1 * 2 ^ (Nat.min ((IntKind.u64.wrap (n2)).tmod 64).toNat IntKind.u64.bits)))).toNat))).symm) rfl rfl <| trO_nil_draw (by kernel_rfl) <| bM <| ret_tup_val (b := (s1.set ((IntKind.i64.wrap (n2.tdiv 64)).toNat) (IntKind.u64.wrap ((BitVec.ofInt IntKind.u64.bits s_e5 ||| BitVec.ofInt IntKind.u64.bits (IntKind.u64.wrap (1 * 2 ^ (Nat.min ((IntKind.u64.wrap (n2)).tmod 64).toNat IntKind.u64.bits)))).toNat)))) rfl ?_ rfl rfl ?_ rfl (by decide)
   all_goals first|(simp;done)|(simp;omega)|rfl|(simp [isFro,isFro0];done)
  ·refine rG <| mV rfl rfl <| mV rfl rfl <| bN (v := .int .i64 (IntKind.i64.wrap (n2.tdiv 64))) rfl rfl rfl rfl ⟨rfl, (by decide)⟩ <| nC rfl rfl rfl <| cK fun hq => trO_ixP rfl rfl rfl hq <| bD fun s_e7 hs_e7 => trO_ld_arr (q := s_e7) (l := s1.toList) (en := eU64) (j := (IntKind.i64.wrap (n2.tdiv 64)).toNat) (by simp) rfl rfl rfl hs_e7 rfl (fun _ => rfl) <| mV rfl rfl <| bN (v := .int .u64 (IntKind.u64.wrap ((BitVec.ofInt IntKind.u64.bits s_e7 &&& ~~~ BitVec.ofInt IntKind.u64.bits (IntKind.u64.wrap (1 * 2 ^ (Nat.min ((IntKind.u64.wrap (n2)).tmod 64).toNat IntKind.u64.bits)))).toNat))) rfl rfl rfl rfl rfl <| nC rfl rfl rfl <| cK fun hq => trO_ixP rfl rfl rfl hq <| bD fun s_o8 hs_o8 => trO_st_arr_rich (q := s_o8) (q' := IntKind.u64.wrap ((BitVec.ofInt IntKind.u64.bits s_e7 &&& ~~~ BitVec.ofInt IntKind.u64.bits (IntKind.u64.wrap (1 * 2 ^ (Nat.min ((IntKind.u64.wrap (n2)).tmod 64).toNat IntKind.u64.bits)))).toNat)) (l := s1.toList) (en := eU64) (j := (IntKind.i64.wrap (n2.tdiv 64)).toNat) (z' := .agg [.int .u64 ((s1.set ((IntKind.i64.wrap (n2.tdiv 64)).toNat) (IntKind.u64.wrap ((BitVec.ofInt IntKind.u64.bits s_e7 &&& ~~~ BitVec.ofInt IntKind.u64.bits (IntKind.u64.wrap (1 * 2 ^ (Nat.min ((IntKind.u64.wrap (n2)).tmod 64).toNat IntKind.u64.bits)))).toNat))).a0), .int .u64 ((s1.set ((IntKind.i64.wrap (n2.tdiv 64)).toNat) (IntKind.u64.wrap ((BitVec.ofInt IntKind.u64.bits s_e7 &&& ~~~ BitVec.ofInt IntKind.u64.bits (IntKind.u64.wrap (1 * 2 ^ (Nat.min ((IntKind.u64.wrap (n2)).tmod 64).toNat IntKind.u64.bits)))).toNat))).a1), .int .u64 ((s1.set ((IntKind.i64.wrap (n2.tdiv 64)).toNat) (IntKind.u64.wrap ((BitVec.ofInt IntKind.u64.bits s_e7 &&& ~~~ BitVec.ofInt IntKind.u64.bits (IntKind.u64.wrap (1 * 2 ^ (Nat.min ((IntKind.u64.wrap (n2)).tmod 64).toNat IntKind.u64.bits)))).toNat))).a2), .int .u64 ((s1.set ((IntKind.i64.wrap (n2.tdiv 64)).toNat) (IntKind.u64.wrap ((BitVec.ofInt IntKind.u64.bits s_e7 &&& ~~~ BitVec.ofInt IntKind.u64.bits (IntKind.u64.wrap (1 * 2 ^ (Nat.min ((IntKind.u64.wrap (n2)).tmod 64).toNat IntKind.u64.bits)))).toNat))).a3), .int .u64 ((s1.set ((IntKind.i64.wrap (n2.tdiv 64)).toNat) (IntKind.u64.wrap ((BitVec.ofInt IntKind.u64.bits s_e7 &&& ~~~ BitVec.ofInt IntKind.u64.bits (IntKind.u64.wrap (1 * 2 ^ (Nat.min ((IntKind.u64.wrap (n2)).tmod 64).toNat IntKind.u64.bits)))).toNat))).a4), .int .u64 ((s1.set ((IntKind.i64.wrap (n2.tdiv 64)).toNat) (IntKind.u64.wrap ((BitVec.ofInt IntKind.u64.bits s_e7 &&& ~~~ BitVec.ofInt IntKind.u64.bits (IntKind.u64.wrap (1 * 2 ^ (Nat.min ((IntKind.u64.wrap (n2)).tmod 64).toNat IntKind.u64.bits)))).toNat))).a5), .int .u64 ((s1.set ((IntKind.i64.wrap (n2.tdiv 64)).toNat) (IntKind.u64.wrap ((BitVec.ofInt IntKind.u64.bits s_e7 &&& ~~~ BitVec.ofInt IntKind.u64.bits (IntKind.u64.wrap (1 * 2 ^ (Nat.min ((IntKind.u64.wrap (n2)).tmod 64).toNat IntKind.u64.bits)))).toNat))).a6), .int .u64 ((s1.set ((IntKind.i64.wrap (n2.tdiv 64)).toNat) (IntKind.u64.wrap ((BitVec.ofInt IntKind.u64.bits s_e7 &&& ~~~ BitVec.ofInt IntKind.u64.bits (IntKind.u64.wrap (1 * 2 ^ (Nat.min ((IntKind.u64.wrap (n2)).tmod 64).toNat IntKind.u64.bits)))).toNat))).a7)]) (by simp) rfl rfl rfl rfl rfl hs_o8 rfl rfl (congrArg (fun l => D.agg (l.map eU64)) (Tbitset_set_int__set s1 ((IntKind.i64.wrap (n2.tdiv 64)).toNat) (IntKind.u64.wrap ((BitVec.ofInt IntKind.u64.bits s_e7 &&& ~~~ BitVec.ofInt IntKind.u64.bits (IntKind.u64.wrap (1 * 2 ^ (Nat.min ((IntKind.u64.wrap (n2)).tmod 64).toNat IntKind.u64.bits)))).toNat))).symm) rfl rfl <| trO_nil_draw (by kernel_rfl) <| bM <| ret_tup_val (b := (s1.set ((IntKind.i64.wrap (n2.tdiv 64)).toNat) (IntKind.u64.wrap ((BitVec.ofInt IntKind.u64.bits s_e7 &&& ~~~ BitVec.ofInt IntKind.u64.bits (IntKind.u64.wrap (1 * 2 ^ (Nat.min ((IntKind.u64.wrap (n2)).tmod 64).toNat IntKind.u64.bits)))).toNat)))) rfl ?_ rfl rfl ?_ rfl (by decide)
   all_goals first|(simp;done)|(simp;omega)|rfl|(simp [isFro,isFro0];done)

def dc95 : DCode := (.seq (.reg [P 2 (.asg (.c .top) none)] false) (.seq (.reg [P 6 (.bld [(.int .u64 0), (.int .u64 0), (.int .u64 0), (.int .u64 0), (.int .u64 0), (.int .u64 0), (.int .u64 0), (.int .u64 0)] []), P 7 (.box (T 6) 8 122), P 3 (.asg (T 7) none)] false) (.seq (.seq (.reg [M 8 0, P 9 (.len false (T 8)), P 10 (.mv (C 0))] false) (.block 0 (.loop (.seq (.reg [P 11 (.bin .lss (T 10) (T 9))] false) (.seq (.cond (T 11) .skip (.exit 0)) (.seq (.block 1 (.seq (.reg [P 12 (.ixA 1 (T 8) (T 10)), P 13 (.ld 1 false (T 12)), P 5 (.asg (T 13) none)] false) (.reg [M 14 3, M 15 5, P 16 (.call (.c (.clo 103 [])) [(T 14), (T 15), (.c (.bool true))])] false))) (.reg [P 17 (.bin .add (T 10) (C 1)), M 10 17] false))))))) (.seq (.reg [M 18 3, P 2 (.asg (T 18) none)] false) .ret))))
theorem dc95_c : (Tryd.f95.body.bind (cCode Tryd.prog Tryd.f95.ntmps)) = some dc95 := by kernel_rfl
theorem dc95_r : Tryd.f95.results.toList.mapM (cRes Tryd.prog) = some [(.t 2)] := by kernel_rfl
def bitset_of_int_enc (a : (List Int)) : List D := [.sl (a.map eI64)]
def bitset_of_int_dec (ds : List D) : (List Int) := (uL uI) (ds.getD 0 .top)
theorem bitset_of_int_de (a : (List Int)) : bitset_of_int_dec (bitset_of_int_enc a) = a := by simp [bitset_of_int_dec, bitset_of_int_enc, uL_e (u := uI) (en := eI64) (fun _ => rfl)]
def bitset_of_int_R (b : Tbitset_set_int_) : D := ebitset_set_int_ b
def bitset_of_int_E (_b : Tbitset_set_int_) : List D := []
noncomputable def bitset_of_int_S : Dw.Spec := fSpec [] (.ptr 8 122) bitset_of_int_enc bitset_of_int_dec (fun a => bitset_of_int a) bitset_of_int_R bitset_of_int_E
set_option maxHeartbeats 4000000 in
theorem bitset_of_int_ok : SpecOk Tryd.prog 95 bitset_of_int_S := by
 refine fn_ok (specs_ok (l := [(103, bitset_set_int_put_S)]) (by simp [bitset_set_int_put_ok])) Tryd.func95 (by decide) dc95_c dc95_r (np := 1) (by decide) bitset_of_int_de (fun _ => rfl) (fun _ => rfl) (by decide) <| ?_
 intro l1
 show TrE (specs [(103, bitset_set_int_put_S)]) dc95 (kRet [] (.ptr 8 122) [(.t 2)] bitset_of_int_R bitset_of_int_E) ⟨[(0, .sl (l1.map eI64))], [], 262144⟩ (bitset_of_int l1)
 refine tr_ent <| ?_
 unfold dc95 bitset_of_int
 refine sQ <| rG <| aS rfl rfl <| nI <| xS <| sQ <| rG <| bL (cs := [.int .u64 0, .int .u64 0, .int .u64 0, .int .u64 0, .int .u64 0, .int .u64 0, .int .u64 0, .int .u64 0]) (ps := []) rfl rfl rfl rfl <| bX rfl rfl rfl rfl rfl <| aS rfl rfl <| nI <| xS <| sQ <| sQ <| rG <| mV rfl rfl <| lS rfl rfl <| mV rfl rfl <| nI <| xS <| bK <| lP (E := fun (s : Tbitset_set_int_ × Int) (g : Nat) => [(3, .optr 7 g 0 0), (8, .sl (l1.map eI64)), (9, .int .i64 (l1.length : Int)), (10, .int .i64 s.2)]) (O := fun s g => [(7, some (g, ⟨false, true, 8, 122, [.agg [.int .u64 s.1.a0, .int .u64 s.1.a1, .int .u64 s.1.a2, .int .u64 s.1.a3, .int .u64 s.1.a4, .int .u64 s.1.a5, .int .u64 s.1.a6, .int .u64 s.1.a7]]⟩))]) (body := fun s => bitset_of_int_b1 l1 s.1 s.2) (s := ((Tbitset_set_int_.mk 0 0 0 0 0 0 0 0), 0)) _ ((hE ⟨rfl, rfl, rfl, rfl, trivial⟩ ⟨rfl, trivial⟩)) <| ?_
 rintro ⟨x2, x3⟩ v7x1 nn
 try dsimp only
 unfold bitset_of_int_b1
 refine sQ <| rG <| bN (v := .bool (decide (x3 < (l1.length : Int)))) rfl rfl rfl rfl rfl <| nI <| xS <| sQ <| cD (c := (decide (x3 < (l1.length : Int)))) rfl ?_ ?_
 ·exact sK <| xS <| sQ <| bK <| sQ <| rG <| bD fun x_x4 hx_x4 => iS (en := eI64) rfl rfl rfl hx_x4 rfl <| lF (v := .int .i64 x_x4) rfl rfl rfl rfl <| aS rfl rfl <| nI <| xS <| rG <| mV rfl rfl <| mV rfl rfl <| bD fun r5 hr5 => cV (x2, x_x4, true) rfl rfl rfl bitset_set_int_put_de rfl rfl (by simp) rfl hr5 <| nI <| bM <| xS <| rG <| bN (v := .int .i64 (IntKind.i64.wrap (x3 + 1))) rfl rfl rfl rfl rfl <| mV rfl rfl <| nI <| xL (s := (r5, IntKind.i64.wrap (x3 + 1))) _ ((hE ⟨rfl, rfl, rfl, rfl, trivial⟩ ⟨rfl, trivial⟩))
 ·refine eT <| xE <| lE <| bH <| xS <| sQ <| rG <| mV rfl rfl <| aS rfl rfl <| nI <| xS <| rT <| ret_ptr (b := x2) rfl ?_ rfl ?_ rfl rfl ?_ rfl
  all_goals first|(simp;done)|(simp;omega)|rfl|(simp [isFro,isFro0];done)

def dc98 : DCode := (.seq (.reg [⟨(some 2), (.asg (.c .nils) (some ⟨1, 3⟩)), none, []⟩] false) (.seq (.reg [⟨(some 3), (.asg (.c .nils) (some ⟨1, 3⟩)), none, []⟩] false) (.seq (.seq (.reg [M 6 0, P 7 (.mv (C 0))] false) (.block 0 (.loop (.seq (.reg [P 8 (.bin .lss (T 7) (C 8))] false) (.seq (.cond (T 8) .skip (.exit 0)) (.seq (.block 1 (.seq (.reg [M 9 7, P 10 (.nilck (T 6)), ⟨(some 11), (.ixP 1 8 (T 10) (T 7)), none, [1]⟩, ⟨(some 12), (.ld 1 false (T 11)), none, [2]⟩, ⟨(some 4), (.asg (T 9) none), none, [0, 0]⟩, ⟨(some 5), (.asg (T 12) none), none, [3, 4, 0, 1, 2, 3, 4]⟩] true) (.block 2 (.loop (.seq (.seq (.reg [M 13 5, P 14 (.bin .neq (T 13) (.c (.int .u64 0)))] false) (.cond (T 14) .skip (.exit 2))) (.seq (.block 3 (.reg [M 19 3, M 20 4, P 21 (.bin .mul (C 64) (T 20)), M 22 5, P 23 (.call (.c (.clo 117 [])) [(T 22)]), P 24 (.bin .add (T 21) (T 23)), ⟨(some 25), (.bldS 1 3 (.int .i64 0) 1 [⟨0, (T 24)⟩]), none, []⟩, P 26 (.app 1 3 8 (T 19) (T 25)), ⟨(some 3), (.asg (T 26) (some ⟨1, 3⟩)), none, []⟩] false)) (.reg [M 15 5, M 16 5, P 17 (.bin .sub (T 16) (.c (.int .u64 1))), P 18 (.bin .and (T 15) (T 17)), P 5 (.asg (T 18) none)] false))))))) (.reg [P 27 (.bin .add (T 7) (C 1)), M 7 27] false))))))) (.seq (.reg [M 28 3, ⟨(some 2), (.asg (T 28) (some ⟨1, 3⟩)), none, []⟩] false) .ret))))
theorem dc98_c : (Tryd.f98.body.bind (cCode Tryd.prog Tryd.f98.ntmps)) = some dc98 := by kernel_rfl
theorem dc98_r : Tryd.f98.results.toList.mapM (cRes Tryd.prog) = some [(.t 2)] := by kernel_rfl
def bitset_set_int_list_enc (a : Tbitset_set_int_) : List D := [ebitset_set_int_ a]
def bitset_set_int_list_dec (ds : List D) : Tbitset_set_int_ := ubitset_set_int_ (ds.getD 0 .top)
theorem bitset_set_int_list_de (a : Tbitset_set_int_) : bitset_set_int_list_dec (bitset_set_int_list_enc a) = a := by simp [bitset_set_int_list_dec, bitset_set_int_list_enc]
def bitset_set_int_list_R (b : (List Int) × Tbitset_set_int_) : D := .sl (b.1.map eI64)
def bitset_set_int_list_E (b : (List Int) × Tbitset_set_int_) : List D := [ebitset_set_int_ b.2]
noncomputable def bitset_set_int_list_S : Dw.Spec := fSpec [(0, (8, 122))] (.row 1 3) bitset_set_int_list_enc bitset_set_int_list_dec (fun a => bitset_set_int_list a) bitset_set_int_list_R bitset_set_int_list_E
set_option maxHeartbeats 4000000 in
theorem bitset_set_int_list_ok : SpecOk Tryd.prog 98 bitset_set_int_list_S := by
 refine fn_ok (specs_ok (l := [(117, tz64_S)]) (by simp [tz64_ok])) Tryd.func98 (by decide) dc98_c dc98_r (np := 1) (by decide) bitset_set_int_list_de (fun _ => rfl) (fun _ => rfl) (by decide) <| ?_
 intro s1
 show TrE (specs [(117, tz64_S)]) dc98 (kRet [(0, (8, 122))] (.row 1 3) [(.t 2)] bitset_set_int_list_R bitset_set_int_list_E) ⟨[(0, .optr 8192 0 0 0)], [(8192, some (0, ⟨false, true, 8, 122, [.agg [.int .u64 s1.a0, .int .u64 s1.a1, .int .u64 s1.a2, .int .u64 s1.a3, .int .u64 s1.a4, .int .u64 s1.a5, .int .u64 s1.a6, .int .u64 s1.a7]]⟩))], 262144⟩ (bitset_set_int_list s1)
 refine tr_ent <| ?_
 unfold dc98 bitset_set_int_list
 refine sQ <| rG <| aN (α := Int) rfl eI64 rfl <| nI <| xS <| sQ <| rG <| aN (α := Int) rfl eI64 rfl <| nI <| xS <| sQ <| sQ <| rG <| mV rfl rfl <| mV rfl rfl <| nI <| xS <| bK <| lP (E := fun (s : (List Int) × Int) (g : Nat) => [(3, .osl 3 g 0 s.1.length), (6, .optr 8192 0 0 0), (7, .int .i64 s.2)]) (O := fun s g => [(3, some (g, ⟨false, false, 1, 3, s.1.map eI64⟩)), (8192, some (0, ⟨false, true, 8, 122, [.agg [.int .u64 s1.a0, .int .u64 s1.a1, .int .u64 s1.a2, .int .u64 s1.a3, .int .u64 s1.a4, .int .u64 s1.a5, .int .u64 s1.a6, .int .u64 s1.a7]]⟩))]) (body := fun s => bitset_set_int_list_b1 s1 s.1 s.2) (s := (([] : List Int), 0)) _ ((hE ⟨rfl, rfl, rfl, trivial⟩ ⟨rfl, rfl, trivial⟩)) <| ?_
 rintro ⟨l2, x3⟩ v3x1 nn
 try dsimp only
 unfold bitset_set_int_list_b1
 refine sQ <| rG <| bN (v := .bool (decide (x3 < 8))) rfl rfl rfl rfl rfl <| nI <| xS <| sQ <| cD (c := (decide (x3 < 8))) rfl ?_ ?_
 ·refine sK <| xS <| sQ <| bK <| sQ <| rG <| mV rfl rfl <| nC rfl rfl rfl <| cK fun hq => trO_ixP rfl rfl rfl hq <| bD fun s_e4 hs_e4 => trO_ld_arr (q := s_e4) (l := s1.toList) (en := eU64) (j := x3.toNat) (by simp) rfl rfl rfl hs_e4 rfl (fun _ => rfl) <| aS rfl rfl <| aS rfl rfl <| trO_nil_draw (by kernel_rfl) <| xS <| bK <| lP (E := fun (s : (List Int) × Int) (g : Nat) => [(3, .osl 3 g 0 s.1.length), (4, .int .i64 x3), (5, .int .u64 s.2), (6, .optr 8192 0 0 0), (7, .int .i64 x3)]) (O := fun s g => [(3, some (g, ⟨false, false, 1, 3, s.1.map eI64⟩)), (8192, some (0, ⟨false, true, 8, 122, [.agg [.int .u64 s1.a0, .int .u64 s1.a1, .int .u64 s1.a2, .int .u64 s1.a3, .int .u64 s1.a4, .int .u64 s1.a5, .int .u64 s1.a6, .int .u64 s1.a7]]⟩))]) (body := fun s => bitset_set_int_list_b2 x3 s.1 s.2) (s := (l2, s_e4)) _ ((hE ⟨rfl, rfl, rfl, rfl, rfl, trivial⟩ ⟨rfl, rfl, trivial⟩)) <| ?_
  rintro ⟨l5, x6⟩ v3x2 nn
  try dsimp only
  unfold bitset_set_int_list_b2
  refine sQ <| sQ <| rG <| mV rfl rfl <| bN (v := .bool (x6 != 0)) rfl rfl rfl rfl rfl <| nI <| xS <| cD (c := (x6 != 0)) rfl ?_ ?_
  ·exact sK <| xS <| sQ <| bK <| rG <| mV rfl rfl <| mV rfl rfl <| bN (v := .int .i64 (IntKind.i64.wrap (64 * x3))) rfl rfl rfl rfl rfl <| mV rfl rfl <| bD fun r7 hr7 => cG x6 rfl rfl rfl tz64_de rfl rfl (by simp) rfl hr7 rfl <| bN (v := .int .i64 (IntKind.i64.wrap ((IntKind.i64.wrap (64 * x3)) + r7))) rfl rfl rfl rfl rfl <| bS ([IntKind.i64.wrap ((IntKind.i64.wrap (64 * x3)) + r7)] : List Int) eI64 rfl rfl rfl (by simp) rfl rfl rfl <| cK fun hq => aP (l5) (([IntKind.i64.wrap ((IntKind.i64.wrap (64 * x3)) + r7)] : List Int)) eI64 rfl rfl rfl rfl rfl rfl rfl (by simp) (take_drop0_map' _ _ rfl) rfl rfl (by simp) (take_len_map' _ _ rfl) (fun _ => rfl) rfl hq <| aO (l := l5 ++ ([IntKind.i64.wrap ((IntKind.i64.wrap (64 * x3)) + r7)] : List Int)) (en := eI64) rfl rfl rfl rfl <| nI <| bM <| xS <| rG <| mV rfl rfl <| mV rfl rfl <| bN (v := .int .u64 (IntKind.u64.wrap (x6 - 1))) rfl rfl rfl rfl rfl <| bN (v := .int .u64 (IntKind.u64.wrap ((BitVec.ofInt IntKind.u64.bits x6 &&& BitVec.ofInt IntKind.u64.bits (IntKind.u64.wrap (x6 - 1))).toNat))) rfl rfl rfl rfl rfl <| aS rfl rfl <| nI <| xL (s := (l5 ++ ([IntKind.i64.wrap ((IntKind.i64.wrap (64 * x3)) + r7)] : List Int), IntKind.u64.wrap ((BitVec.ofInt IntKind.u64.bits x6 &&& BitVec.ofInt IntKind.u64.bits (IntKind.u64.wrap (x6 - 1))).toNat))) _ ((hE ⟨rfl, rfl, rfl, rfl, rfl, trivial⟩ ⟨rfl, rfl, trivial⟩))
  ·exact eT <| xE <| lE <| bH <| bM <| xS <| rG <| bN (v := .int .i64 (IntKind.i64.wrap (x3 + 1))) rfl rfl rfl rfl rfl <| mV rfl rfl <| nI <| xL (s := (l5, IntKind.i64.wrap (x3 + 1))) _ ((hE ⟨rfl, rfl, rfl, trivial⟩ ⟨rfl, rfl, trivial⟩))
 ·refine eT <| xE <| lE <| bH <| xS <| sQ <| rG <| mV rfl rfl <| aO (l := l2) (en := eI64) rfl rfl rfl rfl <| nI <| xS <| rT <| ret_row (b := (l2, s1)) rfl ?_ rfl rfl ?_ rfl ?_ (congrArg D.sl (take_len_map' _ _ rfl)) rfl
  all_goals first|(simp;done)|(simp;omega)|rfl|(simp [isFro,isFro0];done)

def dc77 : DCode := (.seq (.reg [⟨(some 4), (.asg (.c .nils) (some ⟨1, 3⟩)), none, []⟩] false) (.seq (.reg [M 6 0, P 7 (.call (.c (.clo 95 [])) [(T 6)]), P 5 (.asg (T 7) none)] false) (.seq (.reg [M 8 5, M 9 1, P 10 (.call (.c (.clo 103 [])) [(T 8), (T 9), (.c (.bool false))])] false) (.seq (.reg [M 11 5, P 12 (.call (.c (.clo 98 [])) [(T 11)]), ⟨(some 4), (.asg (T 12) (some ⟨1, 3⟩)), none, []⟩] false) .ret))))
theorem dc77_c : (Tryd.f77.body.bind (cCode Tryd.prog Tryd.f77.ntmps)) = some dc77 := by kernel_rfl
theorem dc77_r : Tryd.f77.results.toList.mapM (cRes Tryd.prog) = some [(.t 4)] := by kernel_rfl
def bitset_Remove_enc (a : (List Int) × Int) : List D := [.sl (a.1.map eI64), .int .i64 a.2]
def bitset_Remove_dec (ds : List D) : (List Int) × Int := ((uL uI) (ds.getD 0 .top), uI (ds.getD 1 .top))
theorem bitset_Remove_de (a : (List Int) × Int) : bitset_Remove_dec (bitset_Remove_enc a) = a := by simp [bitset_Remove_dec, bitset_Remove_enc, uI, uL_e (u := uI) (en := eI64) (fun _ => rfl)]
def bitset_Remove_R (b : (List Int)) : D := .sl (b.map eI64)
def bitset_Remove_E (_b : (List Int)) : List D := []
noncomputable def bitset_Remove_S : Dw.Spec := fSpec [] .val bitset_Remove_enc bitset_Remove_dec (fun a => bitset_Remove a.1 a.2) bitset_Remove_R bitset_Remove_E
set_option maxHeartbeats 4000000 in
theorem bitset_Remove_ok : SpecOk Tryd.prog 77 bitset_Remove_S := by
 refine fn_ok (specs_ok (l := [(95, bitset_of_int_S), (103, bitset_set_int_put_S), (98, bitset_set_int_list_S)]) (by simp [bitset_of_int_ok, bitset_set_int_put_ok, bitset_set_int_list_ok])) Tryd.func77 (by decide) dc77_c dc77_r (np := 2) (by decide) bitset_Remove_de (fun _ => rfl) (fun _ => rfl) (by decide) <| ?_
 rintro ⟨s1, n2⟩
 show TrE (specs [(95, bitset_of_int_S), (103, bitset_set_int_put_S), (98, bitset_set_int_list_S)]) dc77 (kRet [] .val [(.t 4)] bitset_Remove_R bitset_Remove_E) ⟨[(0, .sl (s1.map eI64)), (1, .int .i64 n2)], [], 262144⟩ (bitset_Remove s1 n2)
 refine tr_ent <| ?_
 unfold dc77 bitset_Remove
 refine sQ <| rG <| aN (α := Int) rfl eI64 rfl <| nI <| xS <| sQ <| rG <| mV rfl rfl <| bD fun r3 hr3 => cP s1 rfl rfl rfl bitset_of_int_de rfl rfl (by simp) rfl hr3 <| aS rfl rfl <| nI <| xS <| sQ <| rG <| mV rfl rfl <| mV rfl rfl <| bD fun r4 hr4 => cV (r3, n2, false) rfl rfl rfl bitset_set_int_put_de rfl rfl (by simp) rfl hr4 <| nI <| xS <| sQ <| rG <| mV rfl rfl <| bD fun r5 hr5 => cR (l := r5.1) (en := eI64) r4 rfl rfl rfl bitset_set_int_list_de rfl rfl (by simp) rfl hr5 rfl <| aO (l := r5.1) (en := eI64) rfl rfl rfl rfl <| nI <| xS <| rT <| ret_val (b := r5.1) rfl ?_ rfl rfl ?_ (by first | rfl | (simp only [take_drop0_map, take_sub_map]; rfl) | simp [bitset_Remove_R])
 all_goals first|(simp;done)|(simp;omega)|rfl|(simp [isFro,isFro0];done)

def dc102 : DCode := (.seq (.reg [P 1 (.box (T 0) 5 66), ⟨(some 2), (.asg (.c .nils) (some ⟨1, 3⟩)), none, []⟩] false) (.seq (.seq (.reg [P 3 (.fldA 0 (T 1)), P 4 (.ld 1 false (T 3))] false) (.block 0 (.seq (.seq (.reg [P 6 (.bin .eql (T 4) (C 15)), P 5 (.asg (T 6) none)] false) (.cond (T 5) .skip (.reg [P 7 (.bin .eql (T 4) (C 17)), P 5 (.asg (T 7) none)] false))) (.cond (T 5) (.seq (.reg [P 8 (.fldA 2 (T 1)), P 9 (.ld 1 false (T 8)), ⟨(some 10), (.bldS 1 3 (.int .i64 0) 1 [⟨0, (T 9)⟩]), none, []⟩, ⟨(some 2), (.asg (T 10) (some ⟨1, 3⟩)), none, []⟩] false) .ret) .skip)))) (.seq (.reg [⟨(some 2), (.asg (.c .nils) (some ⟨1, 3⟩)), none, []⟩] false) .ret)))
theorem dc102_c : (Tryd.f102.body.bind (cCode Tryd.prog Tryd.f102.ntmps)) = some dc102 := by kernel_rfl
theorem dc102_r : Tryd.f102.results.toList.mapM (cRes Tryd.prog) = some [(.t 2)] := by kernel_rfl
def effect_Uses_enc (a : TInstr) : List D := [eInstr a]
def effect_Uses_dec (ds : List D) : TInstr := uInstr (ds.getD 0 .top)
theorem effect_Uses_de (a : TInstr) : effect_Uses_dec (effect_Uses_enc a) = a := by simp [effect_Uses_dec, effect_Uses_enc]
def effect_Uses_R (b : (List Int)) : D := .sl (b.map eI64)
def effect_Uses_E (_b : (List Int)) : List D := []
noncomputable def effect_Uses_S : Dw.Spec := fSpec [] (.row 1 3) effect_Uses_enc effect_Uses_dec (fun a => effect_Uses a) effect_Uses_R effect_Uses_E
set_option maxHeartbeats 4000000 in
theorem effect_Uses_ok : SpecOk Tryd.prog 102 effect_Uses_S := by
 refine fn_ok (specs_nil) Tryd.func102 (by decide) dc102_c dc102_r (np := 1) (by decide) effect_Uses_de (fun _ => rfl) (fun _ => rfl) (by decide) <| ?_
 intro x1
 show TrE (specs []) dc102 (kRet [] (.row 1 3) [(.t 2)] effect_Uses_R effect_Uses_E) ⟨[(0, .agg [.int .i64 x1.Op, .int .i64 x1.A, .int .i64 x1.B, .int .i64 x1.C, .int .u64 x1.Imm])], [], 262144⟩ (effect_Uses x1)
 refine tr_ent <| ?_
 unfold dc102 effect_Uses
 refine sQ <| rG <| bX rfl rfl rfl rfl rfl <| aN (α := Int) rfl eI64 rfl <| nI <| xS <| sQ <| sQ <| rG <| fA rfl rfl <| lO (v := .int .i64 x1.Op) (z := .agg [.int .i64 x1.Op, .int .i64 x1.A, .int .i64 x1.B, .int .i64 x1.C, .int .u64 x1.Imm]) rfl rfl rfl rfl rfl rfl <| nI <| xS <| bK <| sQ <| sQ <| rG <| bN (v := .bool (x1.Op == 15)) rfl rfl rfl rfl rfl <| aS rfl rfl <| nI <| xS <| cD (c := (x1.Op == 15)) rfl ?_ ?_
 ·refine sK <| xS <| cD (c := (x1.Op == 15)) rfl ?_ ?_
  ·refine sQ <| rG <| fA rfl rfl <| lO (v := .int .i64 x1.B) (z := .agg [.int .i64 x1.Op, .int .i64 x1.A, .int .i64 x1.B, .int .i64 x1.C, .int .u64 x1.Imm]) rfl rfl rfl rfl rfl rfl <| bS ([x1.B] : List Int) eI64 rfl rfl rfl (by simp) rfl rfl rfl <| aO (l := ([x1.B] : List Int)) (en := eI64) rfl rfl rfl rfl <| nI <| xS <| rT <| bR <| xR <| ret_row (b := ([x1.B] : List Int)) rfl ?_ rfl rfl ?_ rfl ?_ (congrArg D.sl (take_len_map' _ _ rfl)) rfl
   all_goals first|(simp;done)|(simp;omega)|rfl|(simp [isFro,isFro0];done)
  ·refine sK <| bM <| xS <| sQ <| rG <| aN (α := Int) rfl eI64 rfl <| nI <| xS <| rT <| ret_row (b := ([] : List Int)) rfl ?_ rfl rfl ?_ rfl ?_ (congrArg D.sl (take_len_map' _ _ rfl)) rfl
   all_goals first|(simp;done)|(simp;omega)|rfl|(simp [isFro,isFro0];done)
 ·refine rG <| bN (v := .bool (x1.Op == 17)) rfl rfl rfl rfl rfl <| aS rfl rfl <| nI <| xS <| cD (c := (x1.Op == 17)) rfl ?_ ?_
  ·refine sQ <| rG <| fA rfl rfl <| lO (v := .int .i64 x1.B) (z := .agg [.int .i64 x1.Op, .int .i64 x1.A, .int .i64 x1.B, .int .i64 x1.C, .int .u64 x1.Imm]) rfl rfl rfl rfl rfl rfl <| bS ([x1.B] : List Int) eI64 rfl rfl rfl (by simp) rfl rfl rfl <| aO (l := ([x1.B] : List Int)) (en := eI64) rfl rfl rfl rfl <| nI <| xS <| rT <| bR <| xR <| ret_row (b := ([x1.B] : List Int)) rfl ?_ rfl rfl ?_ rfl ?_ (congrArg D.sl (take_len_map' _ _ rfl)) rfl
   all_goals first|(simp;done)|(simp;omega)|rfl|(simp [isFro,isFro0];done)
  ·refine sK <| bM <| xS <| sQ <| rG <| aN (α := Int) rfl eI64 rfl <| nI <| xS <| rT <| ret_row (b := ([] : List Int)) rfl ?_ rfl rfl ?_ rfl ?_ (congrArg D.sl (take_len_map' _ _ rfl)) rfl
   all_goals first|(simp;done)|(simp;omega)|rfl|(simp [isFro,isFro0];done)

def dc101 : DCode := (.seq (.reg [⟨(some 2), (.asg (.c .nils) (some ⟨1, 3⟩)), none, []⟩] false) (.seq (.reg [M 3 0, P 4 (.call (.c (.clo 95 [])) [(T 3)]), P 5 (.call (.c (.clo 98 [])) [(T 4)]), ⟨(some 2), (.asg (T 5) (some ⟨1, 3⟩)), none, []⟩] false) .ret))
theorem dc101_c : (Tryd.f101.body.bind (cCode Tryd.prog Tryd.f101.ntmps)) = some dc101 := by kernel_rfl
theorem dc101_r : Tryd.f101.results.toList.mapM (cRes Tryd.prog) = some [(.t 2)] := by kernel_rfl
def bitset_Of_enc (a : (List Int)) : List D := [.sl (a.map eI64)]
def bitset_Of_dec (ds : List D) : (List Int) := (uL uI) (ds.getD 0 .top)
theorem bitset_Of_de (a : (List Int)) : bitset_Of_dec (bitset_Of_enc a) = a := by simp [bitset_Of_dec, bitset_Of_enc, uL_e (u := uI) (en := eI64) (fun _ => rfl)]
def bitset_Of_R (b : (List Int)) : D := .sl (b.map eI64)
def bitset_Of_E (_b : (List Int)) : List D := []
noncomputable def bitset_Of_S : Dw.Spec := fSpec [] (.row 1 3) bitset_Of_enc bitset_Of_dec (fun a => bitset_Of a) bitset_Of_R bitset_Of_E
set_option maxHeartbeats 4000000 in
theorem bitset_Of_ok : SpecOk Tryd.prog 101 bitset_Of_S := by
 refine fn_ok (specs_ok (l := [(95, bitset_of_int_S), (98, bitset_set_int_list_S)]) (by simp [bitset_of_int_ok, bitset_set_int_list_ok])) Tryd.func101 (by decide) dc101_c dc101_r (np := 1) (by decide) bitset_Of_de (fun _ => rfl) (fun _ => rfl) (by decide) <| ?_
 intro l1
 show TrE (specs [(95, bitset_of_int_S), (98, bitset_set_int_list_S)]) dc101 (kRet [] (.row 1 3) [(.t 2)] bitset_Of_R bitset_Of_E) ⟨[(0, .sl (l1.map eI64))], [], 262144⟩ (bitset_Of l1)
 refine tr_ent <| ?_
 unfold dc101 bitset_Of
 refine sQ <| rG <| aN (α := Int) rfl eI64 rfl <| nI <| xS <| sQ <| rG <| mV rfl rfl <| bD fun r2 hr2 => cP l1 rfl rfl rfl bitset_of_int_de rfl rfl (by simp) rfl hr2 <| bD fun r3 hr3 => cR (l := r3.1) (en := eI64) r2 rfl rfl rfl bitset_set_int_list_de rfl rfl (by simp) rfl hr3 rfl <| aO (l := r3.1) (en := eI64) rfl rfl rfl rfl <| nI <| xS <| rT <| ret_row (b := r3.1) rfl ?_ rfl rfl ?_ rfl ?_ (congrArg D.sl (take_len_map' _ _ rfl)) rfl
 all_goals first|(simp;done)|(simp;omega)|rfl|(simp [isFro,isFro0];done)

def dc97 : DCode := (.seq (.reg [P 4 (.asg (.c (.int .u64 0)) none)] false) (.seq (.reg [M 5 0, M 6 1, P 7 (.bin .or (T 5) (T 6)), P 4 (.asg (T 7) none)] false) .ret))
theorem dc97_c : (Tryd.f97.body.bind (cCode Tryd.prog Tryd.f97.ntmps)) = some dc97 := by kernel_rfl
theorem dc97_r : Tryd.f97.results.toList.mapM (cRes Tryd.prog) = some [(.t 4)] := by kernel_rfl
def bitset_Union_1_enc (a : Int × Int) : List D := [.int .u64 a.1, .int .u64 a.2]
def bitset_Union_1_dec (ds : List D) : Int × Int := (uI (ds.getD 0 .top), uI (ds.getD 1 .top))
theorem bitset_Union_1_de (a : Int × Int) : bitset_Union_1_dec (bitset_Union_1_enc a) = a := by simp [bitset_Union_1_dec, bitset_Union_1_enc, uI]
def bitset_Union_1_R (b : Int) : D := .int .u64 b
def bitset_Union_1_E (_b : Int) : List D := []
noncomputable def bitset_Union_1_S : Dw.Spec := fSpec [] .ground bitset_Union_1_enc bitset_Union_1_dec (fun a => bitset_Union_1 a.1 a.2) bitset_Union_1_R bitset_Union_1_E
set_option maxHeartbeats 4000000 in
theorem bitset_Union_1_ok : SpecOk Tryd.prog 97 bitset_Union_1_S := by
 refine fn_ok (specs_nil) Tryd.func97 (by decide) dc97_c dc97_r (np := 2) (by decide) bitset_Union_1_de (fun _ => rfl) (fun _ => rfl) (by decide) <| ?_
 rintro ⟨x1, y2⟩
 show TrE (specs []) dc97 (kRet [] .ground [(.t 4)] bitset_Union_1_R bitset_Union_1_E) ⟨[(0, .int .u64 x1), (1, .int .u64 y2)], [], 262144⟩ (bitset_Union_1 x1 y2)
 refine tr_ent <| ?_
 unfold dc97 bitset_Union_1
 refine sQ <| rG <| aS rfl rfl <| nI <| xS <| sQ <| rG <| mV rfl rfl <| mV rfl rfl <| bN (v := .int .u64 (IntKind.u64.wrap ((BitVec.ofInt IntKind.u64.bits x1 ||| BitVec.ofInt IntKind.u64.bits y2).toNat))) rfl rfl rfl rfl rfl <| aS rfl rfl <| nI <| xS <| rT <| ret_ground (b := IntKind.u64.wrap ((BitVec.ofInt IntKind.u64.bits x1 ||| BitVec.ofInt IntKind.u64.bits y2).toNat)) rfl ?_ rfl rfl ?_ rfl
 all_goals first|(simp;done)|(simp;omega)|rfl|(simp [isFro,isFro0];done)

def dc96 : DCode := (.seq (.reg [P 6 (.asg (.c .top) none)] false) (.seq (.reg [P 9 (.bld [(.int .u64 0), (.int .u64 0), (.int .u64 0), (.int .u64 0), (.int .u64 0), (.int .u64 0), (.int .u64 0), (.int .u64 0)] []), P 10 (.box (T 9) 8 122), P 7 (.asg (T 10) none)] false) (.seq (.seq (.reg [P 11 (.mv (C 0))] false) (.block 0 (.loop (.seq (.reg [P 12 (.bin .lss (T 11) (C 8))] false) (.seq (.cond (T 12) .skip (.exit 0)) (.seq (.block 1 (.seq (.reg [M 13 11, P 8 (.asg (T 13) none)] false) (.reg [M 14 7, M 15 8, M 16 2, M 17 0, M 18 8, ⟨(some 19), (.nilck (T 17)), none, [3]⟩, ⟨(some 20), (.ixP 1 8 (T 19) (T 18)), none, [5, 4]⟩, ⟨(some 21), (.ld 1 false (T 20)), none, [6]⟩, M 22 1, M 23 8, ⟨(some 24), (.nilck (T 22)), none, [8]⟩, ⟨(some 25), (.ixP 1 8 (T 24) (T 23)), none, [10, 9]⟩, ⟨(some 26), (.ld 1 false (T 25)), none, [11]⟩, ⟨(some 27), (.call (T 16) [(T 21), (T 26)]), none, [2, 7, 12]⟩, ⟨(some 28), (.nilck (T 14)), none, [0]⟩, ⟨(some 29), (.ixP 1 8 (T 28) (T 15)), none, [14, 1, 0, 1, 2, 3, 4, 5, 6, 7, 8, 9, 10, 11, 12, 13]⟩, ⟨none, (.st 1 (T 29) (T 27)), none, [15, 13, 13, 0, 1, 2, 3, 4, 5, 6, 7, 8, 9, 10, 11, 12, 13]⟩] true))) (.reg [P 30 (.bin .add (T 11) (C 1)), M 11 30] false))))))) (.seq (.reg [M 31 7, P 6 (.asg (T 31) none)] false) .ret))))
theorem dc96_c : (Tryd.f96.body.bind (cCode Tryd.prog Tryd.f96.ntmps)) = some dc96 := by kernel_rfl
theorem dc96_r : Tryd.f96.results.toList.mapM (cRes Tryd.prog) = some [(.t 6)] := by kernel_rfl
def bitset_set_int_with_Union_1_enc (a : Tbitset_set_int_ × Tbitset_set_int_) : List D := [ebitset_set_int_ a.1, ebitset_set_int_ a.2, .clo 97 []]
def bitset_set_int_with_Union_1_dec (ds : List D) : Tbitset_set_int_ × Tbitset_set_int_ := (ubitset_set_int_ (ds.getD 0 .top), ubitset_set_int_ (ds.getD 1 .top))
theorem bitset_set_int_with_Union_1_de (a : Tbitset_set_int_ × Tbitset_set_int_) : bitset_set_int_with_Union_1_dec (bitset_set_int_with_Union_1_enc a) = a := by simp [bitset_set_int_with_Union_1_dec, bitset_set_int_with_Union_1_enc]
def bitset_set_int_with_Union_1_R (b : Tbitset_set_int_ × Tbitset_set_int_ × Tbitset_set_int_) : D := ebitset_set_int_ b.1
def bitset_set_int_with_Union_1_E (b : Tbitset_set_int_ × Tbitset_set_int_ × Tbitset_set_int_) : List D := [ebitset_set_int_ b.2.1, ebitset_set_int_ b.2.2]
noncomputable def bitset_set_int_with_Union_1_S : Dw.Spec := fSpec [(0, (8, 122)), (1, (8, 122))] (.ptr 8 122) bitset_set_int_with_Union_1_enc bitset_set_int_with_Union_1_dec (fun a => bitset_set_int_with_Union_1 a.1 a.2) bitset_set_int_with_Union_1_R bitset_set_int_with_Union_1_E
set_option maxHeartbeats 4000000 in
theorem bitset_set_int_with_Union_1_ok : SpecOk Tryd.prog 96 bitset_set_int_with_Union_1_S := by
 refine fn_ok (specs_ok (l := [(97, bitset_Union_1_S)]) (by simp [bitset_Union_1_ok])) Tryd.func96 (by decide) dc96_c dc96_r (np := 3) (by decide) bitset_set_int_with_Union_1_de (fun _ => rfl) (fun _ => rfl) (by decide) <| ?_
 rintro ⟨s1, t2⟩
 show TrE (specs [(97, bitset_Union_1_S)]) dc96 (kRet [(0, (8, 122)), (1, (8, 122))] (.ptr 8 122) [(.t 6)] bitset_set_int_with_Union_1_R bitset_set_int_with_Union_1_E) ⟨[(0, .optr 8192 0 0 0), (1, .optr 8193 1 0 0), (2, .clo 97 [])], [(8192, some (0, ⟨false, true, 8, 122, [.agg [.int .u64 s1.a0, .int .u64 s1.a1, .int .u64 s1.a2, .int .u64 s1.a3, .int .u64 s1.a4, .int .u64 s1.a5, .int .u64 s1.a6, .int .u64 s1.a7]]⟩)), (8193, some (1, ⟨false, true, 8, 122, [.agg [.int .u64 t2.a0, .int .u64 t2.a1, .int .u64 t2.a2, .int .u64 t2.a3, .int .u64 t2.a4, .int .u64 t2.a5, .int .u64 t2.a6, .int .u64 t2.a7]]⟩))], 262144⟩ (bitset_set_int_with_Union_1 s1 t2)
 refine tr_ent <| ?_
 unfold dc96 bitset_set_int_with_Union_1
 refine sQ <| rG <| aS rfl rfl <| nI <| xS <| sQ <| rG <| bL (cs := [.int .u64 0, .int .u64 0, .int .u64 0, .int .u64 0, .int .u64 0, .int .u64 0, .int .u64 0, .int .u64 0]) (ps := []) rfl rfl rfl rfl <| bX rfl rfl rfl rfl rfl <| aS rfl rfl <| nI <| xS <| sQ <| sQ <| rG <| mV rfl rfl <| nI <| xS <| bK <| lP (E := fun (s : Tbitset_set_int_ × Int) (g : Nat) => [(0, .optr 8192 0 0 0), (1, .optr 8193 1 0 0), (2, .clo 97 []), (7, .optr 10 g 0 0), (11, .int .i64 s.2)]) (O := fun s g => [(10, some (g, ⟨false, true, 8, 122, [.agg [.int .u64 s.1.a0, .int .u64 s.1.a1, .int .u64 s.1.a2, .int .u64 s.1.a3, .int .u64 s.1.a4, .int .u64 s.1.a5, .int .u64 s.1.a6, .int .u64 s.1.a7]]⟩)), (8192, some (0, ⟨false, true, 8, 122, [.agg [.int .u64 s1.a0, .int .u64 s1.a1, .int .u64 s1.a2, .int .u64 s1.a3, .int .u64 s1.a4, .int .u64 s1.a5, .int .u64 s1.a6, .int .u64 s1.a7]]⟩)), (8193, some (1, ⟨false, true, 8, 122, [.agg [.int .u64 t2.a0, .int .u64 t2.a1, .int .u64 t2.a2, .int .u64 t2.a3, .int .u64 t2.a4, .int .u64 t2.a5, .int .u64 t2.a6, .int .u64 t2.a7]]⟩))]) (body := fun s => bitset_set_int_with_Union_1_b1 s1 t2 s.1 s.2) (s := ((Tbitset_set_int_.mk 0 0 0 0 0 0 0 0), 0)) _ ((hE ⟨rfl, rfl, rfl, rfl, rfl, trivial⟩ ⟨rfl, rfl, rfl, trivial⟩)) <| ?_
 rintro ⟨x3, x4⟩ v10x1 nn
 try dsimp only
 unfold bitset_set_int_with_Union_1_b1
 refine sQ <| rG <| bN (v := .bool (decide (x4 < 8))) rfl rfl rfl rfl rfl <| nI <| xS <| sQ <| cD (c := (decide (x4 < 8))) rfl ?_ ?_
 ·exact sK <| xS <| sQ <| bK <| sQ <| rG <| mV rfl rfl <| aS rfl rfl <| nI <| xS <| rG <| mV rfl rfl <| mV rfl rfl <| mV rfl rfl <| mV rfl rfl <| mV rfl rfl <| nC rfl rfl rfl <| cK fun hq => trO_ixP rfl rfl rfl hq <| bD fun s_e5 hs_e5 => trO_ld_arr (q := s_e5) (l := s1.toList) (en := eU64) (j := x4.toNat) (by simp) rfl rfl rfl hs_e5 rfl (fun _ => rfl) <| mV rfl rfl <| mV rfl rfl <| nC rfl rfl rfl <| cK fun hq => trO_ixP rfl rfl rfl hq <| bD fun t_e6 ht_e6 => trO_ld_arr (q := t_e6) (l := t2.toList) (en := eU64) (j := x4.toNat) (by simp) rfl rfl rfl ht_e6 rfl (fun _ => rfl) <| bD fun r7 hr7 => cG (s_e5, t_e6) rfl rfl rfl bitset_Union_1_de rfl rfl (by simp) rfl hr7 rfl <| nC rfl rfl rfl <| cK fun hq => trO_ixP rfl rfl rfl hq <| bD fun x_o8 hx_o8 => trO_st_arr (q := x_o8) (q' := r7) (l := x3.toList) (en := eU64) (j := x4.toNat) (z' := .agg [.int .u64 ((x3.set x4.toNat r7).a0), .int .u64 ((x3.set x4.toNat r7).a1), .int .u64 ((x3.set x4.toNat r7).a2), .int .u64 ((x3.set x4.toNat r7).a3), .int .u64 ((x3.set x4.toNat r7).a4), .int .u64 ((x3.set x4.toNat r7).a5), .int .u64 ((x3.set x4.toNat r7).a6), .int .u64 ((x3.set x4.toNat r7).a7)]) (by simp) rfl rfl rfl rfl rfl hx_o8 rfl rfl (congrArg (fun l => D.agg (l.map eU64)) (Tbitset_set_int__set x3 x4.toNat r7).symm) <| trO_nil_draw (by kernel_rfl) <| bM <| xS <| rG <| bN (v := .int .i64 (IntKind.i64.wrap (x4 + 1))) rfl rfl rfl rfl rfl <| mV rfl rfl <| nI <| xL (s := ((x3.set x4.toNat r7), IntKind.i64.wrap (x4 + 1))) _ ((hE ⟨rfl, rfl, rfl, rfl, rfl, trivial⟩ ⟨rfl, rfl, rfl, trivial⟩))
 ·refine eT <| xE <| lE <| bH <| xS <| sQ <| rG <| mV rfl rfl <| aS rfl rfl <| nI <| xS <| rT <| ret_ptr (b := (x3, s1, t2)) rfl ?_ rfl ?_ rfl rfl ?_ rfl
  all_goals first|(simp;done)|(simp;omega)|rfl|(simp [isFro,isFro0];done)

def dc69 : DCode := (.seq (.reg [⟨(some 4), (.asg (.c .nils) (some ⟨1, 3⟩)), none, []⟩] false) (.seq (.reg [M 5 0, P 6 (.call (.c (.clo 95 [])) [(T 5)]), M 7 1, P 8 (.call (.c (.clo 95 [])) [(T 7)]), P 9 (.call (.c (.clo 96 [])) [(T 6), (T 8), (.c (.clo 97 []))]), P 10 (.call (.c (.clo 98 [])) [(T 9)]), ⟨(some 4), (.asg (T 10) (some ⟨1, 3⟩)), none, []⟩] false) .ret))
theorem dc69_c : (Tryd.f69.body.bind (cCode Tryd.prog Tryd.f69.ntmps)) = some dc69 := by kernel_rfl
theorem dc69_r : Tryd.f69.results.toList.mapM (cRes Tryd.prog) = some [(.t 4)] := by kernel_rfl
def bitset_Union_enc (a : (List Int) × (List Int)) : List D := [.sl (a.1.map eI64), .sl (a.2.map eI64)]
def bitset_Union_dec (ds : List D) : (List Int) × (List Int) := ((uL uI) (ds.getD 0 .top), (uL uI) (ds.getD 1 .top))
theorem bitset_Union_de (a : (List Int) × (List Int)) : bitset_Union_dec (bitset_Union_enc a) = a := by simp [bitset_Union_dec, bitset_Union_enc, uL_e (u := uI) (en := eI64) (fun _ => rfl)]
def bitset_Union_R (b : (List Int)) : D := .sl (b.map eI64)
def bitset_Union_E (_b : (List Int)) : List D := []
noncomputable def bitset_Union_S : Dw.Spec := fSpec [] .val bitset_Union_enc bitset_Union_dec (fun a => bitset_Union a.1 a.2) bitset_Union_R bitset_Union_E
set_option maxHeartbeats 4000000 in
theorem bitset_Union_ok : SpecOk Tryd.prog 69 bitset_Union_S := by
 refine fn_ok (specs_ok (l := [(95, bitset_of_int_S), (401504, bitset_set_int_with_Union_1_S), (98, bitset_set_int_list_S)]) (by simp [bitset_of_int_ok, bitset_set_int_with_Union_1_ok, bitset_set_int_list_ok])) Tryd.func69 (by decide) dc69_c dc69_r (np := 2) (by decide) bitset_Union_de (fun _ => rfl) (fun _ => rfl) (by decide) <| ?_
 rintro ⟨a1, b2⟩
 show TrE (specs [(95, bitset_of_int_S), (401504, bitset_set_int_with_Union_1_S), (98, bitset_set_int_list_S)]) dc69 (kRet [] .val [(.t 4)] bitset_Union_R bitset_Union_E) ⟨[(0, .sl (a1.map eI64)), (1, .sl (b2.map eI64))], [], 262144⟩ (bitset_Union a1 b2)
 refine tr_ent <| ?_
 unfold dc69 bitset_Union
 refine sQ <| rG <| aN (α := Int) rfl eI64 rfl <| nI <| xS <| sQ <| rG <| mV rfl rfl <| bD fun r3 hr3 => cP a1 rfl rfl rfl bitset_of_int_de rfl rfl (by simp) rfl hr3 <| mV rfl rfl <| bD fun r4 hr4 => cP b2 rfl rfl rfl bitset_of_int_de rfl rfl (by simp) rfl hr4 <| bD fun r5 hr5 => cP (r3, r4) rfl rfl (show _ = some bitset_set_int_with_Union_1_S from by kernel_rfl) bitset_set_int_with_Union_1_de rfl rfl (by simp) rfl hr5 <| bD fun r6 hr6 => cR (l := r6.1) (en := eI64) r5.1 rfl rfl rfl bitset_set_int_list_de rfl rfl (by simp) rfl hr6 rfl <| aO (l := r6.1) (en := eI64) rfl rfl rfl rfl <| nI <| xS <| rT <| ret_val (b := r6.1) rfl ?_ rfl rfl ?_ (by first | rfl | (simp only [take_drop0_map, take_sub_map]; rfl) | simp [bitset_Union_R])
 all_goals first|(simp;done)|(simp;omega)|rfl|(simp [isFro,isFro0];done)

end Go.Proofs.YtcelninhkmhjkaaDoor
