/-
  Programs on typed data, and the proofs that the code does what they say; written by a program (dx.py).
-/
import Derived.Test.YtcelninhkmhjkaaDoorProg
import Derived.Test.YtcelninhkmhjkaaDoorDc
import Derived.KernelRfl
import Derived.Test.YtcelninhkmhjkaaDoorDxP
import Derived.Test.YtcelninhkmhjkaaDoorDxF2
namespace Go.Proofs.YtcelninhkmhjkaaDoor
open Go Go.Dw Go.Proofs
set_option maxRecDepth 100000
open Go.Dw renaming trO_mv → mV, trO_bin → bN, trO_ld_obj → lO, trO_bind → bD, trO_chk → cK, trO_nil → nI, trX_seq → xS, tr_reg → rG, tr_seq → sQ, trO_asg_own → aO, trO_asg → aS, trO_off → oF, trO_bld → bL, trO_bldS → bS, trO_call_val → cV, trO_call_ground → cG, trO_call_row → cR, trO_app → aP, trO_st_var → sV, trO_st_elem → sE, trO_ixA_sl → iS, trO_ixA_own → iO, trO_len_sl → lS, trO_len_own → lW, trO_fldA → fA, trO_ext → eX, trO_ld_f → lF, trO_split → sP, trO_pick_true → pT, trO_pick_false → pF, trO_un → uN, trO_new → nW, trO_box → bX, trO_asg_nil → aN, tr_cond → cD, tr_block → bK, tr_ret → rT, tr_skip → sK, tr_exit → eT, trX_cut → xC, trX_loop → xL, trX_seq_ret → xR, trX_cut_ret → zR, trX_loop_ret → lR, has_exact → hE, trX_loop_exit → lE, trX_blk_here → bH, trX_blk_normal → bM, trX_blk_ret → bR, trX_seq_exit → xE, tr_loop → lP, tr_seq_cut → sC, tr_seq_blk_cut → bC
def dc60 : DCode := (.seq (.reg [P 2 (.box (T 0) 3 27), ⟨(some 4), (.asg (.c .nils) (some ⟨1, 3⟩)), none, []⟩] false) (.seq (.seq (.reg [M 6 1, P 7 (.bin .lss (T 6) (C 0)), M 8 7, ⟨(some 9), (.mv (T 1)), (some ⟨8, false⟩), []⟩, ⟨(some 10), (.fldA 2 (T 2)), (some ⟨8, false⟩), []⟩, ⟨(some 11), (.ld 1 false (T 10)), (some ⟨8, false⟩), []⟩, ⟨(some 12), (.len false (T 11)), (some ⟨8, false⟩), []⟩, ⟨(some 13), (.bin .geq (T 9) (T 12)), (some ⟨8, false⟩), []⟩, P 14 (.pick (T 8) (.c (.bool true)) (T 13))] false) (.cond (T 14) (.seq (.reg [⟨(some 4), (.asg (.c .nils) (some ⟨1, 3⟩)), none, []⟩] false) .ret) .skip)) (.seq (.reg [P 15 (.fldA 2 (T 2)), P 16 (.ld 1 false (T 15)), M 17 1, P 18 (.ixA 5 (T 16) (T 17)), P 19 (.ld 5 true (T 18)), P 5 (.new (.agg [(.int .i64 0), (.int .i64 0), (.int .i64 0), (.int .i64 0), (.int .u64 0)]) 5 66), ⟨none, (.st 5 (T 5) (T 19)), none, []⟩] false) (.seq (.seq (.reg [P 20 (.fldA 0 (T 5)), P 21 (.ld 1 false (T 20))] false) (.block 0 (.seq (.reg [P 23 (.bin .eql (T 21) (C 20)), P 22 (.asg (T 23) none)] false) (.cond (T 22) (.seq (.reg [P 24 (.fldA 1 (T 5)), P 25 (.ld 1 false (T 24)), ⟨(some 26), (.bldS 1 3 (.int .i64 0) 1 [⟨0, (T 25)⟩]), none, []⟩, ⟨(some 4), (.asg (T 26) (some ⟨1, 3⟩)), none, []⟩] false) .ret) (.seq (.seq (.reg [P 28 (.bin .eql (T 21) (C 23)), P 27 (.asg (T 28) none)] false) (.cond (T 27) .skip (.reg [P 29 (.bin .eql (T 21) (C 24)), P 27 (.asg (T 29) none)] false))) (.cond (T 27) (.seq (.reg [⟨(some 4), (.asg (.c .nils) (some ⟨1, 3⟩)), none, []⟩] false) .ret) (.seq (.reg [P 31 (.bin .eql (T 21) (C 21)), P 30 (.asg (T 31) none)] false) (.cond (T 30) (.block 1 (.seq (.reg [P 33 (.fldA 2 (T 5)), P 34 (.ld 1 false (T 33)), M 35 1, P 36 (.bin .add (T 35) (C 1)), P 37 (.bin .lss (T 34) (T 36)), P 32 (.asg (T 37) none)] false) (.cond (T 32) (.seq (.reg [P 38 (.fldA 2 (T 5)), P 39 (.ld 1 false (T 38)), M 40 1, P 41 (.bin .add (T 40) (C 1)), ⟨(some 42), (.bldS 1 3 (.int .i64 0) 2 [⟨0, (T 39)⟩, ⟨1, (T 41)⟩]), none, []⟩, ⟨(some 4), (.asg (T 42) (some ⟨1, 3⟩)), none, []⟩] false) .ret) (.seq (.reg [P 44 (.fldA 2 (T 5)), P 45 (.ld 1 false (T 44)), M 46 1, P 47 (.bin .add (T 46) (C 1)), P 48 (.bin .gtr (T 45) (T 47)), P 43 (.asg (T 48) none)] false) (.cond (T 43) (.seq (.reg [M 49 1, P 50 (.bin .add (T 49) (C 1)), P 51 (.fldA 2 (T 5)), P 52 (.ld 1 false (T 51)), ⟨(some 53), (.bldS 1 3 (.int .i64 0) 2 [⟨0, (T 50)⟩, ⟨1, (T 52)⟩]), none, []⟩, ⟨(some 4), (.asg (T 53) (some ⟨1, 3⟩)), none, []⟩] false) .ret) .skip))))) .skip)))))))) (.seq (.reg [M 54 1, P 55 (.bin .add (T 54) (C 1)), ⟨(some 56), (.bldS 1 3 (.int .i64 0) 1 [⟨0, (T 55)⟩]), none, []⟩, ⟨(some 4), (.asg (T 56) (some ⟨1, 3⟩)), none, []⟩] false) .ret)))))
theorem dc60_c : (Tryd.f60.body.bind (cCode Tryd.prog Tryd.f60.ntmps)) = some dc60 := by kernel_rfl
theorem dc60_r : Tryd.f60.results.toList.mapM (cRes Tryd.prog) = some [(.t 4)] := by kernel_rfl
def ref13_Next_enc (a : TFunc × Int) : List D := [eFunc a.1, .int .i64 a.2]
def ref13_Next_dec (ds : List D) : TFunc × Int := (uFunc (ds.getD 0 .top), uI (ds.getD 1 .top))
theorem ref13_Next_de (a : TFunc × Int) : ref13_Next_dec (ref13_Next_enc a) = a := by simp [ref13_Next_dec, ref13_Next_enc, uI]
def ref13_Next_R (b : (List Int)) : D := .sl (b.map eI64)
def ref13_Next_E (_b : (List Int)) : List D := []
noncomputable def ref13_Next_S : Dw.Spec := fSpec [] (.row 1 3) ref13_Next_enc ref13_Next_dec (fun a => ref13_Next a.1 a.2) ref13_Next_R ref13_Next_E
set_option maxHeartbeats 4000000 in
theorem ref13_Next_ok : SpecOk Tryd.prog 60 ref13_Next_S := by
 refine fn_ok (specs_nil) Tryd.func60 (by decide) dc60_c dc60_r (np := 2) (by decide) ref13_Next_de (fun _ => rfl) (fun _ => rfl) (by decide) <| ?_
 rintro ⟨f1, k2⟩
 show TrE (specs []) dc60 (kRet [] (.row 1 3) [(.t 4)] ref13_Next_R ref13_Next_E) ⟨[(0, .agg [.int .i64 f1.Params, .sl (f1.Slots.map eSlot), .sl (f1.Code.map eInstr)]), (1, .int .i64 k2)], [], 262144⟩ (ref13_Next f1 k2)
 refine tr_ent <| ?_
 unfold dc60 ref13_Next
 refine sQ <| rG <| bX rfl rfl rfl rfl rfl <| aN (α := Int) rfl eI64 rfl <| nI <| xS <| sC (E := fun (s : Unit) (g : Nat) => [(1, .int .i64 k2), (2, .optr 2 g 0 0)]) (O := fun s g => [(2, some (g, ⟨false, true, 3, 27, [.agg [.int .i64 f1.Params, .sl (f1.Slots.map eSlot), .sl (f1.Code.map eInstr)]]⟩))]) (j := fun s => ref13_Next_j1 f1 k2) ?_ ?_
 ·refine sQ <| rG <| mV rfl rfl <| bN (v := .bool (decide (k2 < 0))) rfl rfl rfl rfl rfl <| mV rfl rfl <| sP 8 (b := (decide (k2 < 0))) rfl ?_ ?_
  ·refine oF rfl <| oF rfl <| oF rfl <| oF rfl <| oF rfl <| pT rfl rfl rfl rfl <| nI <| xS <| tr_cond_true rfl <| sQ <| rG <| aN (α := Int) rfl eI64 rfl <| nI <| xS <| rT <| zR <| ret_row (b := ([] : List Int)) rfl ?_ rfl rfl ?_ rfl ?_ (congrArg D.sl (take_len_map' _ _ rfl)) rfl
   all_goals first|(simp;done)|(simp;omega)|rfl|(simp [isFro,isFro0];done)
  ·refine mV rfl rfl <| fA rfl rfl <| lO (v := .sl (f1.Code.map eInstr)) (z := .agg [.int .i64 f1.Params, .sl (f1.Slots.map eSlot), .sl (f1.Code.map eInstr)]) rfl rfl rfl rfl rfl rfl <| lS rfl rfl <| bN (v := .bool (decide (k2 ≥ (f1.Code.length : Int)))) rfl rfl rfl rfl rfl <| pF rfl rfl rfl rfl <| nI <| xS <| cD (c := (decide (k2 ≥ (f1.Code.length : Int)))) rfl ?_ ?_
   ·refine sQ <| rG <| aN (α := Int) rfl eI64 rfl <| nI <| xS <| rT <| zR <| ret_row (b := ([] : List Int)) rfl ?_ rfl rfl ?_ rfl ?_ (congrArg D.sl (take_len_map' _ _ rfl)) rfl
    all_goals first|(simp;done)|(simp;omega)|rfl|(simp [isFro,isFro0];done)
   ·exact sK <| xC (s := ()) _ ((hE ⟨rfl, rfl, trivial⟩ ⟨rfl, trivial⟩))
 ·rintro ⟨⟩ v2x1 nn
  try dsimp only
  unfold ref13_Next_j1
  refine sQ <| rG <| fA rfl rfl <| lO (v := .sl (f1.Code.map eInstr)) (z := .agg [.int .i64 f1.Params, .sl (f1.Slots.map eSlot), .sl (f1.Code.map eInstr)]) rfl rfl rfl rfl rfl rfl <| mV rfl rfl <| bD fun x_x3 hx_x3 => iS (en := eInstr) rfl rfl rfl hx_x3 rfl <| lF (v := .agg [.int .i64 x_x3.Op, .int .i64 x_x3.A, .int .i64 x_x3.B, .int .i64 x_x3.C, .int .u64 x_x3.Imm]) rfl rfl rfl rfl <| nW rfl <| sV (z' := .agg [.int .i64 x_x3.Op, .int .i64 x_x3.A, .int .i64 x_x3.B, .int .i64 x_x3.C, .int .u64 x_x3.Imm]) rfl rfl rfl rfl rfl rfl rfl rfl rfl <| nI <| xS <| sQ <| sQ <| rG <| fA rfl rfl <| lO (v := .int .i64 x_x3.Op) (z := .agg [.int .i64 x_x3.Op, .int .i64 x_x3.A, .int .i64 x_x3.B, .int .i64 x_x3.C, .int .u64 x_x3.Imm]) rfl rfl rfl rfl rfl rfl <| nI <| xS <| bK <| sQ <| rG <| bN (v := .bool (x_x3.Op == 20)) rfl rfl rfl rfl rfl <| aS rfl rfl <| nI <| xS <| cD (c := (x_x3.Op == 20)) rfl ?_ ?_
  ·refine sQ <| rG <| fA rfl rfl <| lO (v := .int .i64 x_x3.A) (z := .agg [.int .i64 x_x3.Op, .int .i64 x_x3.A, .int .i64 x_x3.B, .int .i64 x_x3.C, .int .u64 x_x3.Imm]) rfl rfl rfl rfl rfl rfl <| bS ([x_x3.A] : List Int) eI64 rfl rfl rfl (by simp) rfl rfl rfl <| aO (l := ([x_x3.A] : List Int)) (en := eI64) rfl rfl rfl rfl <| nI <| xS <| rT <| bR <| xR <| ret_row (b := ([x_x3.A] : List Int)) rfl ?_ rfl rfl ?_ rfl ?_ (congrArg D.sl (take_len_map' _ _ rfl)) rfl
   all_goals first|(simp;done)|(simp;omega)|rfl|(simp [isFro,isFro0];done)
  ·refine sC (E := fun (s : Bool) (g : Nat) => [(1, .int .i64 k2), (5, .optr 5 g 0 0), (21, .int .i64 x_x3.Op), (27, .bool s)]) (O := fun s g => [(5, some (g, ⟨false, true, 5, 66, [.agg [.int .i64 x_x3.Op, .int .i64 x_x3.A, .int .i64 x_x3.B, .int .i64 x_x3.C, .int .u64 x_x3.Imm]]⟩))]) (j := fun s => ref13_Next_j2 x_x3 k2 s) ?_ ?_
   ·refine sQ <| rG <| bN (v := .bool (x_x3.Op == 23)) rfl rfl rfl rfl rfl <| aS rfl rfl <| nI <| xS <| cD (c := (x_x3.Op == 23)) rfl ?_ ?_
    ·exact sK <| xC (s := (x_x3.Op == 23)) _ ((hE ⟨rfl, rfl, rfl, rfl, trivial⟩ ⟨rfl, trivial⟩))
    ·exact rG <| bN (v := .bool (x_x3.Op == 24)) rfl rfl rfl rfl rfl <| aS rfl rfl <| nI <| xC (s := (x_x3.Op == 24)) _ ((hE ⟨rfl, rfl, rfl, rfl, trivial⟩ ⟨rfl, trivial⟩))
   ·rintro x4 v5x2 nn
    try dsimp only
    unfold ref13_Next_j2
    refine cD (c := x4) rfl ?_ ?_
    ·refine sQ <| rG <| aN (α := Int) rfl eI64 rfl <| nI <| xS <| rT <| bR <| xR <| ret_row (b := ([] : List Int)) rfl ?_ rfl rfl ?_ rfl ?_ (congrArg D.sl (take_len_map' _ _ rfl)) rfl
     all_goals first|(simp;done)|(simp;omega)|rfl|(simp [isFro,isFro0];done)
    ·refine sQ <| rG <| bN (v := .bool (x_x3.Op == 21)) rfl rfl rfl rfl rfl <| aS rfl rfl <| nI <| xS <| cD (c := (x_x3.Op == 21)) rfl ?_ ?_
     ·refine bK <| sQ <| rG <| fA rfl rfl <| lO (v := .int .i64 x_x3.B) (z := .agg [.int .i64 x_x3.Op, .int .i64 x_x3.A, .int .i64 x_x3.B, .int .i64 x_x3.C, .int .u64 x_x3.Imm]) rfl rfl rfl rfl rfl rfl <| mV rfl rfl <| bN (v := .int .i64 (IntKind.i64.wrap (k2 + 1))) rfl rfl rfl rfl rfl <| bN (v := .bool (decide (x_x3.B < (IntKind.i64.wrap (k2 + 1))))) rfl rfl rfl rfl rfl <| aS rfl rfl <| nI <| xS <| cD (c := (decide (x_x3.B < (IntKind.i64.wrap (k2 + 1))))) rfl ?_ ?_
      ·refine sQ <| rG <| fA rfl rfl <| lO (v := .int .i64 x_x3.B) (z := .agg [.int .i64 x_x3.Op, .int .i64 x_x3.A, .int .i64 x_x3.B, .int .i64 x_x3.C, .int .u64 x_x3.Imm]) rfl rfl rfl rfl rfl rfl <| mV rfl rfl <| bN (v := .int .i64 (IntKind.i64.wrap (k2 + 1))) rfl rfl rfl rfl rfl <| bS ([x_x3.B, IntKind.i64.wrap (k2 + 1)] : List Int) eI64 rfl rfl rfl (by simp) rfl rfl rfl <| aO (l := ([x_x3.B, IntKind.i64.wrap (k2 + 1)] : List Int)) (en := eI64) rfl rfl rfl rfl <| nI <| xS <| rT <| bR <| bR <| xR <| ret_row (b := ([x_x3.B, IntKind.i64.wrap (k2 + 1)] : List Int)) rfl ?_ rfl rfl ?_ rfl ?_ (congrArg D.sl (take_len_map' _ _ rfl)) rfl
       all_goals first|(simp;done)|(simp;omega)|rfl|(simp [isFro,isFro0];done)
      ·refine sQ <| rG <| fA rfl rfl <| lO (v := .int .i64 x_x3.B) (z := .agg [.int .i64 x_x3.Op, .int .i64 x_x3.A, .int .i64 x_x3.B, .int .i64 x_x3.C, .int .u64 x_x3.Imm]) rfl rfl rfl rfl rfl rfl <| mV rfl rfl <| bN (v := .int .i64 (IntKind.i64.wrap (k2 + 1))) rfl rfl rfl rfl rfl <| bN (v := .bool (decide (x_x3.B > (IntKind.i64.wrap (k2 + 1))))) rfl rfl rfl rfl rfl <| aS rfl rfl <| nI <| xS <| cD (c := (decide (x_x3.B > (IntKind.i64.wrap (k2 + 1))))) rfl ?_ ?_
       ·refine sQ <| rG <| mV rfl rfl <| bN (v := .int .i64 (IntKind.i64.wrap (k2 + 1))) rfl rfl rfl rfl rfl <| fA rfl rfl <| lO (v := .int .i64 x_x3.B) (z := .agg [.int .i64 x_x3.Op, .int .i64 x_x3.A, .int .i64 x_x3.B, .int .i64 x_x3.C, .int .u64 x_x3.Imm]) rfl rfl rfl rfl rfl rfl <| bS ([IntKind.i64.wrap (k2 + 1), x_x3.B] : List Int) eI64 rfl rfl rfl (by simp) rfl rfl rfl <| aO (l := ([IntKind.i64.wrap (k2 + 1), x_x3.B] : List Int)) (en := eI64) rfl rfl rfl rfl <| nI <| xS <| rT <| bR <| bR <| xR <| ret_row (b := ([IntKind.i64.wrap (k2 + 1), x_x3.B] : List Int)) rfl ?_ rfl rfl ?_ rfl ?_ (congrArg D.sl (take_len_map' _ _ rfl)) rfl
        all_goals first|(simp;done)|(simp;omega)|rfl|(simp [isFro,isFro0];done)
       ·refine sK <| bM <| bM <| xS <| sQ <| rG <| mV rfl rfl <| bN (v := .int .i64 (IntKind.i64.wrap (k2 + 1))) rfl rfl rfl rfl rfl <| bS ([IntKind.i64.wrap (k2 + 1)] : List Int) eI64 rfl rfl rfl (by simp) rfl rfl rfl <| aO (l := ([IntKind.i64.wrap (k2 + 1)] : List Int)) (en := eI64) rfl rfl rfl rfl <| nI <| xS <| rT <| ret_row (b := ([IntKind.i64.wrap (k2 + 1)] : List Int)) rfl ?_ rfl rfl ?_ rfl ?_ (congrArg D.sl (take_len_map' _ _ rfl)) rfl
        all_goals first|(simp;done)|(simp;omega)|rfl|(simp [isFro,isFro0];done)
     ·refine sK <| bM <| xS <| sQ <| rG <| mV rfl rfl <| bN (v := .int .i64 (IntKind.i64.wrap (k2 + 1))) rfl rfl rfl rfl rfl <| bS ([IntKind.i64.wrap (k2 + 1)] : List Int) eI64 rfl rfl rfl (by simp) rfl rfl rfl <| aO (l := ([IntKind.i64.wrap (k2 + 1)] : List Int)) (en := eI64) rfl rfl rfl rfl <| nI <| xS <| rT <| ret_row (b := ([IntKind.i64.wrap (k2 + 1)] : List Int)) rfl ?_ rfl rfl ?_ rfl ?_ (congrArg D.sl (take_len_map' _ _ rfl)) rfl
      all_goals first|(simp;done)|(simp;omega)|rfl|(simp [isFro,isFro0];done)

def dc89 : DCode := (.seq (.reg [P 1 (.box (T 0) 5 66), P 2 (.asg (.c (.bool false)) none)] false) (.seq (.reg [P 3 (.fldA 0 (T 1)), P 4 (.ld 1 false (T 3)), P 5 (.bin .eql (T 4) (C 16)), M 6 5, ⟨(some 7), (.fldA 0 (T 1)), (some ⟨6, false⟩), []⟩, ⟨(some 8), (.ld 1 false (T 7)), (some ⟨6, false⟩), []⟩, ⟨(some 9), (.bin .eql (T 8) (C 17)), (some ⟨6, false⟩), []⟩, P 10 (.pick (T 6) (.c (.bool true)) (T 9)), P 2 (.asg (T 10) none)] false) .ret))
theorem dc89_c : (Tryd.f89.body.bind (cCode Tryd.prog Tryd.f89.ntmps)) = some dc89 := by kernel_rfl
theorem dc89_r : Tryd.f89.results.toList.mapM (cRes Tryd.prog) = some [(.t 2)] := by kernel_rfl
def ref15_Removable_enc (a : TInstr) : List D := [eInstr a]
def ref15_Removable_dec (ds : List D) : TInstr := uInstr (ds.getD 0 .top)
theorem ref15_Removable_de (a : TInstr) : ref15_Removable_dec (ref15_Removable_enc a) = a := by simp [ref15_Removable_dec, ref15_Removable_enc]
def ref15_Removable_R (b : Bool) : D := .bool b
def ref15_Removable_E (_b : Bool) : List D := []
noncomputable def ref15_Removable_S : Dw.Spec := fSpec [] .ground ref15_Removable_enc ref15_Removable_dec (fun a => ref15_Removable a) ref15_Removable_R ref15_Removable_E
set_option maxHeartbeats 4000000 in
theorem ref15_Removable_ok : SpecOk Tryd.prog 89 ref15_Removable_S := by
 refine fn_ok (specs_nil) Tryd.func89 (by decide) dc89_c dc89_r (np := 1) (by decide) ref15_Removable_de (fun _ => rfl) (fun _ => rfl) (by decide) <| ?_
 intro x1
 show TrE (specs []) dc89 (kRet [] .ground [(.t 2)] ref15_Removable_R ref15_Removable_E) ⟨[(0, .agg [.int .i64 x1.Op, .int .i64 x1.A, .int .i64 x1.B, .int .i64 x1.C, .int .u64 x1.Imm])], [], 262144⟩ (ref15_Removable x1)
 refine tr_ent <| ?_
 unfold dc89 ref15_Removable
 refine sQ <| rG <| bX rfl rfl rfl rfl rfl <| aS rfl rfl <| nI <| xS <| sQ <| rG <| fA rfl rfl <| lO (v := .int .i64 x1.Op) (z := .agg [.int .i64 x1.Op, .int .i64 x1.A, .int .i64 x1.B, .int .i64 x1.C, .int .u64 x1.Imm]) rfl rfl rfl rfl rfl rfl <| bN (v := .bool (x1.Op == 16)) rfl rfl rfl rfl rfl <| mV rfl rfl <| sP 6 (b := (x1.Op == 16)) rfl ?_ ?_
 ·refine oF rfl <| oF rfl <| oF rfl <| pT rfl rfl rfl rfl <| aS rfl rfl <| nI <| xS <| rT <| ret_ground (b := true) rfl ?_ rfl rfl ?_ rfl
  all_goals first|(simp;done)|(simp;omega)|rfl|(simp [isFro,isFro0];done)
 ·refine fA rfl rfl <| lO (v := .int .i64 x1.Op) (z := .agg [.int .i64 x1.Op, .int .i64 x1.A, .int .i64 x1.B, .int .i64 x1.C, .int .u64 x1.Imm]) rfl rfl rfl rfl rfl rfl <| bN (v := .bool (x1.Op == 17)) rfl rfl rfl rfl rfl <| pF rfl rfl rfl rfl <| aS rfl rfl <| nI <| xS <| rT <| ret_ground (b := (x1.Op == 17)) rfl ?_ rfl rfl ?_ rfl
  all_goals first|(simp;done)|(simp;omega)|rfl|(simp [isFro,isFro0];done)

def dc62 : DCode := (.seq (.reg [P 1 (.box (T 0) 5 66), P 2 (.asg (C 0) none), P 3 (.asg (.c (.bool false)) none)] false) (.seq (.seq (.reg [P 4 (.ld 5 true (T 1)), P 5 (.call (.c (.clo 89 [])) [(T 4)])] false) (.cond (T 5) (.seq (.reg [P 6 (.fldA 1 (T 1)), P 7 (.ld 1 false (T 6)), P 2 (.asg (T 7) none), P 3 (.asg (.c (.bool true)) none)] false) .ret) .skip)) (.seq (.reg [P 2 (.asg (C 0) none), P 3 (.asg (.c (.bool false)) none)] false) .ret)))
theorem dc62_c : (Tryd.f62.body.bind (cCode Tryd.prog Tryd.f62.ntmps)) = some dc62 := by kernel_rfl
theorem dc62_r : Tryd.f62.results.toList.mapM (cRes Tryd.prog) = some [(.t 2), (.t 3)] := by kernel_rfl
def ref15_Defines_enc (a : TInstr) : List D := [eInstr a]
def ref15_Defines_dec (ds : List D) : TInstr := uInstr (ds.getD 0 .top)
theorem ref15_Defines_de (a : TInstr) : ref15_Defines_dec (ref15_Defines_enc a) = a := by simp [ref15_Defines_dec, ref15_Defines_enc]
def ref15_Defines_R (b : Int × Bool) : D := .tup [.int .i64 b.1, .bool b.2]
def ref15_Defines_E (_b : Int × Bool) : List D := []
noncomputable def ref15_Defines_S : Dw.Spec := fSpec [] .ground ref15_Defines_enc ref15_Defines_dec (fun a => ref15_Defines a) ref15_Defines_R ref15_Defines_E
set_option maxHeartbeats 4000000 in
theorem ref15_Defines_ok : SpecOk Tryd.prog 62 ref15_Defines_S := by
 refine fn_ok (specs_ok (l := [(89, ref15_Removable_S)]) (by simp [ref15_Removable_ok])) Tryd.func62 (by decide) dc62_c dc62_r (np := 1) (by decide) ref15_Defines_de (fun _ => rfl) (fun _ => rfl) (by decide) <| ?_
 intro x1
 show TrE (specs [(89, ref15_Removable_S)]) dc62 (kRet [] .ground [(.t 2), (.t 3)] ref15_Defines_R ref15_Defines_E) ⟨[(0, .agg [.int .i64 x1.Op, .int .i64 x1.A, .int .i64 x1.B, .int .i64 x1.C, .int .u64 x1.Imm])], [], 262144⟩ (ref15_Defines x1)
 refine tr_ent <| ?_
 unfold dc62 ref15_Defines
 refine sQ <| rG <| bX rfl rfl rfl rfl rfl <| aS rfl rfl <| aS rfl rfl <| nI <| xS <| sQ <| sQ <| rG <| lO (v := .agg [.int .i64 x1.Op, .int .i64 x1.A, .int .i64 x1.B, .int .i64 x1.C, .int .u64 x1.Imm]) (z := .agg [.int .i64 x1.Op, .int .i64 x1.A, .int .i64 x1.B, .int .i64 x1.C, .int .u64 x1.Imm]) rfl rfl rfl rfl rfl rfl <| bD fun r2 hr2 => cG x1 rfl rfl rfl ref15_Removable_de rfl rfl (by simp) rfl hr2 rfl <| nI <| xS <| cD (c := r2) rfl ?_ ?_
 ·refine sQ <| rG <| fA rfl rfl <| lO (v := .int .i64 x1.A) (z := .agg [.int .i64 x1.Op, .int .i64 x1.A, .int .i64 x1.B, .int .i64 x1.C, .int .u64 x1.Imm]) rfl rfl rfl rfl rfl rfl <| aS rfl rfl <| aS rfl rfl <| nI <| xS <| rT <| xR <| ret_tup_ground (b := (x1.A, true)) rfl ?_ rfl rfl ?_ rfl (by decide)
  all_goals first|(simp;done)|(simp;omega)|rfl|(simp [isFro,isFro0];done)
 ·refine sK <| xS <| sQ <| rG <| aS rfl rfl <| aS rfl rfl <| nI <| xS <| rT <| ret_tup_ground (b := (0, false)) rfl ?_ rfl rfl ?_ rfl (by decide)
  all_goals first|(simp;done)|(simp;omega)|rfl|(simp [isFro,isFro0];done)

def dc29 : DCode := (.seq (.reg [⟨(some 4), (.asg (.c .nils) (some ⟨1, 3⟩)), none, []⟩] false) (.seq (.reg [⟨(some 5), (.asg (.c .nils) (some ⟨1, 3⟩)), none, []⟩] false) (.seq (.seq (.reg [P 6 (.asg (C 0) none)] false) (.block 0 (.loop (.seq (.seq (.reg [M 7 6, M 8 0, P 9 (.len false (T 8)), P 10 (.bin .lss (T 7) (T 9))] false) (.cond (T 10) .skip (.exit 0))) (.seq (.block 1 (.seq (.reg [M 13 0, M 14 6, P 15 (.ixA 1 (T 13) (T 14)), P 16 (.ld 1 false (T 15)), M 17 1, P 18 (.bin .neq (T 16) (T 17))] false) (.cond (T 18) (.reg [M 19 5, M 20 0, M 21 6, P 22 (.ixA 1 (T 20) (T 21)), P 23 (.ld 1 false (T 22)), ⟨(some 24), (.bldS 1 3 (.int .i64 0) 1 [⟨0, (T 23)⟩]), none, []⟩, P 25 (.app 1 3 8 (T 19) (T 24)), ⟨(some 5), (.asg (T 25) (some ⟨1, 3⟩)), none, []⟩] false) .skip))) (.reg [M 11 6, P 12 (.bin .add (T 11) (C 1)), P 6 (.asg (T 12) none)] false)))))) (.seq (.reg [M 26 5, ⟨(some 4), (.asg (T 26) (some ⟨1, 3⟩)), none, []⟩] false) .ret))))
theorem dc29_c : (Tryd.f29.body.bind (cCode Tryd.prog Tryd.f29.ntmps)) = some dc29 := by kernel_rfl
theorem dc29_r : Tryd.f29.results.toList.mapM (cRes Tryd.prog) = some [(.t 4)] := by kernel_rfl
def ref04_Remove_enc (a : (List Int) × Int) : List D := [.sl (a.1.map eI64), .int .i64 a.2]
def ref04_Remove_dec (ds : List D) : (List Int) × Int := ((uL uI) (ds.getD 0 .top), uI (ds.getD 1 .top))
theorem ref04_Remove_de (a : (List Int) × Int) : ref04_Remove_dec (ref04_Remove_enc a) = a := by simp [ref04_Remove_dec, ref04_Remove_enc, uI, uL_e (u := uI) (en := eI64) (fun _ => rfl)]
def ref04_Remove_R (b : (List Int)) : D := .sl (b.map eI64)
def ref04_Remove_E (_b : (List Int)) : List D := []
noncomputable def ref04_Remove_S : Dw.Spec := fSpec [] (.row 1 3) ref04_Remove_enc ref04_Remove_dec (fun a => ref04_Remove a.1 a.2) ref04_Remove_R ref04_Remove_E
set_option maxHeartbeats 4000000 in
theorem ref04_Remove_ok : SpecOk Tryd.prog 29 ref04_Remove_S := by
 refine fn_ok (specs_nil) Tryd.func29 (by decide) dc29_c dc29_r (np := 2) (by decide) ref04_Remove_de (fun _ => rfl) (fun _ => rfl) (by decide) <| ?_
 rintro ⟨s1, n2⟩
 show TrE (specs []) dc29 (kRet [] (.row 1 3) [(.t 4)] ref04_Remove_R ref04_Remove_E) ⟨[(0, .sl (s1.map eI64)), (1, .int .i64 n2)], [], 262144⟩ (ref04_Remove s1 n2)
 refine tr_ent <| ?_
 unfold dc29 ref04_Remove
 refine sQ <| rG <| aN (α := Int) rfl eI64 rfl <| nI <| xS <| sQ <| rG <| aN (α := Int) rfl eI64 rfl <| nI <| xS <| sQ <| sQ <| rG <| aS rfl rfl <| nI <| xS <| bK <| lP (E := fun (s : (List Int) × Int) (g : Nat) => [(0, .sl (s1.map eI64)), (1, .int .i64 n2), (5, .osl 5 g 0 s.1.length), (6, .int .i64 s.2)]) (O := fun s g => [(5, some (g, ⟨false, false, 1, 3, s.1.map eI64⟩))]) (body := fun s => ref04_Remove_b1 s1 n2 s.1 s.2) (s := (([] : List Int), 0)) _ ((hE ⟨rfl, rfl, rfl, rfl, trivial⟩ ⟨rfl, trivial⟩)) <| ?_
 rintro ⟨out3, i4⟩ v5x1 nn
 try dsimp only
 unfold ref04_Remove_b1
 refine sQ <| sQ <| rG <| mV rfl rfl <| mV rfl rfl <| lS rfl rfl <| bN (v := .bool (decide (i4 < (s1.length : Int)))) rfl rfl rfl rfl rfl <| nI <| xS <| cD (c := (decide (i4 < (s1.length : Int)))) rfl ?_ ?_
 ·refine sK <| xS <| sQ <| bK <| sQ <| rG <| mV rfl rfl <| mV rfl rfl <| bD fun x_x5 hx_x5 => iS (en := eI64) rfl rfl rfl hx_x5 rfl <| lF (v := .int .i64 x_x5) rfl rfl rfl rfl <| mV rfl rfl <| bN (v := .bool (x_x5 != n2)) rfl rfl rfl rfl rfl <| nI <| xS <| cD (c := (x_x5 != n2)) rfl ?_ ?_
  ·exact rG <| mV rfl rfl <| mV rfl rfl <| mV rfl rfl <| bD fun x_x6 hx_x6 => iS (en := eI64) rfl rfl rfl hx_x6 rfl <| lF (v := .int .i64 x_x6) rfl rfl rfl rfl <| bS ([x_x6] : List Int) eI64 rfl rfl rfl (by simp) rfl rfl rfl <| cK fun hq => aP (out3) (([x_x6] : List Int)) eI64 rfl rfl rfl rfl rfl rfl rfl (by simp) (take_drop0_map' _ _ rfl) rfl rfl (by simp) (take_len_map' _ _ rfl) (fun _ => rfl) rfl hq <| aO (l := out3 ++ ([x_x6] : List Int)) (en := eI64) rfl rfl rfl rfl <| nI <| bM <| xS <| rG <| mV rfl rfl <| bN (v := .int .i64 (IntKind.i64.wrap (i4 + 1))) rfl rfl rfl rfl rfl <| aS rfl rfl <| nI <| xL (s := (out3 ++ ([x_x6] : List Int), IntKind.i64.wrap (i4 + 1))) _ ((hE ⟨rfl, rfl, rfl, rfl, trivial⟩ ⟨rfl, trivial⟩))
  ·exact sK <| bM <| xS <| rG <| mV rfl rfl <| bN (v := .int .i64 (IntKind.i64.wrap (i4 + 1))) rfl rfl rfl rfl rfl <| aS rfl rfl <| nI <| xL (s := (out3, IntKind.i64.wrap (i4 + 1))) _ ((hE ⟨rfl, rfl, rfl, rfl, trivial⟩ ⟨rfl, trivial⟩))
 ·refine eT <| xE <| lE <| bH <| xS <| sQ <| rG <| mV rfl rfl <| aO (l := out3) (en := eI64) rfl rfl rfl rfl <| nI <| xS <| rT <| ret_row (b := out3) rfl ?_ rfl rfl ?_ rfl ?_ (congrArg D.sl (take_len_map' _ _ rfl)) rfl
  all_goals first|(simp;done)|(simp;omega)|rfl|(simp [isFro,isFro0];done)

def dc61 : DCode := (.seq (.reg [P 1 (.box (T 0) 5 66), ⟨(some 2), (.asg (.c .nils) (some ⟨1, 3⟩)), none, []⟩] false) (.seq (.seq (.reg [P 3 (.fldA 0 (T 1)), P 4 (.ld 1 false (T 3)), P 5 (.bin .eql (T 4) (C 15)), M 6 5, ⟨(some 7), (.fldA 0 (T 1)), (some ⟨6, false⟩), []⟩, ⟨(some 8), (.ld 1 false (T 7)), (some ⟨6, false⟩), []⟩, ⟨(some 9), (.bin .eql (T 8) (C 17)), (some ⟨6, false⟩), []⟩, P 10 (.pick (T 6) (.c (.bool true)) (T 9))] false) (.cond (T 10) (.seq (.reg [P 11 (.fldA 2 (T 1)), P 12 (.ld 1 false (T 11)), ⟨(some 13), (.bldS 1 3 (.int .i64 0) 1 [⟨0, (T 12)⟩]), none, []⟩, ⟨(some 2), (.asg (T 13) (some ⟨1, 3⟩)), none, []⟩] false) .ret) .skip)) (.seq (.reg [⟨(some 2), (.asg (.c .nils) (some ⟨1, 3⟩)), none, []⟩] false) .ret)))
theorem dc61_c : (Tryd.f61.body.bind (cCode Tryd.prog Tryd.f61.ntmps)) = some dc61 := by kernel_rfl
theorem dc61_r : Tryd.f61.results.toList.mapM (cRes Tryd.prog) = some [(.t 2)] := by kernel_rfl
def ref15_Uses_enc (a : TInstr) : List D := [eInstr a]
def ref15_Uses_dec (ds : List D) : TInstr := uInstr (ds.getD 0 .top)
theorem ref15_Uses_de (a : TInstr) : ref15_Uses_dec (ref15_Uses_enc a) = a := by simp [ref15_Uses_dec, ref15_Uses_enc]
def ref15_Uses_R (b : (List Int)) : D := .sl (b.map eI64)
def ref15_Uses_E (_b : (List Int)) : List D := []
noncomputable def ref15_Uses_S : Dw.Spec := fSpec [] (.row 1 3) ref15_Uses_enc ref15_Uses_dec (fun a => ref15_Uses a) ref15_Uses_R ref15_Uses_E
set_option maxHeartbeats 4000000 in
theorem ref15_Uses_ok : SpecOk Tryd.prog 61 ref15_Uses_S := by
 refine fn_ok (specs_nil) Tryd.func61 (by decide) dc61_c dc61_r (np := 1) (by decide) ref15_Uses_de (fun _ => rfl) (fun _ => rfl) (by decide) <| ?_
 intro x1
 show TrE (specs []) dc61 (kRet [] (.row 1 3) [(.t 2)] ref15_Uses_R ref15_Uses_E) ⟨[(0, .agg [.int .i64 x1.Op, .int .i64 x1.A, .int .i64 x1.B, .int .i64 x1.C, .int .u64 x1.Imm])], [], 262144⟩ (ref15_Uses x1)
 refine tr_ent <| ?_
 unfold dc61 ref15_Uses
 refine sQ <| rG <| bX rfl rfl rfl rfl rfl <| aN (α := Int) rfl eI64 rfl <| nI <| xS <| sQ <| sQ <| rG <| fA rfl rfl <| lO (v := .int .i64 x1.Op) (z := .agg [.int .i64 x1.Op, .int .i64 x1.A, .int .i64 x1.B, .int .i64 x1.C, .int .u64 x1.Imm]) rfl rfl rfl rfl rfl rfl <| bN (v := .bool (x1.Op == 15)) rfl rfl rfl rfl rfl <| mV rfl rfl <| sP 6 (b := (x1.Op == 15)) rfl ?_ ?_
 ·refine oF rfl <| oF rfl <| oF rfl <| pT rfl rfl rfl rfl <| nI <| xS <| tr_cond_true rfl <| sQ <| rG <| fA rfl rfl <| lO (v := .int .i64 x1.B) (z := .agg [.int .i64 x1.Op, .int .i64 x1.A, .int .i64 x1.B, .int .i64 x1.C, .int .u64 x1.Imm]) rfl rfl rfl rfl rfl rfl <| bS ([x1.B] : List Int) eI64 rfl rfl rfl (by simp) rfl rfl rfl <| aO (l := ([x1.B] : List Int)) (en := eI64) rfl rfl rfl rfl <| nI <| xS <| rT <| xR <| ret_row (b := ([x1.B] : List Int)) rfl ?_ rfl rfl ?_ rfl ?_ (congrArg D.sl (take_len_map' _ _ rfl)) rfl
  all_goals first|(simp;done)|(simp;omega)|rfl|(simp [isFro,isFro0];done)
 ·refine fA rfl rfl <| lO (v := .int .i64 x1.Op) (z := .agg [.int .i64 x1.Op, .int .i64 x1.A, .int .i64 x1.B, .int .i64 x1.C, .int .u64 x1.Imm]) rfl rfl rfl rfl rfl rfl <| bN (v := .bool (x1.Op == 17)) rfl rfl rfl rfl rfl <| pF rfl rfl rfl rfl <| nI <| xS <| cD (c := (x1.Op == 17)) rfl ?_ ?_
  ·refine sQ <| rG <| fA rfl rfl <| lO (v := .int .i64 x1.B) (z := .agg [.int .i64 x1.Op, .int .i64 x1.A, .int .i64 x1.B, .int .i64 x1.C, .int .u64 x1.Imm]) rfl rfl rfl rfl rfl rfl <| bS ([x1.B] : List Int) eI64 rfl rfl rfl (by simp) rfl rfl rfl <| aO (l := ([x1.B] : List Int)) (en := eI64) rfl rfl rfl rfl <| nI <| xS <| rT <| xR <| ret_row (b := ([x1.B] : List Int)) rfl ?_ rfl rfl ?_ rfl ?_ (congrArg D.sl (take_len_map' _ _ rfl)) rfl
   all_goals first|(simp;done)|(simp;omega)|rfl|(simp [isFro,isFro0];done)
  ·refine sK <| xS <| sQ <| rG <| aN (α := Int) rfl eI64 rfl <| nI <| xS <| rT <| ret_row (b := ([] : List Int)) rfl ?_ rfl rfl ?_ rfl ?_ (congrArg D.sl (take_len_map' _ _ rfl)) rfl
   all_goals first|(simp;done)|(simp;omega)|rfl|(simp [isFro,isFro0];done)

def dc80 : DCode := (.seq (.reg [P 2 (.asg (.c (.bool false)) none)] false) (.seq (.reg [M 3 0, P 4 (.bin .geq (T 3) (C 0)), M 5 4, ⟨(some 6), (.mv (T 0)), (some ⟨5, true⟩), []⟩, ⟨(some 7), (.bin .lss (T 6) (C 512)), (some ⟨5, true⟩), []⟩, P 8 (.pick (T 5) (T 7) (.c (.bool false))), P 2 (.asg (T 8) none)] false) .ret))
theorem dc80_c : (Tryd.f80.body.bind (cCode Tryd.prog Tryd.f80.ntmps)) = some dc80 := by kernel_rfl
theorem dc80_r : Tryd.f80.results.toList.mapM (cRes Tryd.prog) = some [(.t 2)] := by kernel_rfl
def ref04_good_enc (a : Int) : List D := [.int .i64 a]
def ref04_good_dec (ds : List D) : Int := uI (ds.getD 0 .top)
theorem ref04_good_de (a : Int) : ref04_good_dec (ref04_good_enc a) = a := by simp [ref04_good_dec, ref04_good_enc, uI]
def ref04_good_R (b : Bool) : D := .bool b
def ref04_good_E (_b : Bool) : List D := []
noncomputable def ref04_good_S : Dw.Spec := fSpec [] .ground ref04_good_enc ref04_good_dec (fun a => ref04_good a) ref04_good_R ref04_good_E
set_option maxHeartbeats 4000000 in
theorem ref04_good_ok : SpecOk Tryd.prog 80 ref04_good_S := by
 refine fn_ok (specs_nil) Tryd.func80 (by decide) dc80_c dc80_r (np := 1) (by decide) ref04_good_de (fun _ => rfl) (fun _ => rfl) (by decide) <| ?_
 intro n1
 show TrE (specs []) dc80 (kRet [] .ground [(.t 2)] ref04_good_R ref04_good_E) ⟨[(0, .int .i64 n1)], [], 262144⟩ (ref04_good n1)
 refine tr_ent <| ?_
 unfold dc80 ref04_good
 refine sQ <| rG <| aS rfl rfl <| nI <| xS <| sQ <| rG <| mV rfl rfl <| bN (v := .bool (decide (n1 ≥ 0))) rfl rfl rfl rfl rfl <| mV rfl rfl <| sP 5 (b := (decide (n1 ≥ 0))) rfl ?_ ?_
 ·refine mV rfl rfl <| bN (v := .bool (decide (n1 < 512))) rfl rfl rfl rfl rfl <| pT rfl rfl rfl rfl <| aS rfl rfl <| nI <| xS <| rT <| ret_ground (b := (decide (n1 < 512))) rfl ?_ rfl rfl ?_ rfl
  all_goals first|(simp;done)|(simp;omega)|rfl|(simp [isFro,isFro0];done)
 ·refine oF rfl <| oF rfl <| pF rfl rfl rfl rfl <| aS rfl rfl <| nI <| xS <| rT <| ret_ground (b := false) rfl ?_ rfl rfl ?_ rfl
  all_goals first|(simp;done)|(simp;omega)|rfl|(simp [isFro,isFro0];done)

def dc44 : DCode := (.seq (.reg [⟨(some 4), (.asg (.c .nils) (some ⟨1, 3⟩)), none, []⟩] false) (.seq (.reg [⟨(some 5), (.asg (.c .nils) (some ⟨1, 3⟩)), none, []⟩] false) (.seq (.reg [M 8 1, P 9 (.call (.c (.clo 80 [])) [(T 8)]), P 10 (.un .not (T 9)), P 6 (.asg (T 10) none)] false) (.seq (.seq (.reg [P 7 (.asg (C 0) none)] false) (.block 0 (.loop (.seq (.seq (.reg [M 11 7, M 12 0, P 13 (.len false (T 12)), P 14 (.bin .lss (T 11) (T 13))] false) (.cond (T 14) .skip (.exit 0))) (.seq (.block 1 (.seq (.seq (.reg [M 17 6, P 18 (.un .not (T 17)), M 19 18, ⟨(some 20), (.mv (T 0)), (some ⟨19, true⟩), []⟩, ⟨(some 21), (.mv (T 7)), (some ⟨19, true⟩), []⟩, ⟨(some 22), (.ixA 1 (T 20) (T 21)), (some ⟨19, true⟩), []⟩, ⟨(some 23), (.ld 1 false (T 22)), (some ⟨19, true⟩), []⟩, ⟨(some 24), (.mv (T 1)), (some ⟨19, true⟩), []⟩, ⟨(some 25), (.bin .geq (T 23) (T 24)), (some ⟨19, true⟩), []⟩, P 26 (.pick (T 19) (T 25) (.c (.bool false)))] false) (.cond (T 26) (.seq (.seq (.reg [M 27 0, M 28 7, P 29 (.ixA 1 (T 27) (T 28)), P 30 (.ld 1 false (T 29)), M 31 1, P 32 (.bin .gtr (T 30) (T 31))] false) (.cond (T 32) (.reg [M 33 5, M 34 1, ⟨(some 35), (.bldS 1 3 (.int .i64 0) 1 [⟨0, (T 34)⟩]), none, []⟩, P 36 (.app 1 3 8 (T 33) (T 35)), ⟨(some 5), (.asg (T 36) (some ⟨1, 3⟩)), none, []⟩] false) .skip)) (.reg [P 6 (.asg (.c (.bool true)) none)] false)) .skip)) (.reg [M 37 5, M 38 0, M 39 7, P 40 (.ixA 1 (T 38) (T 39)), P 41 (.ld 1 false (T 40)), ⟨(some 42), (.bldS 1 3 (.int .i64 0) 1 [⟨0, (T 41)⟩]), none, []⟩, P 43 (.app 1 3 8 (T 37) (T 42)), ⟨(some 5), (.asg (T 43) (some ⟨1, 3⟩)), none, []⟩] false))) (.reg [M 15 7, P 16 (.bin .add (T 15) (C 1)), P 7 (.asg (T 16) none)] false)))))) (.seq (.seq (.reg [M 44 6, P 45 (.un .not (T 44))] false) (.cond (T 45) (.reg [M 46 5, M 47 1, ⟨(some 48), (.bldS 1 3 (.int .i64 0) 1 [⟨0, (T 47)⟩]), none, []⟩, P 49 (.app 1 3 8 (T 46) (T 48)), ⟨(some 5), (.asg (T 49) (some ⟨1, 3⟩)), none, []⟩] false) .skip)) (.seq (.reg [M 50 5, ⟨(some 4), (.asg (T 50) (some ⟨1, 3⟩)), none, []⟩] false) .ret))))))
theorem dc44_c : (Tryd.f44.body.bind (cCode Tryd.prog Tryd.f44.ntmps)) = some dc44 := by kernel_rfl
theorem dc44_r : Tryd.f44.results.toList.mapM (cRes Tryd.prog) = some [(.t 4)] := by kernel_rfl
def ref04_Add_enc (a : (List Int) × Int) : List D := [.sl (a.1.map eI64), .int .i64 a.2]
def ref04_Add_dec (ds : List D) : (List Int) × Int := ((uL uI) (ds.getD 0 .top), uI (ds.getD 1 .top))
theorem ref04_Add_de (a : (List Int) × Int) : ref04_Add_dec (ref04_Add_enc a) = a := by simp [ref04_Add_dec, ref04_Add_enc, uI, uL_e (u := uI) (en := eI64) (fun _ => rfl)]
def ref04_Add_R (b : (List Int)) : D := .sl (b.map eI64)
def ref04_Add_E (_b : (List Int)) : List D := []
noncomputable def ref04_Add_S : Dw.Spec := fSpec [] (.row 1 3) ref04_Add_enc ref04_Add_dec (fun a => ref04_Add a.1 a.2) ref04_Add_R ref04_Add_E
set_option maxHeartbeats 4000000 in
theorem ref04_Add_ok : SpecOk Tryd.prog 44 ref04_Add_S := by
 refine fn_ok (specs_ok (l := [(80, ref04_good_S)]) (by simp [ref04_good_ok])) Tryd.func44 (by decide) dc44_c dc44_r (np := 2) (by decide) ref04_Add_de (fun _ => rfl) (fun _ => rfl) (by decide) <| ?_
 rintro ⟨s1, n2⟩
 show TrE (specs [(80, ref04_good_S)]) dc44 (kRet [] (.row 1 3) [(.t 4)] ref04_Add_R ref04_Add_E) ⟨[(0, .sl (s1.map eI64)), (1, .int .i64 n2)], [], 262144⟩ (ref04_Add s1 n2)
 refine tr_ent <| ?_
 unfold dc44 ref04_Add
 refine sQ <| rG <| aN (α := Int) rfl eI64 rfl <| nI <| xS <| sQ <| rG <| aN (α := Int) rfl eI64 rfl <| nI <| xS <| sQ <| rG <| mV rfl rfl <| bD fun r3 hr3 => cG n2 rfl rfl rfl ref04_good_de rfl rfl (by simp) rfl hr3 rfl <| uN (w := .bool (!r3)) rfl rfl rfl rfl trivial <| aS rfl rfl <| nI <| xS <| sQ <| sQ <| rG <| aS rfl rfl <| nI <| xS <| bK <| lP (E := fun (s : (List Int) × Bool × Int) (g : Nat) => [(0, .sl (s1.map eI64)), (1, .int .i64 n2), (5, .osl 5 g 0 s.1.length), (6, .bool s.2.1), (7, .int .i64 s.2.2)]) (O := fun s g => [(5, some (g, ⟨false, false, 1, 3, s.1.map eI64⟩))]) (body := fun s => ref04_Add_b1 s1 n2 s.1 s.2.1 s.2.2) (s := (([] : List Int), (!r3), 0)) _ ((hE ⟨rfl, rfl, rfl, rfl, rfl, trivial⟩ ⟨rfl, trivial⟩)) <| ?_
 rintro ⟨out4, done5, i6⟩ v5x1 nn
 try dsimp only
 unfold ref04_Add_b1
 refine sQ <| sQ <| rG <| mV rfl rfl <| mV rfl rfl <| lS rfl rfl <| bN (v := .bool (decide (i6 < (s1.length : Int)))) rfl rfl rfl rfl rfl <| nI <| xS <| cD (c := (decide (i6 < (s1.length : Int)))) rfl ?_ ?_
 ·refine sK <| xS <| sQ <| bK <| sC (E := fun (s : (List Int) × Bool) (g : Nat) => [(0, .sl (s1.map eI64)), (1, .int .i64 n2), (5, .osl 5 g 0 s.1.length), (6, .bool s.2), (7, .int .i64 i6)]) (O := fun s g => [(5, some (g, ⟨false, false, 1, 3, s.1.map eI64⟩))]) (j := fun s => ref04_Add_j2 s1 i6 s.1 s.2) ?_ ?_
  ·refine sC (E := fun (s : Bool) (g : Nat) => [(0, .sl (s1.map eI64)), (1, .int .i64 n2), (5, .osl 5 g 0 out4.length), (6, .bool done5), (7, .int .i64 i6), (26, .bool s)]) (O := fun s g => [(5, some (g, ⟨false, false, 1, 3, out4.map eI64⟩))]) (j := fun s => ref04_Add_j3 s1 i6 n2 out4 done5 s) ?_ ?_
   ·refine rG <| mV rfl rfl <| uN (w := .bool (!done5)) rfl rfl rfl rfl trivial <| mV rfl rfl <| sP 19 (b := (!done5)) rfl ?_ ?_
    ·exact mV rfl rfl <| mV rfl rfl <| bD fun x_x10 hx_x10 => iS (en := eI64) rfl rfl rfl hx_x10 rfl <| lF (v := .int .i64 x_x10) rfl rfl rfl rfl <| mV rfl rfl <| bN (v := .bool (decide (x_x10 ≥ n2))) rfl rfl rfl rfl rfl <| pT rfl rfl rfl rfl <| nI <| xC (s := (decide (x_x10 ≥ n2))) _ ((hE ⟨rfl, rfl, rfl, rfl, rfl, rfl, trivial⟩ ⟨rfl, trivial⟩))
    ·exact oF rfl <| oF rfl <| oF rfl <| oF rfl <| oF rfl <| oF rfl <| pF rfl rfl rfl rfl <| nI <| xC (s := false) _ ((hE ⟨rfl, rfl, rfl, rfl, rfl, rfl, trivial⟩ ⟨rfl, trivial⟩))
   ·rintro x9 v5x2 nn
    try dsimp only
    unfold ref04_Add_j3
    refine cD (c := x9) rfl ?_ ?_
    ·refine sQ <| sQ <| rG <| mV rfl rfl <| mV rfl rfl <| bD fun x_x11 hx_x11 => iS (en := eI64) rfl rfl rfl hx_x11 rfl <| lF (v := .int .i64 x_x11) rfl rfl rfl rfl <| mV rfl rfl <| bN (v := .bool (decide (x_x11 > n2))) rfl rfl rfl rfl rfl <| nI <| xS <| cD (c := (decide (x_x11 > n2))) rfl ?_ ?_
     ·exact rG <| mV rfl rfl <| mV rfl rfl <| bS ([n2] : List Int) eI64 rfl rfl rfl (by simp) rfl rfl rfl <| cK fun hq => aP (out4) (([n2] : List Int)) eI64 rfl rfl rfl rfl rfl rfl rfl (by simp) (take_drop0_map' _ _ rfl) rfl rfl (by simp) (take_len_map' _ _ rfl) (fun _ => rfl) rfl hq <| aO (l := out4 ++ ([n2] : List Int)) (en := eI64) rfl rfl rfl rfl <| nI <| xS <| rG <| aS rfl rfl <| nI <| xC (s := (out4 ++ ([n2] : List Int), true)) _ ((hE ⟨rfl, rfl, rfl, rfl, rfl, trivial⟩ ⟨rfl, trivial⟩))
     ·exact sK <| xS <| rG <| aS rfl rfl <| nI <| xC (s := (out4, true)) _ ((hE ⟨rfl, rfl, rfl, rfl, rfl, trivial⟩ ⟨rfl, trivial⟩))
    ·exact sK <| xC (s := (out4, done5)) _ ((hE ⟨rfl, rfl, rfl, rfl, rfl, trivial⟩ ⟨rfl, trivial⟩))
  ·rintro ⟨out7, done8⟩ v5x3 nn
   try dsimp only
   unfold ref04_Add_j2
   exact rG <| mV rfl rfl <| mV rfl rfl <| mV rfl rfl <| bD fun x_x12 hx_x12 => iS (en := eI64) rfl rfl rfl hx_x12 rfl <| lF (v := .int .i64 x_x12) rfl rfl rfl rfl <| bS ([x_x12] : List Int) eI64 rfl rfl rfl (by simp) rfl rfl rfl <| cK fun hq => aP (out7) (([x_x12] : List Int)) eI64 rfl rfl rfl rfl rfl rfl rfl (by simp) (take_drop0_map' _ _ rfl) rfl rfl (by simp) (take_len_map' _ _ rfl) (fun _ => rfl) rfl hq <| aO (l := out7 ++ ([x_x12] : List Int)) (en := eI64) rfl rfl rfl rfl <| nI <| bM <| xS <| rG <| mV rfl rfl <| bN (v := .int .i64 (IntKind.i64.wrap (i6 + 1))) rfl rfl rfl rfl rfl <| aS rfl rfl <| nI <| xL (s := (out7 ++ ([x_x12] : List Int), done8, IntKind.i64.wrap (i6 + 1))) _ ((hE ⟨rfl, rfl, rfl, rfl, rfl, trivial⟩ ⟨rfl, trivial⟩))
 ·refine eT <| xE <| lE <| bH <| xS <| sQ <| sQ <| rG <| mV rfl rfl <| uN (w := .bool (!done5)) rfl rfl rfl rfl trivial <| nI <| xS <| cD (c := (!done5)) rfl ?_ ?_
  ·refine rG <| mV rfl rfl <| mV rfl rfl <| bS ([n2] : List Int) eI64 rfl rfl rfl (by simp) rfl rfl rfl <| cK fun hq => aP (out4) (([n2] : List Int)) eI64 rfl rfl rfl rfl rfl rfl rfl (by simp) (take_drop0_map' _ _ rfl) rfl rfl (by simp) (take_len_map' _ _ rfl) (fun _ => rfl) rfl hq <| aO (l := out4 ++ ([n2] : List Int)) (en := eI64) rfl rfl rfl rfl <| nI <| xS <| sQ <| rG <| mV rfl rfl <| aO (l := out4 ++ ([n2] : List Int)) (en := eI64) rfl rfl rfl rfl <| nI <| xS <| rT <| ret_row (b := out4 ++ ([n2] : List Int)) rfl ?_ rfl rfl ?_ rfl ?_ (congrArg D.sl (take_len_map' _ _ rfl)) rfl
   all_goals first|(simp;done)|(simp;omega)|rfl|(simp [isFro,isFro0];done)
  ·refine sK <| xS <| sQ <| rG <| mV rfl rfl <| aO (l := out4) (en := eI64) rfl rfl rfl rfl <| nI <| xS <| rT <| ret_row (b := out4) rfl ?_ rfl rfl ?_ rfl ?_ (congrArg D.sl (take_len_map' _ _ rfl)) rfl
   all_goals first|(simp;done)|(simp;omega)|rfl|(simp [isFro,isFro0];done)

def dc27 : DCode := (.seq (.reg [⟨(some 4), (.asg (.c .nils) (some ⟨1, 3⟩)), none, []⟩] false) (.seq (.reg [M 7 0, P 8 (.app 1 3 8 (.c .nils) (T 7)), ⟨(some 5), (.asg (T 8) (some ⟨1, 3⟩)), none, []⟩] false) (.seq (.seq (.reg [P 6 (.asg (C 0) none)] false) (.block 0 (.loop (.seq (.seq (.reg [M 9 6, M 10 1, P 11 (.len false (T 10)), P 12 (.bin .lss (T 9) (T 11))] false) (.cond (T 12) .skip (.exit 0))) (.seq (.block 1 (.reg [M 15 5, M 16 1, M 17 6, P 18 (.ixA 1 (T 16) (T 17)), P 19 (.ld 1 false (T 18)), P 20 (.call (.c (.clo 44 [])) [(T 15), (T 19)]), ⟨(some 5), (.asg (T 20) (some ⟨1, 3⟩)), none, []⟩] false)) (.reg [M 13 6, P 14 (.bin .add (T 13) (C 1)), P 6 (.asg (T 14) none)] false)))))) (.seq (.reg [M 21 5, ⟨(some 4), (.asg (T 21) (some ⟨1, 3⟩)), none, []⟩] false) .ret))))
theorem dc27_c : (Tryd.f27.body.bind (cCode Tryd.prog Tryd.f27.ntmps)) = some dc27 := by kernel_rfl
theorem dc27_r : Tryd.f27.results.toList.mapM (cRes Tryd.prog) = some [(.t 4)] := by kernel_rfl
def ref04_Union_enc (a : (List Int) × (List Int)) : List D := [.sl (a.1.map eI64), .sl (a.2.map eI64)]
def ref04_Union_dec (ds : List D) : (List Int) × (List Int) := ((uL uI) (ds.getD 0 .top), (uL uI) (ds.getD 1 .top))
theorem ref04_Union_de (a : (List Int) × (List Int)) : ref04_Union_dec (ref04_Union_enc a) = a := by simp [ref04_Union_dec, ref04_Union_enc, uL_e (u := uI) (en := eI64) (fun _ => rfl)]
def ref04_Union_R (b : (List Int)) : D := .sl (b.map eI64)
def ref04_Union_E (_b : (List Int)) : List D := []
noncomputable def ref04_Union_S : Dw.Spec := fSpec [] (.row 1 3) ref04_Union_enc ref04_Union_dec (fun a => ref04_Union a.1 a.2) ref04_Union_R ref04_Union_E
set_option maxHeartbeats 4000000 in
theorem ref04_Union_ok : SpecOk Tryd.prog 27 ref04_Union_S := by
 refine fn_ok (specs_ok (l := [(44, ref04_Add_S)]) (by simp [ref04_Add_ok])) Tryd.func27 (by decide) dc27_c dc27_r (np := 2) (by decide) ref04_Union_de (fun _ => rfl) (fun _ => rfl) (by decide) <| ?_
 rintro ⟨a1, b2⟩
 show TrE (specs [(44, ref04_Add_S)]) dc27 (kRet [] (.row 1 3) [(.t 4)] ref04_Union_R ref04_Union_E) ⟨[(0, .sl (a1.map eI64)), (1, .sl (b2.map eI64))], [], 262144⟩ (ref04_Union a1 b2)
 refine tr_ent <| ?_
 unfold dc27 ref04_Union
 refine sQ <| rG <| aN (α := Int) rfl eI64 rfl <| nI <| xS <| sQ <| rG <| mV rfl rfl <| cK fun hq => aP (([] : List Int)) (a1) eI64 rfl rfl rfl rfl rfl rfl rfl (by simp) rfl rfl rfl (by simp) rfl (fun _ => rfl) rfl hq <| aO (l := ([] : List Int) ++ a1) (en := eI64) rfl rfl rfl rfl <| nI <| xS <| sQ <| sQ <| rG <| aS rfl rfl <| nI <| xS <| bK <| lP (E := fun (s : (List Int) × Int) (g : Nat) => [(1, .sl (b2.map eI64)), (5, .osl 5 g 0 s.1.length), (6, .int .i64 s.2)]) (O := fun s g => [(5, some (g, ⟨false, false, 1, 3, s.1.map eI64⟩))]) (body := fun s => ref04_Union_b1 b2 s.1 s.2) (s := (([] : List Int) ++ a1, 0)) _ ((hE ⟨rfl, rfl, rfl, trivial⟩ ⟨rfl, trivial⟩)) <| ?_
 rintro ⟨out3, i4⟩ v5x1 nn
 try dsimp only
 unfold ref04_Union_b1
 refine sQ <| sQ <| rG <| mV rfl rfl <| mV rfl rfl <| lS rfl rfl <| bN (v := .bool (decide (i4 < (b2.length : Int)))) rfl rfl rfl rfl rfl <| nI <| xS <| cD (c := (decide (i4 < (b2.length : Int)))) rfl ?_ ?_
 ·exact sK <| xS <| sQ <| bK <| rG <| mV rfl rfl <| mV rfl rfl <| mV rfl rfl <| bD fun x_x5 hx_x5 => iS (en := eI64) rfl rfl rfl hx_x5 rfl <| lF (v := .int .i64 x_x5) rfl rfl rfl rfl <| bD fun r6 hr6 => cR (l := r6) (en := eI64) (out3, x_x5) rfl rfl rfl ref04_Add_de rfl rfl (by simp) (by first | rfl | (simp only [take_drop0_map, take_sub_map]; rfl) | simp [ref04_Add_enc]) hr6 rfl <| aO (l := r6) (en := eI64) rfl rfl rfl rfl <| nI <| bM <| xS <| rG <| mV rfl rfl <| bN (v := .int .i64 (IntKind.i64.wrap (i4 + 1))) rfl rfl rfl rfl rfl <| aS rfl rfl <| nI <| xL (s := (r6, IntKind.i64.wrap (i4 + 1))) _ ((hE ⟨rfl, rfl, rfl, trivial⟩ ⟨rfl, trivial⟩))
 ·refine eT <| xE <| lE <| bH <| xS <| sQ <| rG <| mV rfl rfl <| aO (l := out3) (en := eI64) rfl rfl rfl rfl <| nI <| xS <| rT <| ret_row (b := out3) rfl ?_ rfl rfl ?_ rfl ?_ (congrArg D.sl (take_len_map' _ _ rfl)) rfl
  all_goals first|(simp;done)|(simp;omega)|rfl|(simp [isFro,isFro0];done)

def dc75 : DCode := (.seq (.reg [P 2 (.box (T 0) 5 66), ⟨(some 4), (.asg (.c .nils) (some ⟨1, 3⟩)), none, []⟩] false) (.seq (.seq (.reg [P 8 (.ld 5 true (T 2)), P 9 (.call (.c (.clo 62 [])) [(T 8)]), M 7 9, P 10 (.ext (T 7) 0), P 11 (.ext (T 7) 1), P 5 (.asg (T 10) none), P 6 (.asg (T 11) none)] false) (.seq (.reg [M 12 6] false) (.cond (T 12) (.reg [M 13 1, M 14 5, P 15 (.call (.c (.clo 29 [])) [(T 13), (T 14)]), ⟨(some 1), (.asg (T 15) (some ⟨1, 3⟩)), none, []⟩] false) .skip))) (.seq (.reg [M 16 1, P 17 (.ld 5 true (T 2)), P 18 (.call (.c (.clo 61 [])) [(T 17)]), P 19 (.call (.c (.clo 27 [])) [(T 16), (T 18)]), ⟨(some 4), (.asg (T 19) (some ⟨1, 3⟩)), none, []⟩] false) .ret)))
theorem dc75_c : (Tryd.f75.body.bind (cCode Tryd.prog Tryd.f75.ntmps)) = some dc75 := by kernel_rfl
theorem dc75_r : Tryd.f75.results.toList.mapM (cRes Tryd.prog) = some [(.t 4)] := by kernel_rfl
def ref15_In_enc (a : TInstr × (List Int)) : List D := [eInstr a.1, .sl (a.2.map eI64)]
def ref15_In_dec (ds : List D) : TInstr × (List Int) := (uInstr (ds.getD 0 .top), (uL uI) (ds.getD 1 .top))
theorem ref15_In_de (a : TInstr × (List Int)) : ref15_In_dec (ref15_In_enc a) = a := by simp [ref15_In_dec, ref15_In_enc, uL_e (u := uI) (en := eI64) (fun _ => rfl)]
def ref15_In_R (b : (List Int)) : D := .sl (b.map eI64)
def ref15_In_E (_b : (List Int)) : List D := []
noncomputable def ref15_In_S : Dw.Spec := fSpec [] (.row 1 3) ref15_In_enc ref15_In_dec (fun a => ref15_In a.1 a.2) ref15_In_R ref15_In_E
set_option maxHeartbeats 4000000 in
theorem ref15_In_ok : SpecOk Tryd.prog 75 ref15_In_S := by
 refine fn_ok (specs_ok (l := [(62, ref15_Defines_S), (29, ref04_Remove_S), (61, ref15_Uses_S), (27, ref04_Union_S)]) (by simp [ref15_Defines_ok, ref04_Remove_ok, ref15_Uses_ok, ref04_Union_ok])) Tryd.func75 (by decide) dc75_c dc75_r (np := 2) (by decide) ref15_In_de (fun _ => rfl) (fun _ => rfl) (by decide) <| ?_
 rintro ⟨x1, out2⟩
 show TrE (specs [(62, ref15_Defines_S), (29, ref04_Remove_S), (61, ref15_Uses_S), (27, ref04_Union_S)]) dc75 (kRet [] (.row 1 3) [(.t 4)] ref15_In_R ref15_In_E) ⟨[(0, .agg [.int .i64 x1.Op, .int .i64 x1.A, .int .i64 x1.B, .int .i64 x1.C, .int .u64 x1.Imm]), (1, .sl (out2.map eI64))], [], 262144⟩ (ref15_In x1 out2)
 refine tr_ent <| ?_
 unfold dc75 ref15_In
 refine sQ <| rG <| bX rfl rfl rfl rfl rfl <| aN (α := Int) rfl eI64 rfl <| nI <| xS <| sQ <| sQ <| rG <| lO (v := .agg [.int .i64 x1.Op, .int .i64 x1.A, .int .i64 x1.B, .int .i64 x1.C, .int .u64 x1.Imm]) (z := .agg [.int .i64 x1.Op, .int .i64 x1.A, .int .i64 x1.B, .int .i64 x1.C, .int .u64 x1.Imm]) rfl rfl rfl rfl rfl rfl <| bD fun r3 hr3 => cG x1 rfl rfl rfl ref15_Defines_de rfl rfl (by simp) rfl hr3 rfl <| mV rfl rfl <| eX (v := .int .i64 r3.1) rfl rfl rfl <| eX (v := .bool r3.2) rfl rfl rfl <| aS rfl rfl <| aS rfl rfl <| nI <| xS <| sQ <| rG <| mV rfl rfl <| nI <| xS <| cD (c := r3.2) rfl ?_ ?_
 ·refine rG <| mV rfl rfl <| mV rfl rfl <| bD fun r4 hr4 => cR (l := r4) (en := eI64) (out2, r3.1) rfl rfl rfl ref04_Remove_de rfl rfl (by simp) rfl hr4 rfl <| aO (l := r4) (en := eI64) rfl rfl rfl rfl <| nI <| xS <| sQ <| rG <| mV rfl rfl <| lO (v := .agg [.int .i64 x1.Op, .int .i64 x1.A, .int .i64 x1.B, .int .i64 x1.C, .int .u64 x1.Imm]) (z := .agg [.int .i64 x1.Op, .int .i64 x1.A, .int .i64 x1.B, .int .i64 x1.C, .int .u64 x1.Imm]) rfl rfl rfl rfl rfl rfl <| bD fun r5 hr5 => cR (l := r5) (en := eI64) x1 rfl rfl rfl ref15_Uses_de rfl rfl (by simp) rfl hr5 rfl <| bD fun r6 hr6 => cR (l := r6) (en := eI64) (r4, r5) rfl rfl rfl ref04_Union_de rfl rfl (by simp) (by first | rfl | (simp only [take_drop0_map, take_sub_map]; rfl) | simp [ref04_Union_enc]) hr6 rfl <| aO (l := r6) (en := eI64) rfl rfl rfl rfl <| nI <| xS <| rT <| ret_row (b := r6) rfl ?_ rfl rfl ?_ rfl ?_ (congrArg D.sl (take_len_map' _ _ rfl)) rfl
  all_goals first|(simp;done)|(simp;omega)|rfl|(simp [isFro,isFro0];done)
 ·refine sK <| xS <| sQ <| rG <| mV rfl rfl <| lO (v := .agg [.int .i64 x1.Op, .int .i64 x1.A, .int .i64 x1.B, .int .i64 x1.C, .int .u64 x1.Imm]) (z := .agg [.int .i64 x1.Op, .int .i64 x1.A, .int .i64 x1.B, .int .i64 x1.C, .int .u64 x1.Imm]) rfl rfl rfl rfl rfl rfl <| bD fun r7 hr7 => cR (l := r7) (en := eI64) x1 rfl rfl rfl ref15_Uses_de rfl rfl (by simp) rfl hr7 rfl <| bD fun r8 hr8 => cR (l := r8) (en := eI64) (out2, r7) rfl rfl rfl ref04_Union_de rfl rfl (by simp) (by first | rfl | (simp only [take_drop0_map, take_sub_map]; rfl) | simp [ref04_Union_enc]) hr8 rfl <| aO (l := r8) (en := eI64) rfl rfl rfl rfl <| nI <| xS <| rT <| ret_row (b := r8) rfl ?_ rfl rfl ?_ rfl ?_ (congrArg D.sl (take_len_map' _ _ rfl)) rfl
  all_goals first|(simp;done)|(simp;omega)|rfl|(simp [isFro,isFro0];done)

def dc38 : DCode := (.seq (.reg [P 2 (.box (T 0) 3 27), P 3 (.box (T 1) 1 30), P 4 (.new (.agg [.nils]) 1 30)] false) (.seq (.reg [P 10 (.fldA 2 (T 2)), P 11 (.ld 1 false (T 10)), P 12 (.len false (T 11)), P 13 (.mkS 1 36 24 .nils (T 12) (T 12)), ⟨(some 14), (.bld [.nils] [⟨0, ⟨1, (T 13)⟩⟩]), none, []⟩, P 5 (.new (.agg [.nils]) 1 30), ⟨none, (.st 1 (T 5) (T 14)), none, []⟩] false) (.seq (.seq (.reg [P 6 (.asg (C 0) none)] false) (.block 0 (.loop (.seq (.seq (.reg [M 15 6, P 16 (.fldA 2 (T 2)), P 17 (.ld 1 false (T 16)), P 18 (.len false (T 17)), P 19 (.bin .lss (T 15) (T 18))] false) (.cond (T 19) .skip (.exit 0))) (.seq (.block 1 (.seq (.reg [P 22 (.ld 3 true (T 2)), M 23 6, P 24 (.call (.c (.clo 60 [])) [(T 22), (T 23)]), ⟨(some 7), (.asg (T 24) (some ⟨1, 3⟩)), none, []⟩] false) (.seq (.reg [P 8 (.asg (C 0) none)] false) (.block 2 (.loop (.seq (.seq (.reg [M 25 8, M 26 7, P 27 (.len false (T 26)), P 28 (.bin .lss (T 25) (T 27))] false) (.cond (T 28) .skip (.exit 2))) (.seq (.block 3 (.seq (.reg [M 31 7, M 32 8, P 33 (.ixA 1 (T 31) (T 32)), P 34 (.ld 1 false (T 33)), P 9 (.asg (T 34) none)] false) (.reg [P 35 (.fldA 0 (T 5)), ⟨(some 36), (.ld 1 false (T 35)), none, [0]⟩, M 37 6, P 38 (.fldA 0 (T 5)), ⟨(some 39), (.ld 1 false (T 38)), none, [3]⟩, M 40 6, ⟨(some 41), (.ixA 1 (T 39) (T 40)), none, [4, 5]⟩, ⟨(some 42), (.ld 1 false (T 41)), none, [6]⟩, P 43 (.fldA 2 (T 2)), ⟨(some 44), (.ld 1 false (T 43)), none, [8]⟩, M 45 9, ⟨(some 46), (.ixA 5 (T 44) (T 45)), none, [9, 10]⟩, ⟨(some 47), (.ld 5 true (T 46)), none, [11]⟩, P 48 (.fldA 0 (T 3)), ⟨(some 49), (.ld 1 false (T 48)), none, [13]⟩, M 50 9, ⟨(some 51), (.ixA 1 (T 49) (T 50)), none, [14, 15]⟩, ⟨(some 52), (.ld 1 false (T 51)), none, [16]⟩, ⟨(some 53), (.call (.c (.clo 75 [])) [(T 47), (T 52)]), none, [12, 17]⟩, ⟨(some 54), (.call (.c (.clo 27 [])) [(T 42), (T 53)]), none, [7, 18, 18]⟩, ⟨(some 55), (.ixA 1 (T 36) (T 37)), none, [1, 2, 0, 1, 2, 3, 4, 5, 6, 7, 8, 9, 10, 11, 12, 13, 14, 15, 16, 17, 18, 19]⟩, ⟨none, (.st 1 (T 55) (T 54)), none, [20, 19, 19, 0, 1, 2, 3, 4, 5, 6, 7, 8, 9, 10, 11, 12, 13, 14, 15, 16, 17, 18, 19]⟩] true))) (.reg [M 29 8, P 30 (.bin .add (T 29) (C 1)), P 8 (.asg (T 30) none)] false)))))))) (.reg [M 20 6, P 21 (.bin .add (T 20) (C 1)), P 6 (.asg (T 21) none)] false)))))) (.seq (.reg [P 56 (.ld 1 true (T 5)), ⟨none, (.st 1 (T 4) (T 56)), none, []⟩] false) .ret))))
theorem dc38_c : (Tryd.f38.body.bind (cCode Tryd.prog Tryd.f38.ntmps)) = some dc38 := by kernel_rfl
theorem dc38_r : Tryd.f38.results.toList.mapM (cRes Tryd.prog) = some [(.c 4 1 true)] := by kernel_rfl
def ref16_Step_enc (a : TFunc × TLive) : List D := [eFunc a.1, eLive a.2]
def ref16_Step_dec (ds : List D) : TFunc × TLive := (uFunc (ds.getD 0 .top), uLive (ds.getD 1 .top))
theorem ref16_Step_de (a : TFunc × TLive) : ref16_Step_dec (ref16_Step_enc a) = a := by simp [ref16_Step_dec, ref16_Step_enc]
def ref16_Step_R (b : TLive) : D := eLive b
def ref16_Step_E (_b : TLive) : List D := []
noncomputable def ref16_Step_S : Dw.Spec := fSpec [] .val ref16_Step_enc ref16_Step_dec (fun a => ref16_Step a.1 a.2) ref16_Step_R ref16_Step_E
set_option maxHeartbeats 4000000 in
theorem ref16_Step_ok : SpecOk Tryd.prog 38 ref16_Step_S := by
 refine fn_ok (specs_ok (l := [(60, ref13_Next_S), (75, ref15_In_S), (27, ref04_Union_S)]) (by simp [ref13_Next_ok, ref15_In_ok, ref04_Union_ok])) Tryd.func38 (by decide) dc38_c dc38_r (np := 2) (by decide) ref16_Step_de (fun _ => rfl) (fun _ => rfl) (by decide) <| ?_
 rintro ⟨f1, l2⟩
 show TrE (specs [(60, ref13_Next_S), (75, ref15_In_S), (27, ref04_Union_S)]) dc38 (kRet [] .val [(.c 4 1 true)] ref16_Step_R ref16_Step_E) ⟨[(0, .agg [.int .i64 f1.Params, .sl (f1.Slots.map eSlot), .sl (f1.Code.map eInstr)]), (1, .agg [.sl (l2.Out.map (eL eI64))])], [], 262144⟩ (ref16_Step f1 l2)
 refine tr_ent <| ?_
 unfold dc38 ref16_Step
 refine sQ <| rG <| bX rfl rfl rfl rfl rfl <| bX rfl rfl rfl rfl rfl <| nW rfl <| nI <| xS <| sQ <| rG <| fA rfl rfl <| lO (v := .sl (f1.Code.map eInstr)) (z := .agg [.int .i64 f1.Params, .sl (f1.Slots.map eSlot), .sl (f1.Code.map eInstr)]) rfl rfl rfl rfl rfl rfl <| lS rfl rfl <| cK fun hq => trO_mkS_nil (α := Int) rfl rfl rfl hq rfl <| bL (cs := [.osl 13 _ 0 ((List.replicate (f1.Code.length : Int).toNat ([] : (List Int))).length)]) (ps := [(0, 1, .osl 13 _ 0 ((List.replicate (f1.Code.length : Int).toNat ([] : (List Int))).length))]) rfl rfl rfl rfl <| nW rfl <| sV (z' := .agg [.osl 13 _ 0 ((List.replicate (f1.Code.length : Int).toNat ([] : (List Int))).length)]) rfl rfl rfl rfl rfl rfl rfl rfl rfl <| nI <| trX_seq_has (E := [(2, .optr 2 _ 0 0), (3, .optr 3 _ 0 0), (4, .optr 4 _ 0 0), (5, .optr 5 _ 0 0)]) (O := [(2, some (_, ⟨false, true, 3, 27, [.agg [.int .i64 f1.Params, .sl (f1.Slots.map eSlot), .sl (f1.Code.map eInstr)]]⟩)), (3, some (_, ⟨false, true, 1, 30, [.agg [.sl (l2.Out.map (eL eI64))]]⟩)), (4, some (_, ⟨false, true, 1, 30, [.agg [.nils]]⟩)), (5, some (_, ⟨false, true, 1, 30, [.agg [.osl 13 _ 0 ((List.replicate (f1.Code.length : Int).toNat ([] : (List Int))).length)]]⟩)), (13, some (_, ⟨false, false, 1, 36, (List.replicate (f1.Code.length : Int).toNat ([] : (List Int))).map (eL eI64)⟩))]) ((has_nilsl (g := 13) rfl (nils_map (l := List.replicate (f1.Code.length : Int).toNat ([] : (List Int))) eI64 (fun _ h => List.eq_of_mem_replicate h)) (hE ⟨rfl, rfl, rfl, rfl, trivial⟩ ⟨rfl, rfl, rfl, rfl, rfl, trivial⟩))) fun nn => sQ <| sQ <| rG <| aS rfl rfl <| nI <| xS <| bK <| lP (E := fun (s : (List (List Int)) × Int) (g : Nat × Nat × Nat × Nat × Nat) => [(2, .optr 2 g.1 0 0), (3, .optr 3 g.2.1 0 0), (4, .optr 4 g.2.2.1 0 0), (5, .optr 5 g.2.2.2.1 0 0), (6, .int .i64 s.2)]) (O := fun s g => [(2, some (g.1, ⟨false, true, 3, 27, [.agg [.int .i64 f1.Params, .sl (f1.Slots.map eSlot), .sl (f1.Code.map eInstr)]]⟩)), (3, some (g.2.1, ⟨false, true, 1, 30, [.agg [.sl (l2.Out.map (eL eI64))]]⟩)), (4, some (g.2.2.1, ⟨false, true, 1, 30, [.agg [.nils]]⟩)), (5, some (g.2.2.2.1, ⟨false, true, 1, 30, [.agg [.osl 13 g.2.2.2.2 0 s.1.length]]⟩)), (13, some (g.2.2.2.2, ⟨false, false, 1, 36, s.1.map (eL eI64)⟩))]) (body := fun s => ref16_Step_b1 f1 l2 s.1 s.2) (s := (List.replicate (f1.Code.length : Int).toNat ([] : (List Int)), 0)) (_, _, _, _, _) ((hE ⟨rfl, rfl, rfl, rfl, rfl, trivial⟩ ⟨rfl, rfl, rfl, rfl, rfl, trivial⟩)) <| ?_
 rintro ⟨x3, k4⟩ ⟨v2x1, v3x1, v4x1, v5x1, v13x1⟩ nn
 try dsimp only
 unfold ref16_Step_b1
 refine sQ <| sQ <| rG <| mV rfl rfl <| fA rfl rfl <| lO (v := .sl (f1.Code.map eInstr)) (z := .agg [.int .i64 f1.Params, .sl (f1.Slots.map eSlot), .sl (f1.Code.map eInstr)]) rfl rfl rfl rfl rfl rfl <| lS rfl rfl <| bN (v := .bool (decide (k4 < (f1.Code.length : Int)))) rfl rfl rfl rfl rfl <| nI <| xS <| cD (c := (decide (k4 < (f1.Code.length : Int)))) rfl ?_ ?_
 ·refine sK <| xS <| bC (E := fun (s : (List (List Int))) (g : Nat × Nat × Nat × Nat × Nat) => [(2, .optr 2 g.1 0 0), (3, .optr 3 g.2.1 0 0), (4, .optr 4 g.2.2.1 0 0), (5, .optr 5 g.2.2.2.1 0 0), (6, .int .i64 k4)]) (O := fun s g => [(2, some (g.1, ⟨false, true, 3, 27, [.agg [.int .i64 f1.Params, .sl (f1.Slots.map eSlot), .sl (f1.Code.map eInstr)]]⟩)), (3, some (g.2.1, ⟨false, true, 1, 30, [.agg [.sl (l2.Out.map (eL eI64))]]⟩)), (4, some (g.2.2.1, ⟨false, true, 1, 30, [.agg [.nils]]⟩)), (5, some (g.2.2.2.1, ⟨false, true, 1, 30, [.agg [.osl 13 g.2.2.2.2 0 s.length]]⟩)), (13, some (g.2.2.2.2, ⟨false, false, 1, 36, s.map (eL eI64)⟩))]) (j := fun s => ref16_Step_j2 k4 s) ?_ ?_
  ·refine sQ <| rG <| lO (v := .agg [.int .i64 f1.Params, .sl (f1.Slots.map eSlot), .sl (f1.Code.map eInstr)]) (z := .agg [.int .i64 f1.Params, .sl (f1.Slots.map eSlot), .sl (f1.Code.map eInstr)]) rfl rfl rfl rfl rfl rfl <| mV rfl rfl <| bD fun r6 hr6 => cR (l := r6) (en := eI64) (f1, k4) rfl rfl rfl ref13_Next_de rfl rfl (by simp) rfl hr6 rfl <| aO (l := r6) (en := eI64) rfl rfl rfl rfl <| nI <| xS <| sQ <| rG <| aS rfl rfl <| nI <| xS <| bK <| lP (E := fun (s : (List (List Int)) × Int) (g : Nat × Nat × Nat × Nat × Nat × Nat) => [(2, .optr 2 g.1 0 0), (3, .optr 3 g.2.1 0 0), (4, .optr 4 g.2.2.1 0 0), (5, .optr 5 g.2.2.2.1 0 0), (6, .int .i64 k4), (7, .osl 7 g.2.2.2.2.1 0 r6.length), (8, .int .i64 s.2)]) (O := fun s g => [(2, some (g.1, ⟨false, true, 3, 27, [.agg [.int .i64 f1.Params, .sl (f1.Slots.map eSlot), .sl (f1.Code.map eInstr)]]⟩)), (3, some (g.2.1, ⟨false, true, 1, 30, [.agg [.sl (l2.Out.map (eL eI64))]]⟩)), (4, some (g.2.2.1, ⟨false, true, 1, 30, [.agg [.nils]]⟩)), (5, some (g.2.2.2.1, ⟨false, true, 1, 30, [.agg [.osl 13 g.2.2.2.2.2 0 s.1.length]]⟩)), (7, some (g.2.2.2.2.1, ⟨false, false, 1, 3, r6.map eI64⟩)), (13, some (g.2.2.2.2.2, ⟨false, false, 1, 36, s.1.map (eL eI64)⟩))]) (body := fun s => ref16_Step_b3 r6 k4 f1 l2 s.1 s.2) (s := (x3, 0)) (_, _, _, _, _, _) ((hE ⟨rfl, rfl, rfl, rfl, rfl, rfl, rfl, trivial⟩ ⟨rfl, rfl, rfl, rfl, rfl, rfl, trivial⟩)) <| ?_
   rintro ⟨x7, i8⟩ ⟨v2x2, v3x2, v4x2, v5x2, v7x2, v13x2⟩ nn
   try dsimp only
   unfold ref16_Step_b3
   refine sQ <| sQ <| rG <| mV rfl rfl <| mV rfl rfl <| lW rfl rfl <| bN (v := .bool (decide (i8 < (r6.length : Int)))) rfl rfl rfl rfl rfl <| nI <| xS <| cD (c := (decide (i8 < (r6.length : Int)))) rfl ?_ ?_
   ·exact sK <| xS <| sQ <| bK <| sQ <| rG <| mV rfl rfl <| mV rfl rfl <| cK fun hq => iO (l := r6) (en := eI64) rfl rfl rfl rfl rfl hq <| bD fun next_e9 hnext_e9 => lO (v := .int .i64 next_e9) (z := eI64 next_e9) rfl rfl rfl (map_get hnext_e9) rfl rfl <| aS rfl rfl <| nI <| xS <| rG <| fA rfl rfl <| lO (v := .osl 13 _ 0 x7.length) (z := .agg [.osl 13 _ 0 x7.length]) rfl rfl rfl rfl rfl rfl <| mV rfl rfl <| fA rfl rfl <| lO (v := .osl 13 _ 0 x7.length) (z := .agg [.osl 13 _ 0 x7.length]) rfl rfl rfl rfl rfl rfl <| mV rfl rfl <| cK fun hq => iO (l := x7) (en := (eL eI64)) rfl rfl rfl rfl rfl hq <| bD fun x_e10 hx_e10 => lO (v := .sl (x_e10.map eI64)) (z := (eL eI64) x_e10) rfl rfl rfl (map_get hx_e10) rfl rfl <| fA rfl rfl <| lO (v := .sl (f1.Code.map eInstr)) (z := .agg [.int .i64 f1.Params, .sl (f1.Slots.map eSlot), .sl (f1.Code.map eInstr)]) rfl rfl rfl rfl rfl rfl <| mV rfl rfl <| bD fun x_x11 hx_x11 => iS (en := eInstr) rfl rfl rfl hx_x11 rfl <| lF (v := .agg [.int .i64 x_x11.Op, .int .i64 x_x11.A, .int .i64 x_x11.B, .int .i64 x_x11.C, .int .u64 x_x11.Imm]) rfl rfl rfl rfl <| fA rfl rfl <| lO (v := .sl (l2.Out.map (eL eI64))) (z := .agg [.sl (l2.Out.map (eL eI64))]) rfl rfl rfl rfl rfl rfl <| mV rfl rfl <| bD fun x_x12 hx_x12 => iS (en := (eL eI64)) rfl rfl rfl hx_x12 rfl <| lF (v := .sl (x_x12.map eI64)) rfl rfl rfl rfl <| bD fun r13 hr13 => cR (l := r13) (en := eI64) (x_x11, x_x12) rfl rfl rfl ref15_In_de rfl rfl (by simp) rfl hr13 rfl <| bD fun r14 hr14 => cR (l := r14) (en := eI64) (x_e10, r13) rfl rfl rfl ref04_Union_de rfl rfl (by simp) (by first | rfl | (simp only [take_drop0_map, take_sub_map]; rfl) | simp [ref04_Union_enc]) hr14 rfl <| cK fun hq => iO (l := x7) (en := (eL eI64)) rfl rfl rfl rfl rfl hq <| bD fun x_o15 hx_o15 => sE (l := x7) (en := (eL eI64)) (q' := r14) rfl rfl rfl rfl rfl rfl rfl (by simp) hx_o15 rfl rfl rfl (by simp [setE, cells, setAt, eL]) rfl <| trO_nil_draw (by kernel_rfl) <| bM <| xS <| rG <| mV rfl rfl <| bN (v := .int .i64 (IntKind.i64.wrap (i8 + 1))) rfl rfl rfl rfl rfl <| aS rfl rfl <| nI <| xL (s := (x7.set k4.toNat r14, IntKind.i64.wrap (i8 + 1))) (_, _, _, _, _, _) ((hE ⟨rfl, rfl, rfl, rfl, rfl, rfl, rfl, trivial⟩ ⟨rfl, rfl, rfl, (Eq.trans (b := some (_, ⟨false, true, 1, 30, [.agg [.osl 13 _ 0 x7.length]]⟩)) rfl (by simp)), rfl, rfl, trivial⟩))
   ·exact eT <| xE <| lE <| bH <| trX_bcut_normal (s := x7) (_, _, _, _, _) ((hE ⟨rfl, rfl, rfl, rfl, rfl, trivial⟩ ⟨rfl, rfl, rfl, rfl, rfl, trivial⟩))
  ·rintro x5 ⟨v2x3, v3x3, v4x3, v5x3, v13x3⟩ nn
   try dsimp only
   unfold ref16_Step_j2
   exact rG <| mV rfl rfl <| bN (v := .int .i64 (IntKind.i64.wrap (k4 + 1))) rfl rfl rfl rfl rfl <| aS rfl rfl <| nI <| xL (s := (x5, IntKind.i64.wrap (k4 + 1))) (_, _, _, _, _) ((hE ⟨rfl, rfl, rfl, rfl, rfl, trivial⟩ ⟨rfl, rfl, rfl, rfl, rfl, trivial⟩))
 ·refine eT <| xE <| lE <| bH <| xS <| sQ <| rG <| lO (v := .agg [.osl 13 _ 0 x3.length]) (z := .agg [.osl 13 _ 0 x3.length]) rfl rfl rfl rfl rfl rfl <| sV (z' := .agg [.osl 13 _ 0 x3.length]) rfl rfl rfl rfl rfl rfl rfl rfl rfl <| nI <| xS <| rT <| ret_val (b := (TLive.mk x3)) rfl ?_ rfl rfl ?_ (by first | rfl | (simp only [take_drop0_map, take_sub_map]; rfl) | simp [ref16_Step_R, eLive])
  all_goals first|(simp;done)|(simp;omega)|rfl|(simp [isFro,isFro0];done)

def dc73 : DCode := (.seq (.reg [P 4 (.asg (.c (.bool false)) none)] false) (.seq (.seq (.reg [M 6 0, P 7 (.len false (T 6)), M 8 1, P 9 (.len false (T 8)), P 10 (.bin .neq (T 7) (T 9))] false) (.cond (T 10) (.seq (.reg [P 4 (.asg (.c (.bool false)) none)] false) .ret) .skip)) (.seq (.seq (.reg [P 5 (.asg (C 0) none)] false) (.block 0 (.loop (.seq (.seq (.reg [M 11 5, M 12 0, P 13 (.len false (T 12)), P 14 (.bin .lss (T 11) (T 13))] false) (.cond (T 14) .skip (.exit 0))) (.seq (.block 1 (.seq (.reg [M 17 0, M 18 5, ⟨(some 19), (.ixA 1 (T 17) (T 18)), none, [0, 1]⟩, ⟨(some 20), (.ld 1 false (T 19)), none, [2]⟩, M 21 1, M 22 5, ⟨(some 23), (.ixA 1 (T 21) (T 22)), none, [4, 5]⟩, ⟨(some 24), (.ld 1 false (T 23)), none, [6]⟩, ⟨(some 25), (.bin .neq (T 20) (T 24)), none, [3, 7]⟩] true) (.cond (T 25) (.seq (.reg [P 4 (.asg (.c (.bool false)) none)] false) .ret) .skip))) (.reg [M 15 5, P 16 (.bin .add (T 15) (C 1)), P 5 (.asg (T 16) none)] false)))))) (.seq (.reg [P 4 (.asg (.c (.bool true)) none)] false) .ret))))
theorem dc73_c : (Tryd.f73.body.bind (cCode Tryd.prog Tryd.f73.ntmps)) = some dc73 := by kernel_rfl
theorem dc73_r : Tryd.f73.results.toList.mapM (cRes Tryd.prog) = some [(.t 4)] := by kernel_rfl
def ref04_Same_enc (a : (List Int) × (List Int)) : List D := [.sl (a.1.map eI64), .sl (a.2.map eI64)]
def ref04_Same_dec (ds : List D) : (List Int) × (List Int) := ((uL uI) (ds.getD 0 .top), (uL uI) (ds.getD 1 .top))
theorem ref04_Same_de (a : (List Int) × (List Int)) : ref04_Same_dec (ref04_Same_enc a) = a := by simp [ref04_Same_dec, ref04_Same_enc, uL_e (u := uI) (en := eI64) (fun _ => rfl)]
def ref04_Same_R (b : Bool) : D := .bool b
def ref04_Same_E (_b : Bool) : List D := []
noncomputable def ref04_Same_S : Dw.Spec := fSpec [] .ground ref04_Same_enc ref04_Same_dec (fun a => ref04_Same a.1 a.2) ref04_Same_R ref04_Same_E
set_option maxHeartbeats 4000000 in
theorem ref04_Same_ok : SpecOk Tryd.prog 73 ref04_Same_S := by
 refine fn_ok (specs_nil) Tryd.func73 (by decide) dc73_c dc73_r (np := 2) (by decide) ref04_Same_de (fun _ => rfl) (fun _ => rfl) (by decide) <| ?_
 rintro ⟨a1, b2⟩
 show TrE (specs []) dc73 (kRet [] .ground [(.t 4)] ref04_Same_R ref04_Same_E) ⟨[(0, .sl (a1.map eI64)), (1, .sl (b2.map eI64))], [], 262144⟩ (ref04_Same a1 b2)
 refine tr_ent <| ?_
 unfold dc73 ref04_Same
 refine sQ <| rG <| aS rfl rfl <| nI <| xS <| sQ <| sQ <| rG <| mV rfl rfl <| lS rfl rfl <| mV rfl rfl <| lS rfl rfl <| bN (v := .bool ((a1.length : Int) != (b2.length : Int))) rfl rfl rfl rfl rfl <| nI <| xS <| cD (c := ((a1.length : Int) != (b2.length : Int))) rfl ?_ ?_
 ·refine sQ <| rG <| aS rfl rfl <| nI <| xS <| rT <| xR <| ret_ground (b := false) rfl ?_ rfl rfl ?_ rfl
  all_goals first|(simp;done)|(simp;omega)|rfl|(simp [isFro,isFro0];done)
 ·refine sK <| xS <| sQ <| sQ <| rG <| aS rfl rfl <| nI <| xS <| bK <| lP (E := fun (s : Int) (g : Unit) => [(0, .sl (a1.map eI64)), (1, .sl (b2.map eI64)), (5, .int .i64 s)]) (O := fun s g => []) (body := fun s => ref04_Same_b1 a1 b2 s) (s := 0) () ((hE ⟨rfl, rfl, rfl, trivial⟩ trivial)) <| ?_
  rintro i3 ⟨⟩ nn
  try dsimp only
  unfold ref04_Same_b1
  refine sQ <| sQ <| rG <| mV rfl rfl <| mV rfl rfl <| lS rfl rfl <| bN (v := .bool (decide (i3 < (a1.length : Int)))) rfl rfl rfl rfl rfl <| nI <| xS <| cD (c := (decide (i3 < (a1.length : Int)))) rfl ?_ ?_
  ·refine sK <| xS <| sQ <| bK <| sQ <| rG <| mV rfl rfl <| mV rfl rfl <| bD fun x_x4 hx_x4 => iS (en := eI64) rfl rfl rfl hx_x4 rfl <| lF (v := .int .i64 x_x4) rfl rfl rfl rfl <| mV rfl rfl <| mV rfl rfl <| bD fun x_x5 hx_x5 => iS (en := eI64) rfl rfl rfl hx_x5 rfl <| lF (v := .int .i64 x_x5) rfl rfl rfl rfl <| bN (v := .bool (x_x4 != x_x5)) rfl rfl rfl rfl rfl <| trO_nil_draw (by kernel_rfl) <| xS <| cD (c := (x_x4 != x_x5)) rfl ?_ ?_
   ·refine sQ <| rG <| aS rfl rfl <| nI <| xS <| rT <| bR <| xR <| lR <| bR <| xR <| ret_ground (b := false) rfl ?_ rfl rfl ?_ rfl
    all_goals first|(simp;done)|(simp;omega)|rfl|(simp [isFro,isFro0];done)
   ·exact sK <| bM <| xS <| rG <| mV rfl rfl <| bN (v := .int .i64 (IntKind.i64.wrap (i3 + 1))) rfl rfl rfl rfl rfl <| aS rfl rfl <| nI <| xL (s := IntKind.i64.wrap (i3 + 1)) () ((hE ⟨rfl, rfl, rfl, trivial⟩ trivial))
  ·refine eT <| xE <| lE <| bH <| xS <| sQ <| rG <| aS rfl rfl <| nI <| xS <| rT <| ret_ground (b := true) rfl ?_ rfl rfl ?_ rfl
   all_goals first|(simp;done)|(simp;omega)|rfl|(simp [isFro,isFro0];done)

def dc35 : DCode := (.seq (.reg [P 4 (.asg (.c (.bool false)) none)] false) (.seq (.seq (.reg [M 6 0, P 7 (.len false (T 6)), M 8 1, P 9 (.len false (T 8)), P 10 (.bin .neq (T 7) (T 9))] false) (.cond (T 10) (.seq (.reg [P 4 (.asg (.c (.bool false)) none)] false) .ret) .skip)) (.seq (.seq (.reg [P 5 (.asg (C 0) none)] false) (.block 0 (.loop (.seq (.seq (.reg [M 11 5, M 12 0, P 13 (.len false (T 12)), P 14 (.bin .lss (T 11) (T 13))] false) (.cond (T 14) .skip (.exit 0))) (.seq (.block 1 (.seq (.reg [M 17 0, M 18 5, ⟨(some 19), (.ixA 1 (T 17) (T 18)), none, [0, 1]⟩, ⟨(some 20), (.ld 1 false (T 19)), none, [2]⟩, M 21 1, M 22 5, ⟨(some 23), (.ixA 1 (T 21) (T 22)), none, [4, 5]⟩, ⟨(some 24), (.ld 1 false (T 23)), none, [6]⟩, ⟨(some 25), (.call (.c (.clo 73 [])) [(T 20), (T 24)]), none, [3, 7]⟩, ⟨(some 26), (.un .not (T 25)), none, [8]⟩] true) (.cond (T 26) (.seq (.reg [P 4 (.asg (.c (.bool false)) none)] false) .ret) .skip))) (.reg [M 15 5, P 16 (.bin .add (T 15) (C 1)), P 5 (.asg (T 16) none)] false)))))) (.seq (.reg [P 4 (.asg (.c (.bool true)) none)] false) .ret))))
theorem dc35_c : (Tryd.f35.body.bind (cCode Tryd.prog Tryd.f35.ntmps)) = some dc35 := by kernel_rfl
theorem dc35_r : Tryd.f35.results.toList.mapM (cRes Tryd.prog) = some [(.t 4)] := by kernel_rfl
def ref04_SameAll_enc (a : (List (List Int)) × (List (List Int))) : List D := [.sl (a.1.map (eL eI64)), .sl (a.2.map (eL eI64))]
def ref04_SameAll_dec (ds : List D) : (List (List Int)) × (List (List Int)) := ((uL (uL uI)) (ds.getD 0 .top), (uL (uL uI)) (ds.getD 1 .top))
theorem ref04_SameAll_de (a : (List (List Int)) × (List (List Int))) : ref04_SameAll_dec (ref04_SameAll_enc a) = a := by simp [ref04_SameAll_dec, ref04_SameAll_enc, uL_e (u := (uL uI)) (en := (eL eI64)) (uL_e (u := uI) (en := eI64) (fun _ => rfl))]
def ref04_SameAll_R (b : Bool) : D := .bool b
def ref04_SameAll_E (_b : Bool) : List D := []
noncomputable def ref04_SameAll_S : Dw.Spec := fSpec [] .ground ref04_SameAll_enc ref04_SameAll_dec (fun a => ref04_SameAll a.1 a.2) ref04_SameAll_R ref04_SameAll_E
set_option maxHeartbeats 4000000 in
theorem ref04_SameAll_ok : SpecOk Tryd.prog 35 ref04_SameAll_S := by
 refine fn_ok (specs_ok (l := [(73, ref04_Same_S)]) (by simp [ref04_Same_ok])) Tryd.func35 (by decide) dc35_c dc35_r (np := 2) (by decide) ref04_SameAll_de (fun _ => rfl) (fun _ => rfl) (by decide) <| ?_
 rintro ⟨a1, b2⟩
 show TrE (specs [(73, ref04_Same_S)]) dc35 (kRet [] .ground [(.t 4)] ref04_SameAll_R ref04_SameAll_E) ⟨[(0, .sl (a1.map (eL eI64))), (1, .sl (b2.map (eL eI64)))], [], 262144⟩ (ref04_SameAll a1 b2)
 refine tr_ent <| ?_
 unfold dc35 ref04_SameAll
 refine sQ <| rG <| aS rfl rfl <| nI <| xS <| sQ <| sQ <| rG <| mV rfl rfl <| lS rfl rfl <| mV rfl rfl <| lS rfl rfl <| bN (v := .bool ((a1.length : Int) != (b2.length : Int))) rfl rfl rfl rfl rfl <| nI <| xS <| cD (c := ((a1.length : Int) != (b2.length : Int))) rfl ?_ ?_
 ·refine sQ <| rG <| aS rfl rfl <| nI <| xS <| rT <| xR <| ret_ground (b := false) rfl ?_ rfl rfl ?_ rfl
  all_goals first|(simp;done)|(simp;omega)|rfl|(simp [isFro,isFro0];done)
 ·refine sK <| xS <| sQ <| sQ <| rG <| aS rfl rfl <| nI <| xS <| bK <| lP (E := fun (s : Int) (g : Unit) => [(0, .sl (a1.map (eL eI64))), (1, .sl (b2.map (eL eI64))), (5, .int .i64 s)]) (O := fun s g => []) (body := fun s => ref04_SameAll_b1 a1 b2 s) (s := 0) () ((hE ⟨rfl, rfl, rfl, trivial⟩ trivial)) <| ?_
  rintro i3 ⟨⟩ nn
  try dsimp only
  unfold ref04_SameAll_b1
  refine sQ <| sQ <| rG <| mV rfl rfl <| mV rfl rfl <| lS rfl rfl <| bN (v := .bool (decide (i3 < (a1.length : Int)))) rfl rfl rfl rfl rfl <| nI <| xS <| cD (c := (decide (i3 < (a1.length : Int)))) rfl ?_ ?_
  ·refine sK <| xS <| sQ <| bK <| sQ <| rG <| mV rfl rfl <| mV rfl rfl <| bD fun x_x4 hx_x4 => iS (en := (eL eI64)) rfl rfl rfl hx_x4 rfl <| lF (v := .sl (x_x4.map eI64)) rfl rfl rfl rfl <| mV rfl rfl <| mV rfl rfl <| bD fun x_x5 hx_x5 => iS (en := (eL eI64)) rfl rfl rfl hx_x5 rfl <| lF (v := .sl (x_x5.map eI64)) rfl rfl rfl rfl <| bD fun r6 hr6 => cG (x_x4, x_x5) rfl rfl rfl ref04_Same_de rfl rfl (by simp) rfl hr6 rfl <| uN (w := .bool (!r6)) rfl rfl rfl rfl trivial <| trO_nil_draw (by kernel_rfl) <| xS <| cD (c := (!r6)) rfl ?_ ?_
   ·refine sQ <| rG <| aS rfl rfl <| nI <| xS <| rT <| bR <| xR <| lR <| bR <| xR <| ret_ground (b := false) rfl ?_ rfl rfl ?_ rfl
    all_goals first|(simp;done)|(simp;omega)|rfl|(simp [isFro,isFro0];done)
   ·exact sK <| bM <| xS <| rG <| mV rfl rfl <| bN (v := .int .i64 (IntKind.i64.wrap (i3 + 1))) rfl rfl rfl rfl rfl <| aS rfl rfl <| nI <| xL (s := IntKind.i64.wrap (i3 + 1)) () ((hE ⟨rfl, rfl, rfl, trivial⟩ trivial))
  ·refine eT <| xE <| lE <| bH <| xS <| sQ <| rG <| aS rfl rfl <| nI <| xS <| rT <| ret_ground (b := true) rfl ?_ rfl rfl ?_ rfl
   all_goals first|(simp;done)|(simp;omega)|rfl|(simp [isFro,isFro0];done)

def dc31 : DCode := (.seq (.reg [P 2 (.box (T 0) 1 30), P 3 (.box (T 1) 1 30), P 4 (.asg (.c (.bool false)) none)] false) (.seq (.reg [P 5 (.fldA 0 (T 2)), P 6 (.ld 1 false (T 5)), P 7 (.fldA 0 (T 3)), P 8 (.ld 1 false (T 7)), P 9 (.call (.c (.clo 35 [])) [(T 6), (T 8)]), P 4 (.asg (T 9) none)] false) .ret))
theorem dc31_c : (Tryd.f31.body.bind (cCode Tryd.prog Tryd.f31.ntmps)) = some dc31 := by kernel_rfl
theorem dc31_r : Tryd.f31.results.toList.mapM (cRes Tryd.prog) = some [(.t 4)] := by kernel_rfl
def ref16_Same_enc (a : TLive × TLive) : List D := [eLive a.1, eLive a.2]
def ref16_Same_dec (ds : List D) : TLive × TLive := (uLive (ds.getD 0 .top), uLive (ds.getD 1 .top))
theorem ref16_Same_de (a : TLive × TLive) : ref16_Same_dec (ref16_Same_enc a) = a := by simp [ref16_Same_dec, ref16_Same_enc]
def ref16_Same_R (b : Bool) : D := .bool b
def ref16_Same_E (_b : Bool) : List D := []
noncomputable def ref16_Same_S : Dw.Spec := fSpec [] .ground ref16_Same_enc ref16_Same_dec (fun a => ref16_Same a.1 a.2) ref16_Same_R ref16_Same_E
set_option maxHeartbeats 4000000 in
theorem ref16_Same_ok : SpecOk Tryd.prog 31 ref16_Same_S := by
 refine fn_ok (specs_ok (l := [(35, ref04_SameAll_S)]) (by simp [ref04_SameAll_ok])) Tryd.func31 (by decide) dc31_c dc31_r (np := 2) (by decide) ref16_Same_de (fun _ => rfl) (fun _ => rfl) (by decide) <| ?_
 rintro ⟨a1, b2⟩
 show TrE (specs [(35, ref04_SameAll_S)]) dc31 (kRet [] .ground [(.t 4)] ref16_Same_R ref16_Same_E) ⟨[(0, .agg [.sl (a1.Out.map (eL eI64))]), (1, .agg [.sl (b2.Out.map (eL eI64))])], [], 262144⟩ (ref16_Same a1 b2)
 refine tr_ent <| ?_
 unfold dc31 ref16_Same
 refine sQ <| rG <| bX rfl rfl rfl rfl rfl <| bX rfl rfl rfl rfl rfl <| aS rfl rfl <| nI <| xS <| sQ <| rG <| fA rfl rfl <| lO (v := .sl (a1.Out.map (eL eI64))) (z := .agg [.sl (a1.Out.map (eL eI64))]) rfl rfl rfl rfl rfl rfl <| fA rfl rfl <| lO (v := .sl (b2.Out.map (eL eI64))) (z := .agg [.sl (b2.Out.map (eL eI64))]) rfl rfl rfl rfl rfl rfl <| bD fun r3 hr3 => cG (a1.Out, b2.Out) rfl rfl rfl ref04_SameAll_de rfl rfl (by simp) rfl hr3 rfl <| aS rfl rfl <| nI <| xS <| rT <| ret_ground (b := r3) rfl ?_ rfl rfl ?_ rfl
 all_goals first|(simp;done)|(simp;omega)|rfl|(simp [isFro,isFro0];done)

def dc24 : DCode := (.seq (.reg [P 1 (.box (T 0) 3 27), P 2 (.new (.agg [.nils]) 1 30)] false) (.seq (.reg [P 5 (.fldA 2 (T 1)), P 6 (.ld 1 false (T 5)), P 7 (.len false (T 6)), P 8 (.mkS 1 36 24 .nils (T 7) (T 7)), ⟨(some 9), (.bld [.nils] [⟨0, ⟨1, (T 8)⟩⟩]), none, []⟩, P 3 (.new (.agg [.nils]) 1 30), ⟨none, (.st 1 (T 3) (T 9)), none, []⟩] false) (.block 0 (.loop (.block 1 (.seq (.reg [P 10 (.ld 3 true (T 1)), P 11 (.ld 1 true (T 3)), P 12 (.call (.c (.clo 38 [])) [(T 10), (T 11)]), P 4 (.new (.agg [.nils]) 1 30), ⟨none, (.st 1 (T 4) (T 12)), none, []⟩] false) (.seq (.seq (.reg [P 13 (.ld 1 true (T 4)), P 14 (.ld 1 true (T 3)), P 15 (.call (.c (.clo 31 [])) [(T 13), (T 14)])] false) (.cond (T 15) (.seq (.reg [P 16 (.ld 1 true (T 3)), ⟨none, (.st 1 (T 2) (T 16)), none, []⟩] false) .ret) .skip)) (.reg [P 17 (.ld 1 true (T 4)), ⟨none, (.st 1 (T 3) (T 17)), none, []⟩] false))))))))
theorem dc24_c : (Tryd.f24.body.bind (cCode Tryd.prog Tryd.f24.ntmps)) = some dc24 := by kernel_rfl
theorem dc24_r : Tryd.f24.results.toList.mapM (cRes Tryd.prog) = some [(.c 2 1 true)] := by kernel_rfl
def ref16_Solve_enc (a : TFunc) : List D := [eFunc a]
def ref16_Solve_dec (ds : List D) : TFunc := uFunc (ds.getD 0 .top)
theorem ref16_Solve_de (a : TFunc) : ref16_Solve_dec (ref16_Solve_enc a) = a := by simp [ref16_Solve_dec, ref16_Solve_enc]
def ref16_Solve_R (b : TLive) : D := eLive b
def ref16_Solve_E (_b : TLive) : List D := []
noncomputable def ref16_Solve_S : Dw.Spec := fSpec [] .val ref16_Solve_enc ref16_Solve_dec (fun a => ref16_Solve a) ref16_Solve_R ref16_Solve_E
set_option maxHeartbeats 4000000 in
theorem ref16_Solve_ok : SpecOk Tryd.prog 24 ref16_Solve_S := by
 refine fn_ok (specs_ok (l := [(38, ref16_Step_S), (31, ref16_Same_S)]) (by simp [ref16_Step_ok, ref16_Same_ok])) Tryd.func24 (by decide) dc24_c dc24_r (np := 1) (by decide) ref16_Solve_de (fun _ => rfl) (fun _ => rfl) (by decide) <| ?_
 intro f1
 show TrE (specs [(38, ref16_Step_S), (31, ref16_Same_S)]) dc24 (kRet [] .val [(.c 2 1 true)] ref16_Solve_R ref16_Solve_E) ⟨[(0, .agg [.int .i64 f1.Params, .sl (f1.Slots.map eSlot), .sl (f1.Code.map eInstr)])], [], 262144⟩ (ref16_Solve f1)
 refine tr_ent <| ?_
 unfold dc24 ref16_Solve
 refine sQ <| rG <| bX rfl rfl rfl rfl rfl <| nW rfl <| nI <| xS <| sQ <| rG <| fA rfl rfl <| lO (v := .sl (f1.Code.map eInstr)) (z := .agg [.int .i64 f1.Params, .sl (f1.Slots.map eSlot), .sl (f1.Code.map eInstr)]) rfl rfl rfl rfl rfl rfl <| lS rfl rfl <| cK fun hq => trO_mkS_nil (α := Int) rfl rfl rfl hq rfl <| bL (cs := [.osl 8 _ 0 ((List.replicate (f1.Code.length : Int).toNat ([] : (List Int))).length)]) (ps := [(0, 1, .osl 8 _ 0 ((List.replicate (f1.Code.length : Int).toNat ([] : (List Int))).length))]) rfl rfl rfl rfl <| nW rfl <| sV (z' := .agg [.osl 8 _ 0 ((List.replicate (f1.Code.length : Int).toNat ([] : (List Int))).length)]) rfl rfl rfl rfl rfl rfl rfl rfl rfl <| nI <| trX_seq_has (E := [(1, .optr 1 _ 0 0), (2, .optr 2 _ 0 0), (3, .optr 3 _ 0 0)]) (O := [(1, some (_, ⟨false, true, 3, 27, [.agg [.int .i64 f1.Params, .sl (f1.Slots.map eSlot), .sl (f1.Code.map eInstr)]]⟩)), (2, some (_, ⟨false, true, 1, 30, [.agg [.nils]]⟩)), (3, some (_, ⟨false, true, 1, 30, [.agg [.osl 8 _ 0 ((List.replicate (f1.Code.length : Int).toNat ([] : (List Int))).length)]]⟩)), (8, some (_, ⟨false, false, 1, 36, (List.replicate (f1.Code.length : Int).toNat ([] : (List Int))).map (eL eI64)⟩))]) ((has_nilsl (g := 8) rfl (nils_map (l := List.replicate (f1.Code.length : Int).toNat ([] : (List Int))) eI64 (fun _ h => List.eq_of_mem_replicate h)) (hE ⟨rfl, rfl, rfl, trivial⟩ ⟨rfl, rfl, rfl, rfl, trivial⟩))) fun nn => bK <| lP (E := fun (s : (List (List Int))) (g : Nat × Nat × Nat) => [(1, .optr 1 g.1 0 0), (2, .optr 2 g.2.1 0 0), (3, .optr 3 g.2.2 0 0)]) (O := fun s g => [(1, some (g.1, ⟨false, true, 3, 27, [.agg [.int .i64 f1.Params, .sl (f1.Slots.map eSlot), .sl (f1.Code.map eInstr)]]⟩)), (2, some (g.2.1, ⟨false, true, 1, 30, [.agg [.nils]]⟩)), (3, some (g.2.2, ⟨false, true, 1, 30, [.agg [.sl (s.map (eL eI64))]]⟩))]) (body := fun s => ref16_Solve_b1 f1 s) (s := List.replicate (f1.Code.length : Int).toNat ([] : (List Int))) (_, _, _) ((has_conv [(8, some (_, ⟨true, false, 1, 36, (List.replicate (f1.Code.length : Int).toNat ([] : (List Int))).map (eL eI64)⟩))] ⟨⟨_, _, rfl, rfl, rfl⟩, trivial⟩ ⟨(conv_same rfl), (conv_same rfl), (conv_same rfl), trivial⟩ ⟨(.inl rfl), (.inl rfl), (.inr ⟨_, _, _, _, rfl, rfl, rfl, rfl, conv_agg rfl ⟨(convC_own (l := List.replicate (f1.Code.length : Int).toNat ([] : (List Int))) (en := (eL eI64)) rfl rfl rfl (by simp)), trivial⟩⟩), trivial⟩)) <| ?_
 rintro l2 ⟨v1x1, v2x1, v3x1⟩ nn
 try dsimp only
 unfold ref16_Solve_b1
 refine bK <| sQ <| rG <| lO (v := .agg [.int .i64 f1.Params, .sl (f1.Slots.map eSlot), .sl (f1.Code.map eInstr)]) (z := .agg [.int .i64 f1.Params, .sl (f1.Slots.map eSlot), .sl (f1.Code.map eInstr)]) rfl rfl rfl rfl rfl rfl <| lO (v := .agg [.sl (l2.map (eL eI64))]) (z := .agg [.sl (l2.map (eL eI64))]) rfl rfl rfl rfl rfl rfl <| bD fun r3 hr3 => cV (f1, (TLive.mk l2)) rfl rfl rfl ref16_Step_de rfl rfl (by simp) rfl hr3 <| nW rfl <| sV (z' := .agg [.sl (r3.Out.map (eL eI64))]) rfl rfl rfl rfl rfl rfl rfl rfl rfl <| nI <| xS <| sQ <| sQ <| rG <| lO (v := .agg [.sl (r3.Out.map (eL eI64))]) (z := .agg [.sl (r3.Out.map (eL eI64))]) rfl rfl rfl rfl rfl rfl <| lO (v := .agg [.sl (l2.map (eL eI64))]) (z := .agg [.sl (l2.map (eL eI64))]) rfl rfl rfl rfl rfl rfl <| bD fun r4 hr4 => cG (r3, (TLive.mk l2)) rfl rfl rfl ref16_Same_de rfl rfl (by simp) rfl hr4 rfl <| nI <| xS <| cD (c := r4) rfl ?_ ?_
 ·refine sQ <| rG <| lO (v := .agg [.sl (l2.map (eL eI64))]) (z := .agg [.sl (l2.map (eL eI64))]) rfl rfl rfl rfl rfl rfl <| sV (z' := .agg [.sl (l2.map (eL eI64))]) rfl rfl rfl rfl rfl rfl rfl rfl rfl <| nI <| xS <| rT <| xR <| bR <| lR <| bR <| ret_val (b := (TLive.mk l2)) rfl ?_ rfl rfl ?_ rfl
  all_goals first|(simp;done)|(simp;omega)|rfl|(simp [isFro,isFro0];done)
 ·exact sK <| xS <| rG <| lO (v := .agg [.sl (r3.Out.map (eL eI64))]) (z := .agg [.sl (r3.Out.map (eL eI64))]) rfl rfl rfl rfl rfl rfl <| sV (z' := .agg [.sl (r3.Out.map (eL eI64))]) rfl rfl rfl rfl rfl rfl rfl rfl rfl <| nI <| bM <| xL (s := r3.Out) (_, _, _) ((hE ⟨rfl, rfl, rfl, trivial⟩ ⟨rfl, rfl, rfl, trivial⟩))

def dc72 : DCode := (.seq (.reg [P 2 (.asg (C 0) none)] false) (.seq (.reg [M 5 0, P 6 (.call (.c (.clo 54 [])) [(T 5), (C 12)]), P 3 (.asg (T 6) none)] false) (.seq (.seq (.reg [M 7 3, P 8 (.bin .eql (T 7) (C 11))] false) (.cond (T 8) (.seq (.reg [⟨(some 9), (.bldS 1 3 (.int .i64 0) 10 [⟨0, (C 9223372036854775807)⟩, ⟨1, (.c (.int .i64 (-9223372036854775808)))⟩, ⟨2, (C 2147483648)⟩, ⟨3, (C 2147483647)⟩, ⟨4, (.c (.int .i64 (-1)))⟩, ⟨5, (C 16777216)⟩, ⟨6, (C 33554432)⟩, ⟨7, (C 1048577)⟩, ⟨8, (C 512)⟩, ⟨9, (C 80)⟩]), none, []⟩, ⟨(some 4), (.asg (T 9) (some ⟨1, 3⟩)), none, []⟩] false) (.seq (.reg [M 10 4, M 11 0, M 12 4, P 13 (.len false (T 12)), P 14 (.call (.c (.clo 54 [])) [(T 11), (T 13)]), P 15 (.ixA 1 (T 10) (T 14)), P 16 (.ld 1 false (T 15)), P 2 (.asg (T 16) none)] false) .ret)) .skip)) (.seq (.reg [M 17 0, P 18 (.call (.c (.clo 54 [])) [(T 17), (C 256)]), M 19 0, P 20 (.call (.c (.clo 54 [])) [(T 19), (C 7)]), P 21 (.bin .shr (T 18) (T 20)), M 22 3, P 23 (.bin .quo (T 22) (C 9)), P 24 (.bin .sub (T 21) (T 23)), P 2 (.asg (T 24) none)] false) .ret))))
theorem dc72_c : (Tryd.f72.body.bind (cCode Tryd.prog Tryd.f72.ntmps)) = some dc72 := by kernel_rfl
theorem dc72_r : Tryd.f72.results.toList.mapM (cRes Tryd.prog) = some [(.t 2)] := by kernel_rfl
def draw_Codes_Int_enc (a : Tdraw_Codes) : List D := [edraw_Codes a]
def draw_Codes_Int_dec (ds : List D) : Tdraw_Codes := udraw_Codes (ds.getD 0 .top)
theorem draw_Codes_Int_de (a : Tdraw_Codes) : draw_Codes_Int_dec (draw_Codes_Int_enc a) = a := by simp [draw_Codes_Int_dec, draw_Codes_Int_enc]
def draw_Codes_Int_R (b : Int × Tdraw_Codes) : D := .int .i64 b.1
def draw_Codes_Int_E (b : Int × Tdraw_Codes) : List D := [edraw_Codes b.2]
noncomputable def draw_Codes_Int_S : Dw.Spec := fSpec [(0, (2, 100))] .val draw_Codes_Int_enc draw_Codes_Int_dec (fun a => draw_Codes_Int a) draw_Codes_Int_R draw_Codes_Int_E
set_option maxHeartbeats 4000000 in
theorem draw_Codes_Int_ok : SpecOk Tryd.prog 72 draw_Codes_Int_S := by
 refine fn_ok (specs_ok (l := [(54, draw_Codes_Next_S)]) (by simp [draw_Codes_Next_ok])) Tryd.func72 (by decide) dc72_c dc72_r (np := 1) (by decide) draw_Codes_Int_de (fun _ => rfl) (fun _ => rfl) (by decide) <| ?_
 intro c1
 show TrE (specs [(54, draw_Codes_Next_S)]) dc72 (kRet [(0, (2, 100))] .val [(.t 2)] draw_Codes_Int_R draw_Codes_Int_E) ⟨[(0, .optr 8192 0 0 0)], [(8192, some (0, ⟨false, true, 2, 100, [.agg [.sl (c1.list.map eU8), .int .i64 c1.at_]]⟩))], 262144⟩ (draw_Codes_Int c1)
 refine tr_ent <| ?_
 unfold dc72 draw_Codes_Int
 refine sQ <| rG <| aS rfl rfl <| nI <| xS <| sQ <| rG <| mV rfl rfl <| bD fun r2 hr2 => cV (c1, 12) rfl rfl rfl draw_Codes_Next_de rfl rfl (by simp) rfl hr2 <| aS rfl rfl <| nI <| xS <| sQ <| sQ <| rG <| mV rfl rfl <| bN (v := .bool (r2.1 == 11)) rfl rfl rfl rfl rfl <| nI <| xS <| cD (c := (r2.1 == 11)) rfl ?_ ?_
 ·refine sQ <| rG <| bS ([9223372036854775807, (-9223372036854775808), 2147483648, 2147483647, (-1), 16777216, 33554432, 1048577, 512, 80] : List Int) eI64 rfl rfl rfl (by simp) rfl rfl rfl <| aO (l := ([9223372036854775807, (-9223372036854775808), 2147483648, 2147483647, (-1), 16777216, 33554432, 1048577, 512, 80] : List Int)) (en := eI64) rfl rfl rfl rfl <| nI <| xS <| sQ <| rG <| mV rfl rfl <| mV rfl rfl <| mV rfl rfl <| lW rfl rfl <| bD fun r3 hr3 => cV (r2.2, (([9223372036854775807, (-9223372036854775808), 2147483648, 2147483647, (-1), 16777216, 33554432, 1048577, 512, 80] : List Int).length : Int)) rfl rfl rfl draw_Codes_Next_de rfl rfl (by simp) rfl hr3 <| cK fun hq => iO (l := ([9223372036854775807, (-9223372036854775808), 2147483648, 2147483647, (-1), 16777216, 33554432, 1048577, 512, 80] : List Int)) (en := eI64) rfl rfl rfl rfl rfl hq <| bD fun l_e4 hl_e4 => lO (v := .int .i64 l_e4) (z := eI64 l_e4) rfl rfl rfl (map_get hl_e4) rfl rfl <| aS rfl rfl <| nI <| xS <| rT <| xR <| ret_val (b := (l_e4, r3.2)) rfl ?_ rfl rfl ?_ rfl
  all_goals first|(simp;done)|(simp;omega)|rfl|(simp [isFro,isFro0];done)
 ·refine sK <| xS <| sQ <| rG <| mV rfl rfl <| bD fun r5 hr5 => cV (r2.2, 256) rfl rfl rfl draw_Codes_Next_de rfl rfl (by simp) rfl hr5 <| mV rfl rfl <| bD fun r6 hr6 => cV (r5.2, 7) rfl rfl rfl draw_Codes_Next_de rfl rfl (by simp) rfl hr6 <| cK fun hq => bN (v := .int .i64 (r5.1.fdiv (2 ^ (Nat.min r6.1.toNat IntKind.i64.bits)))) rfl rfl rfl rfl hq <| mV rfl rfl <| bN (v := .int .i64 (IntKind.i64.wrap (r2.1.tdiv 9))) rfl rfl rfl rfl ⟨rfl, (by decide)⟩ <| bN (v := .int .i64 (IntKind.i64.wrap ((r5.1.fdiv (2 ^ (Nat.min r6.1.toNat IntKind.i64.bits))) - (IntKind.i64.wrap (r2.1.tdiv 9))))) rfl rfl rfl rfl rfl <| aS rfl rfl <| nI <| xS <| rT <| ret_val (b := (IntKind.i64.wrap ((r5.1.fdiv (2 ^ (Nat.min r6.1.toNat IntKind.i64.bits))) - (IntKind.i64.wrap (r2.1.tdiv 9))), r6.2)) rfl ?_ rfl rfl ?_ rfl
  all_goals first|(simp;done)|(simp;omega)|rfl|(simp [isFro,isFro0];done)

end Go.Proofs.YtcelninhkmhjkaaDoor
