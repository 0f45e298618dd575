/-
  Programs on typed data, and the proofs that the code does what they say; written by a program (dx.py).
-/
import Derived.Test.YtihomlbcppfngaaProg
import Derived.Test.YtihomlbcppfngaaDx4
import Derived.KernelRfl
import Derived.Test.YtihomlbcppfngaaDxP
import Derived.Test.YtihomlbcppfngaaDxF1
import Derived.Test.YtihomlbcppfngaaDxF2
namespace Go.Proofs.Ytihomlbcppfngaa
open Go Go.Dw Go.Proofs
set_option maxRecDepth 100000
def dc16 : DCode := (.seq (.reg [⟨(some 4), (.asg (.c .nils) (some ⟨1, 3⟩)), none, []⟩] false) (.seq (.reg [⟨(some 5), (.asg (.c .nils) (some ⟨1, 3⟩)), none, []⟩] false) (.seq (.reg [⟨(some 8), (.mv (.t 1)), none, []⟩, ⟨(some 9), (.call (.c (.clo 28 [])) [(.t 8)]), none, []⟩, ⟨(some 10), (.un .not (.t 9)), none, []⟩, ⟨(some 6), (.asg (.t 10) none), none, []⟩] false) (.seq (.seq (.reg [⟨(some 7), (.asg (.c (.int .i64 0)) none), none, []⟩] false) (.block 0 (.loop (.seq (.seq (.reg [⟨(some 11), (.mv (.t 7)), none, []⟩, ⟨(some 12), (.mv (.t 0)), none, []⟩, ⟨(some 13), (.len false (.t 12)), none, []⟩, ⟨(some 14), (.bin .lss (.t 11) (.t 13)), none, []⟩] false) (.cond (.t 14) .skip (.exit 0))) (.seq (.block 1 (.seq (.seq (.reg [⟨(some 17), (.mv (.t 6)), none, []⟩, ⟨(some 18), (.un .not (.t 17)), none, []⟩, ⟨(some 19), (.mv (.t 18)), none, []⟩, ⟨(some 20), (.mv (.t 0)), (some ⟨19, true⟩), []⟩, ⟨(some 21), (.mv (.t 7)), (some ⟨19, true⟩), []⟩, ⟨(some 22), (.ixA 1 (.t 20) (.t 21)), (some ⟨19, true⟩), []⟩, ⟨(some 23), (.ld 1 false (.t 22)), (some ⟨19, true⟩), []⟩, ⟨(some 24), (.mv (.t 1)), (some ⟨19, true⟩), []⟩, ⟨(some 25), (.bin .geq (.t 23) (.t 24)), (some ⟨19, true⟩), []⟩, ⟨(some 26), (.pick (.t 19) (.t 25) (.c (.bool false))), none, []⟩] false) (.cond (.t 26) (.seq (.seq (.reg [⟨(some 27), (.mv (.t 0)), none, []⟩, ⟨(some 28), (.mv (.t 7)), none, []⟩, ⟨(some 29), (.ixA 1 (.t 27) (.t 28)), none, []⟩, ⟨(some 30), (.ld 1 false (.t 29)), none, []⟩, ⟨(some 31), (.mv (.t 1)), none, []⟩, ⟨(some 32), (.bin .gtr (.t 30) (.t 31)), none, []⟩] false) (.cond (.t 32) (.reg [⟨(some 33), (.mv (.t 5)), none, []⟩, ⟨(some 34), (.mv (.t 1)), none, []⟩, ⟨(some 35), (.bldS 1 3 (.int .i64 0) 1 [⟨0, (.t 34)⟩]), none, []⟩, ⟨(some 36), (.app 1 3 8 (.t 33) (.t 35)), none, []⟩, ⟨(some 5), (.asg (.t 36) (some ⟨1, 3⟩)), none, []⟩] false) .skip)) (.reg [⟨(some 6), (.asg (.c (.bool true)) none), none, []⟩] false)) .skip)) (.reg [⟨(some 37), (.mv (.t 5)), none, []⟩, ⟨(some 38), (.mv (.t 0)), none, []⟩, ⟨(some 39), (.mv (.t 7)), none, []⟩, ⟨(some 40), (.ixA 1 (.t 38) (.t 39)), none, []⟩, ⟨(some 41), (.ld 1 false (.t 40)), none, []⟩, ⟨(some 42), (.bldS 1 3 (.int .i64 0) 1 [⟨0, (.t 41)⟩]), none, []⟩, ⟨(some 43), (.app 1 3 8 (.t 37) (.t 42)), none, []⟩, ⟨(some 5), (.asg (.t 43) (some ⟨1, 3⟩)), none, []⟩] false))) (.reg [⟨(some 15), (.mv (.t 7)), none, []⟩, ⟨(some 16), (.bin .add (.t 15) (.c (.int .i64 1))), none, []⟩, ⟨(some 7), (.asg (.t 16) none), none, []⟩] false)))))) (.seq (.seq (.reg [⟨(some 44), (.mv (.t 6)), none, []⟩, ⟨(some 45), (.un .not (.t 44)), none, []⟩] false) (.cond (.t 45) (.reg [⟨(some 46), (.mv (.t 5)), none, []⟩, ⟨(some 47), (.mv (.t 1)), none, []⟩, ⟨(some 48), (.bldS 1 3 (.int .i64 0) 1 [⟨0, (.t 47)⟩]), none, []⟩, ⟨(some 49), (.app 1 3 8 (.t 46) (.t 48)), none, []⟩, ⟨(some 5), (.asg (.t 49) (some ⟨1, 3⟩)), none, []⟩] false) .skip)) (.seq (.reg [⟨(some 50), (.mv (.t 5)), none, []⟩, ⟨(some 4), (.asg (.t 50) (some ⟨1, 3⟩)), none, []⟩] false) .ret))))))
theorem dc16_c : (Try.f16.body.bind (cCode Try.prog Try.f16.ntmps)) = some dc16 := by kernel_rfl
theorem dc16_r : Try.f16.results.toList.mapM (cRes Try.prog) = some [(.t 4)] := by kernel_rfl
def ref04_Add_enc (a : (List Int) × Int) : List D := [.sl (a.1.map eI64), .int .i64 a.2]
def ref04_Add_dec (ds : List D) : (List Int) × Int := ((uL uI) (ds.getD 0 .top), uI (ds.getD 1 .top))
theorem ref04_Add_de (a : (List Int) × Int) : ref04_Add_dec (ref04_Add_enc a) = a := by simp [ref04_Add_dec, ref04_Add_enc, uI, uBo, uS, uL_e (u := uI) (en := eI64) (fun _ => rfl)]
def ref04_Add_R (b : (List Int)) : D := .sl (b.map eI64)
def ref04_Add_E (_b : (List Int)) : List D := []
noncomputable def ref04_Add_S : Dw.Spec := fSpec [] (.row 1 3) ref04_Add_enc ref04_Add_dec (fun a => ref04_Add a.1 a.2) ref04_Add_R ref04_Add_E
set_option maxHeartbeats 4000000 in
theorem ref04_Add_ok : SpecOk Try.prog 16 ref04_Add_S := by
  refine fn_ok (specs_ok (l := [(28, ref04_good_S)]) (by simp [ref04_good_ok])) Try.func16 (by decide) dc16_c dc16_r (np := 2) (by decide) ref04_Add_de (fun _ => rfl) ?_
  rintro ⟨s1, n2⟩
  show Tr (specs [(28, ref04_good_S)]) dc16 (kRet [] (.row 1 3) [(.t 4)] 2 ref04_Add_R ref04_Add_E) ⟨[(0, .sl (s1.map eI64)), (1, .int .i64 n2)], [], 2⟩ (ref04_Add s1 n2)
  unfold dc16 ref04_Add
  refine tr_seq ?_
  refine tr_reg ?_
  refine trO_asg_nil (α := Int) rfl eI64 rfl ?_
  refine trO_nil ?_
  refine trX_seq ?_
  refine tr_seq ?_
  refine tr_reg ?_
  refine trO_asg_nil (α := Int) rfl eI64 rfl ?_
  refine trO_nil ?_
  refine trX_seq ?_
  refine tr_seq ?_
  refine tr_reg ?_
  refine trO_mv rfl rfl ?_
  refine trO_bind fun r3 hr3 => ?_
  refine trO_call_ground n2 rfl rfl rfl ref04_good_de rfl rfl (by simp) rfl hr3 rfl ?_
  refine trO_un (w := .bool (!r3)) rfl rfl rfl rfl trivial ?_
  refine trO_asg rfl rfl ?_
  refine trO_nil ?_
  refine trX_seq ?_
  refine tr_seq ?_
  refine tr_seq ?_
  refine tr_reg ?_
  refine trO_asg rfl rfl ?_
  refine trO_nil ?_
  refine trX_seq ?_
  refine tr_block ?_
  refine tr_loop (E := fun (s : (List Int) × Bool × Int) (g : Nat) => [(0, .sl (s1.map eI64)), (1, .int .i64 n2), (5, .osl 5 g 0 s.1.length), (6, .bool s.2.1), (7, .int .i64 s.2.2)]) (O := fun s g => [(5, some (g, ⟨false, false, 1, 3, s.1.map eI64⟩))]) (body := fun s => ref04_Add_b1 s1 n2 s.1 s.2.1 s.2.2) (s := (([] : List Int), (!r3), 0)) _ (has_exact ⟨rfl, rfl, rfl, rfl, rfl, trivial⟩ ⟨rfl, trivial⟩) ?_
  rintro ⟨out4, done5, i6⟩ v5 nn
  show Tr _ _ _ ⟨[(0, .sl (s1.map eI64)), (1, .int .i64 n2), (5, .osl 5 v5 0 out4.length), (6, .bool done5), (7, .int .i64 i6)], [(5, some (v5, ⟨false, false, 1, 3, out4.map eI64⟩))], _⟩ (ref04_Add_b1 s1 n2 out4 done5 i6)
  unfold ref04_Add_b1
  refine tr_seq ?_
  refine tr_seq ?_
  refine tr_reg ?_
  refine trO_mv rfl rfl ?_
  refine trO_mv rfl rfl ?_
  refine trO_len_sl rfl rfl ?_
  refine trO_bin (v := .bool (decide (i6 < (s1.length : Int)))) rfl rfl rfl rfl rfl ?_
  refine trO_nil ?_
  refine trX_seq ?_
  refine tr_cond (c := (decide (i6 < (s1.length : Int)))) rfl ?_ ?_
  ·
    refine tr_skip ?_
    refine trX_seq ?_
    refine tr_seq ?_
    refine tr_block ?_
    refine tr_seq_cut (E := fun (s : (List Int) × Bool) (g : Nat) => [(0, .sl (s1.map eI64)), (1, .int .i64 n2), (5, .osl 5 g 0 s.1.length), (6, .bool s.2), (7, .int .i64 i6)]) (O := fun s g => [(5, some (g, ⟨false, false, 1, 3, s.1.map eI64⟩))]) (j := fun s => ref04_Add_j2 s1 i6 s.1 s.2) ?_ ?_
    ·
      refine tr_seq_cut (E := fun (s : Bool) (g : Nat) => [(0, .sl (s1.map eI64)), (1, .int .i64 n2), (5, .osl 5 g 0 out4.length), (6, .bool done5), (7, .int .i64 i6), (26, .bool s)]) (O := fun s g => [(5, some (g, ⟨false, false, 1, 3, out4.map eI64⟩))]) (j := fun s => ref04_Add_j3 s1 i6 n2 out4 done5 s) ?_ ?_
      ·
        refine tr_reg ?_
        refine trO_mv rfl rfl ?_
        refine trO_un (w := .bool (!done5)) rfl rfl rfl rfl trivial ?_
        refine trO_mv rfl rfl ?_
        refine trO_split 19 (b := (!done5)) rfl ?_ ?_
        ·
          refine trO_mv rfl rfl ?_
          refine trO_mv rfl rfl ?_
          refine trO_bind fun x_x10 hx_x10 => ?_
          refine trO_ixA_sl (en := eI64) rfl rfl rfl hx_x10 rfl ?_
          refine trO_ld_f (v := .int .i64 x_x10) rfl rfl rfl rfl ?_
          refine trO_mv rfl rfl ?_
          refine trO_bin (v := .bool (decide (x_x10 ≥ n2))) rfl rfl rfl rfl rfl ?_
          refine trO_pick_true rfl rfl rfl rfl ?_
          refine trO_nil ?_
          exact trX_cut (s := (decide (x_x10 ≥ n2))) _ (has_exact ⟨rfl, rfl, rfl, rfl, rfl, rfl, trivial⟩ ⟨rfl, trivial⟩)
        ·
          refine trO_off rfl ?_
          refine trO_off rfl ?_
          refine trO_off rfl ?_
          refine trO_off rfl ?_
          refine trO_off rfl ?_
          refine trO_off rfl ?_
          refine trO_pick_false rfl rfl rfl rfl ?_
          refine trO_nil ?_
          exact trX_cut (s := false) _ (has_exact ⟨rfl, rfl, rfl, rfl, rfl, rfl, trivial⟩ ⟨rfl, trivial⟩)
      ·
        rintro x9 v5 nn
        show Tr _ _ _ ⟨[(0, .sl (s1.map eI64)), (1, .int .i64 n2), (5, .osl 5 v5 0 out4.length), (6, .bool done5), (7, .int .i64 i6), (26, .bool x9)], [(5, some (v5, ⟨false, false, 1, 3, out4.map eI64⟩))], _⟩ (ref04_Add_j3 s1 i6 n2 out4 done5 x9)
        unfold ref04_Add_j3
        refine tr_cond (c := x9) rfl ?_ ?_
        ·
          refine tr_seq ?_
          refine tr_seq ?_
          refine tr_reg ?_
          refine trO_mv rfl rfl ?_
          refine trO_mv rfl rfl ?_
          refine trO_bind fun x_x11 hx_x11 => ?_
          refine trO_ixA_sl (en := eI64) rfl rfl rfl hx_x11 rfl ?_
          refine trO_ld_f (v := .int .i64 x_x11) rfl rfl rfl rfl ?_
          refine trO_mv rfl rfl ?_
          refine trO_bin (v := .bool (decide (x_x11 > n2))) rfl rfl rfl rfl rfl ?_
          refine trO_nil ?_
          refine trX_seq ?_
          refine tr_cond (c := (decide (x_x11 > n2))) rfl ?_ ?_
          ·
            refine tr_reg ?_
            refine trO_mv rfl rfl ?_
            refine trO_mv rfl rfl ?_
            refine trO_bldS ([n2] : List Int) eI64 rfl rfl rfl (by simp) rfl rfl rfl ?_
            refine trO_chk fun hq => ?_
            refine trO_app (out4) (([n2] : List Int)) eI64 rfl rfl rfl rfl rfl rfl rfl (by simp) (take_drop0_map' _ _ rfl) rfl rfl (by simp) (take_len_map' _ _ rfl) (fun _ => rfl) rfl hq ?_
            refine trO_asg_own (l := out4 ++ ([n2] : List Int)) (en := eI64) rfl rfl rfl rfl ?_
            refine trO_nil ?_
            refine trX_seq ?_
            refine tr_reg ?_
            refine trO_asg rfl rfl ?_
            refine trO_nil ?_
            exact trX_cut (s := (out4 ++ ([n2] : List Int), true)) _ (has_exact ⟨rfl, rfl, rfl, rfl, rfl, trivial⟩ ⟨rfl, trivial⟩)
          ·
            refine tr_skip ?_
            refine trX_seq ?_
            refine tr_reg ?_
            refine trO_asg rfl rfl ?_
            refine trO_nil ?_
            exact trX_cut (s := (out4, true)) _ (has_exact ⟨rfl, rfl, rfl, rfl, rfl, trivial⟩ ⟨rfl, trivial⟩)
        ·
          refine tr_skip ?_
          exact trX_cut (s := (out4, done5)) _ (has_exact ⟨rfl, rfl, rfl, rfl, rfl, trivial⟩ ⟨rfl, trivial⟩)
    ·
      rintro ⟨out7, done8⟩ v5 nn
      show Tr _ _ _ ⟨[(0, .sl (s1.map eI64)), (1, .int .i64 n2), (5, .osl 5 v5 0 out7.length), (6, .bool done8), (7, .int .i64 i6)], [(5, some (v5, ⟨false, false, 1, 3, out7.map eI64⟩))], _⟩ (ref04_Add_j2 s1 i6 out7 done8)
      unfold ref04_Add_j2
      refine tr_reg ?_
      refine trO_mv rfl rfl ?_
      refine trO_mv rfl rfl ?_
      refine trO_mv rfl rfl ?_
      refine trO_bind fun x_x12 hx_x12 => ?_
      refine trO_ixA_sl (en := eI64) rfl rfl rfl hx_x12 rfl ?_
      refine trO_ld_f (v := .int .i64 x_x12) rfl rfl rfl rfl ?_
      refine trO_bldS ([x_x12] : List Int) eI64 rfl rfl rfl (by simp) rfl rfl rfl ?_
      refine trO_chk fun hq => ?_
      refine trO_app (out7) (([x_x12] : List Int)) eI64 rfl rfl rfl rfl rfl rfl rfl (by simp) (take_drop0_map' _ _ rfl) rfl rfl (by simp) (take_len_map' _ _ rfl) (fun _ => rfl) rfl hq ?_
      refine trO_asg_own (l := out7 ++ ([x_x12] : List Int)) (en := eI64) rfl rfl rfl rfl ?_
      refine trO_nil ?_
      refine trX_blk_normal ?_
      refine trX_seq ?_
      refine tr_reg ?_
      refine trO_mv rfl rfl ?_
      refine trO_bin (v := .int .i64 (IntKind.i64.wrap (i6 + 1))) rfl rfl rfl rfl rfl ?_
      refine trO_asg rfl rfl ?_
      refine trO_nil ?_
      exact trX_loop (s := (out7 ++ ([x_x12] : List Int), done8, IntKind.i64.wrap (i6 + 1))) _ (has_exact ⟨rfl, rfl, rfl, rfl, rfl, trivial⟩ ⟨rfl, trivial⟩)
  ·
    refine tr_exit ?_
    refine trX_seq_exit ?_
    refine trX_loop_exit ?_
    refine trX_blk_here ?_
    refine trX_seq ?_
    refine tr_seq ?_
    refine tr_seq ?_
    refine tr_reg ?_
    refine trO_mv rfl rfl ?_
    refine trO_un (w := .bool (!done5)) rfl rfl rfl rfl trivial ?_
    refine trO_nil ?_
    refine trX_seq ?_
    refine tr_cond (c := (!done5)) rfl ?_ ?_
    ·
      refine tr_reg ?_
      refine trO_mv rfl rfl ?_
      refine trO_mv rfl rfl ?_
      refine trO_bldS ([n2] : List Int) eI64 rfl rfl rfl (by simp) rfl rfl rfl ?_
      refine trO_chk fun hq => ?_
      refine trO_app (out4) (([n2] : List Int)) eI64 rfl rfl rfl rfl rfl rfl rfl (by simp) (take_drop0_map' _ _ rfl) rfl rfl (by simp) (take_len_map' _ _ rfl) (fun _ => rfl) rfl hq ?_
      refine trO_asg_own (l := out4 ++ ([n2] : List Int)) (en := eI64) rfl rfl rfl rfl ?_
      refine trO_nil ?_
      refine trX_seq ?_
      refine tr_seq ?_
      refine tr_reg ?_
      refine trO_mv rfl rfl ?_
      refine trO_asg_own (l := out4 ++ ([n2] : List Int)) (en := eI64) rfl rfl rfl rfl ?_
      refine trO_nil ?_
      refine trX_seq ?_
      refine tr_ret ?_
      exact ret_row (b := out4 ++ ([n2] : List Int)) rfl (by first | (simp; done) | (simp; omega)) rfl rfl (by first | (simp; done) | (simp; omega)) rfl (by first | (simp; done) | (simp; omega)) (congrArg D.sl (take_len_map' _ _ rfl)) rfl
    ·
      refine tr_skip ?_
      refine trX_seq ?_
      refine tr_seq ?_
      refine tr_reg ?_
      refine trO_mv rfl rfl ?_
      refine trO_asg_own (l := out4) (en := eI64) rfl rfl rfl rfl ?_
      refine trO_nil ?_
      refine trX_seq ?_
      refine tr_ret ?_
      exact ret_row (b := out4) rfl (by first | (simp; done) | (simp; omega)) rfl rfl (by first | (simp; done) | (simp; omega)) rfl (by first | (simp; done) | (simp; omega)) (congrArg D.sl (take_len_map' _ _ rfl)) rfl

def dc55 : DCode := (.seq (.reg [⟨(some 2), (.box (.t 0) 3 27), none, []⟩, ⟨(some 4), (.asg (.c .nils) (some ⟨1, 3⟩)), none, []⟩] false) (.seq (.seq (.reg [⟨(some 6), (.mv (.t 1)), none, []⟩, ⟨(some 7), (.bin .lss (.t 6) (.c (.int .i64 0))), none, []⟩, ⟨(some 8), (.mv (.t 7)), none, []⟩, ⟨(some 9), (.mv (.t 1)), (some ⟨8, false⟩), []⟩, ⟨(some 10), (.fldA 2 (.t 2)), (some ⟨8, false⟩), []⟩, ⟨(some 11), (.ld 1 false (.t 10)), (some ⟨8, false⟩), []⟩, ⟨(some 12), (.len false (.t 11)), (some ⟨8, false⟩), []⟩, ⟨(some 13), (.bin .geq (.t 9) (.t 12)), (some ⟨8, false⟩), []⟩, ⟨(some 14), (.pick (.t 8) (.c (.bool true)) (.t 13)), none, []⟩] false) (.cond (.t 14) (.seq (.reg [⟨(some 4), (.asg (.c .nils) (some ⟨1, 3⟩)), none, []⟩] false) .ret) .skip)) (.seq (.reg [⟨(some 15), (.fldA 2 (.t 2)), none, []⟩, ⟨(some 16), (.ld 1 false (.t 15)), none, []⟩, ⟨(some 17), (.mv (.t 1)), none, []⟩, ⟨(some 18), (.ixA 5 (.t 16) (.t 17)), none, []⟩, ⟨(some 19), (.ld 5 true (.t 18)), none, []⟩, ⟨(some 5), (.new (.agg [(.int .i64 0), (.int .i64 0), (.int .i64 0), (.int .i64 0), (.int .u64 0)]) 5 52), none, []⟩, ⟨none, (.st 5 (.t 5) (.t 19)), none, []⟩] false) (.seq (.seq (.reg [⟨(some 20), (.fldA 0 (.t 5)), none, []⟩, ⟨(some 21), (.ld 1 false (.t 20)), none, []⟩] false) (.block 0 (.seq (.reg [⟨(some 23), (.bin .eql (.t 21) (.c (.int .i64 20))), none, []⟩, ⟨(some 22), (.asg (.t 23) none), none, []⟩] false) (.cond (.t 22) (.seq (.reg [⟨(some 24), (.fldA 1 (.t 5)), none, []⟩, ⟨(some 25), (.ld 1 false (.t 24)), none, []⟩, ⟨(some 26), (.bldS 1 3 (.int .i64 0) 1 [⟨0, (.t 25)⟩]), none, []⟩, ⟨(some 4), (.asg (.t 26) (some ⟨1, 3⟩)), none, []⟩] false) .ret) (.seq (.seq (.reg [⟨(some 28), (.bin .eql (.t 21) (.c (.int .i64 23))), none, []⟩, ⟨(some 27), (.asg (.t 28) none), none, []⟩] false) (.cond (.t 27) .skip (.reg [⟨(some 29), (.bin .eql (.t 21) (.c (.int .i64 24))), none, []⟩, ⟨(some 27), (.asg (.t 29) none), none, []⟩] false))) (.cond (.t 27) (.seq (.reg [⟨(some 4), (.asg (.c .nils) (some ⟨1, 3⟩)), none, []⟩] false) .ret) (.seq (.reg [⟨(some 31), (.bin .eql (.t 21) (.c (.int .i64 21))), none, []⟩, ⟨(some 30), (.asg (.t 31) none), none, []⟩] false) (.cond (.t 30) (.block 1 (.seq (.reg [⟨(some 33), (.fldA 2 (.t 5)), none, []⟩, ⟨(some 34), (.ld 1 false (.t 33)), none, []⟩, ⟨(some 35), (.mv (.t 1)), none, []⟩, ⟨(some 36), (.bin .add (.t 35) (.c (.int .i64 1))), none, []⟩, ⟨(some 37), (.bin .lss (.t 34) (.t 36)), none, []⟩, ⟨(some 32), (.asg (.t 37) none), none, []⟩] false) (.cond (.t 32) (.seq (.reg [⟨(some 38), (.fldA 2 (.t 5)), none, []⟩, ⟨(some 39), (.ld 1 false (.t 38)), none, []⟩, ⟨(some 40), (.mv (.t 1)), none, []⟩, ⟨(some 41), (.bin .add (.t 40) (.c (.int .i64 1))), none, []⟩, ⟨(some 42), (.bldS 1 3 (.int .i64 0) 2 [⟨0, (.t 39)⟩, ⟨1, (.t 41)⟩]), none, []⟩, ⟨(some 4), (.asg (.t 42) (some ⟨1, 3⟩)), none, []⟩] false) .ret) (.seq (.reg [⟨(some 44), (.fldA 2 (.t 5)), none, []⟩, ⟨(some 45), (.ld 1 false (.t 44)), none, []⟩, ⟨(some 46), (.mv (.t 1)), none, []⟩, ⟨(some 47), (.bin .add (.t 46) (.c (.int .i64 1))), none, []⟩, ⟨(some 48), (.bin .gtr (.t 45) (.t 47)), none, []⟩, ⟨(some 43), (.asg (.t 48) none), none, []⟩] false) (.cond (.t 43) (.seq (.reg [⟨(some 49), (.mv (.t 1)), none, []⟩, ⟨(some 50), (.bin .add (.t 49) (.c (.int .i64 1))), none, []⟩, ⟨(some 51), (.fldA 2 (.t 5)), none, []⟩, ⟨(some 52), (.ld 1 false (.t 51)), none, []⟩, ⟨(some 53), (.bldS 1 3 (.int .i64 0) 2 [⟨0, (.t 50)⟩, ⟨1, (.t 52)⟩]), none, []⟩, ⟨(some 4), (.asg (.t 53) (some ⟨1, 3⟩)), none, []⟩] false) .ret) .skip))))) .skip)))))))) (.seq (.reg [⟨(some 54), (.mv (.t 1)), none, []⟩, ⟨(some 55), (.bin .add (.t 54) (.c (.int .i64 1))), none, []⟩, ⟨(some 56), (.bldS 1 3 (.int .i64 0) 1 [⟨0, (.t 55)⟩]), none, []⟩, ⟨(some 4), (.asg (.t 56) (some ⟨1, 3⟩)), none, []⟩] false) .ret)))))
theorem dc55_c : (Try.f55.body.bind (cCode Try.prog Try.f55.ntmps)) = some dc55 := by kernel_rfl
theorem dc55_r : Try.f55.results.toList.mapM (cRes Try.prog) = some [(.t 4)] := by kernel_rfl
def ref13_Next_enc (a : TFunc × Int) : List D := [eFunc a.1, .int .i64 a.2]
def ref13_Next_dec (ds : List D) : TFunc × Int := (uFunc (ds.getD 0 .top), uI (ds.getD 1 .top))
theorem ref13_Next_de (a : TFunc × Int) : ref13_Next_dec (ref13_Next_enc a) = a := by simp [ref13_Next_dec, ref13_Next_enc, uI, uBo, uS]
def ref13_Next_R (b : (List Int)) : D := .sl (b.map eI64)
def ref13_Next_E (_b : (List Int)) : List D := []
noncomputable def ref13_Next_S : Dw.Spec := fSpec [] (.row 1 3) ref13_Next_enc ref13_Next_dec (fun a => ref13_Next a.1 a.2) ref13_Next_R ref13_Next_E
set_option maxHeartbeats 4000000 in
theorem ref13_Next_ok : SpecOk Try.prog 55 ref13_Next_S := by
  refine fn_ok (specs_nil) Try.func55 (by decide) dc55_c dc55_r (np := 2) (by decide) ref13_Next_de (fun _ => rfl) ?_
  rintro ⟨f1, k2⟩
  show Tr (specs []) dc55 (kRet [] (.row 1 3) [(.t 4)] 2 ref13_Next_R ref13_Next_E) ⟨[(0, .agg [.int .i64 f1.Params, .sl (f1.Slots.map eSlot), .sl (f1.Code.map eInstr)]), (1, .int .i64 k2)], [], 2⟩ (ref13_Next f1 k2)
  unfold dc55 ref13_Next
  refine tr_seq ?_
  refine tr_reg ?_
  refine trO_box rfl rfl rfl rfl rfl ?_
  refine trO_asg_nil (α := Int) rfl eI64 rfl ?_
  refine trO_nil ?_
  refine trX_seq ?_
  refine tr_seq_cut (E := fun (s : Unit) (g : Nat) => [(1, .int .i64 k2), (2, .optr 2 g 0 0)]) (O := fun s g => [(2, some (g, ⟨false, true, 3, 27, [.agg [.int .i64 f1.Params, .sl (f1.Slots.map eSlot), .sl (f1.Code.map eInstr)]]⟩))]) (j := fun s => ref13_Next_j1 f1 k2) ?_ ?_
  ·
    refine tr_seq ?_
    refine tr_reg ?_
    refine trO_mv rfl rfl ?_
    refine trO_bin (v := .bool (decide (k2 < 0))) rfl rfl rfl rfl rfl ?_
    refine trO_mv rfl rfl ?_
    refine trO_split 8 (b := (decide (k2 < 0))) rfl ?_ ?_
    ·
      refine trO_off rfl ?_
      refine trO_off rfl ?_
      refine trO_off rfl ?_
      refine trO_off rfl ?_
      refine trO_off rfl ?_
      refine trO_pick_true rfl rfl rfl rfl ?_
      refine trO_nil ?_
      refine trX_seq ?_
      refine tr_cond_true rfl ?_
      refine tr_seq ?_
      refine tr_reg ?_
      refine trO_asg_nil (α := Int) rfl eI64 rfl ?_
      refine trO_nil ?_
      refine trX_seq ?_
      refine tr_ret ?_
      refine trX_cut_ret ?_
      exact ret_row (b := ([] : List Int)) rfl (by first | (simp; done) | (simp; omega)) rfl rfl (by first | (simp; done) | (simp; omega)) rfl (by first | (simp; done) | (simp; omega)) (congrArg D.sl (take_len_map' _ _ rfl)) rfl
    ·
      refine trO_mv rfl rfl ?_
      refine trO_fldA rfl rfl ?_
      refine trO_ld_obj (v := .sl (f1.Code.map eInstr)) (z := .agg [.int .i64 f1.Params, .sl (f1.Slots.map eSlot), .sl (f1.Code.map eInstr)]) rfl rfl rfl rfl rfl rfl ?_
      refine trO_len_sl rfl rfl ?_
      refine trO_bin (v := .bool (decide (k2 ≥ (f1.Code.length : Int)))) rfl rfl rfl rfl rfl ?_
      refine trO_pick_false rfl rfl rfl rfl ?_
      refine trO_nil ?_
      refine trX_seq ?_
      refine tr_cond (c := (decide (k2 ≥ (f1.Code.length : Int)))) rfl ?_ ?_
      ·
        refine tr_seq ?_
        refine tr_reg ?_
        refine trO_asg_nil (α := Int) rfl eI64 rfl ?_
        refine trO_nil ?_
        refine trX_seq ?_
        refine tr_ret ?_
        refine trX_cut_ret ?_
        exact ret_row (b := ([] : List Int)) rfl (by first | (simp; done) | (simp; omega)) rfl rfl (by first | (simp; done) | (simp; omega)) rfl (by first | (simp; done) | (simp; omega)) (congrArg D.sl (take_len_map' _ _ rfl)) rfl
      ·
        refine tr_skip ?_
        exact trX_cut (s := ()) _ (has_exact ⟨rfl, rfl, trivial⟩ ⟨rfl, trivial⟩)
  ·
    rintro ⟨⟩ v2 nn
    show Tr _ _ _ ⟨[(1, .int .i64 k2), (2, .optr 2 v2 0 0)], [(2, some (v2, ⟨false, true, 3, 27, [.agg [.int .i64 f1.Params, .sl (f1.Slots.map eSlot), .sl (f1.Code.map eInstr)]]⟩))], _⟩ (ref13_Next_j1 f1 k2)
    unfold ref13_Next_j1
    refine tr_seq ?_
    refine tr_reg ?_
    refine trO_fldA rfl rfl ?_
    refine trO_ld_obj (v := .sl (f1.Code.map eInstr)) (z := .agg [.int .i64 f1.Params, .sl (f1.Slots.map eSlot), .sl (f1.Code.map eInstr)]) rfl rfl rfl rfl rfl rfl ?_
    refine trO_mv rfl rfl ?_
    refine trO_bind fun x_x3 hx_x3 => ?_
    refine trO_ixA_sl (en := eInstr) rfl rfl rfl hx_x3 rfl ?_
    refine trO_ld_f (v := .agg [.int .i64 x_x3.Op, .int .i64 x_x3.A, .int .i64 x_x3.B, .int .i64 x_x3.C, .int .u64 x_x3.Imm]) rfl rfl rfl rfl ?_
    refine trO_new rfl ?_
    refine trO_st_var (z' := .agg [.int .i64 x_x3.Op, .int .i64 x_x3.A, .int .i64 x_x3.B, .int .i64 x_x3.C, .int .u64 x_x3.Imm]) rfl rfl rfl rfl rfl rfl rfl rfl rfl ?_
    refine trO_nil ?_
    refine trX_seq ?_
    refine tr_seq ?_
    refine tr_seq ?_
    refine tr_reg ?_
    refine trO_fldA rfl rfl ?_
    refine trO_ld_obj (v := .int .i64 x_x3.Op) (z := .agg [.int .i64 x_x3.Op, .int .i64 x_x3.A, .int .i64 x_x3.B, .int .i64 x_x3.C, .int .u64 x_x3.Imm]) rfl rfl rfl rfl rfl rfl ?_
    refine trO_nil ?_
    refine trX_seq ?_
    refine tr_block ?_
    refine tr_seq ?_
    refine tr_reg ?_
    refine trO_bin (v := .bool (x_x3.Op == 20)) rfl rfl rfl rfl rfl ?_
    refine trO_asg rfl rfl ?_
    refine trO_nil ?_
    refine trX_seq ?_
    refine tr_cond (c := (x_x3.Op == 20)) rfl ?_ ?_
    ·
      refine tr_seq ?_
      refine tr_reg ?_
      refine trO_fldA rfl rfl ?_
      refine trO_ld_obj (v := .int .i64 x_x3.A) (z := .agg [.int .i64 x_x3.Op, .int .i64 x_x3.A, .int .i64 x_x3.B, .int .i64 x_x3.C, .int .u64 x_x3.Imm]) rfl rfl rfl rfl rfl rfl ?_
      refine trO_bldS ([x_x3.A] : List Int) eI64 rfl rfl rfl (by simp) rfl rfl rfl ?_
      refine trO_asg_own (l := ([x_x3.A] : List Int)) (en := eI64) rfl rfl rfl rfl ?_
      refine trO_nil ?_
      refine trX_seq ?_
      refine tr_ret ?_
      refine trX_blk_ret ?_
      refine trX_seq_ret ?_
      exact ret_row (b := ([x_x3.A] : List Int)) rfl (by first | (simp; done) | (simp; omega)) rfl rfl (by first | (simp; done) | (simp; omega)) rfl (by first | (simp; done) | (simp; omega)) (congrArg D.sl (take_len_map' _ _ rfl)) rfl
    ·
      refine tr_seq_cut (E := fun (s : Bool) (g : Nat) => [(1, .int .i64 k2), (5, .optr 5 g 0 0), (21, .int .i64 x_x3.Op), (27, .bool s)]) (O := fun s g => [(5, some (g, ⟨false, true, 5, 52, [.agg [.int .i64 x_x3.Op, .int .i64 x_x3.A, .int .i64 x_x3.B, .int .i64 x_x3.C, .int .u64 x_x3.Imm]]⟩))]) (j := fun s => ref13_Next_j2 x_x3 k2 s) ?_ ?_
      ·
        refine tr_seq ?_
        refine tr_reg ?_
        refine trO_bin (v := .bool (x_x3.Op == 23)) rfl rfl rfl rfl rfl ?_
        refine trO_asg rfl rfl ?_
        refine trO_nil ?_
        refine trX_seq ?_
        refine tr_cond (c := (x_x3.Op == 23)) rfl ?_ ?_
        ·
          refine tr_skip ?_
          exact trX_cut (s := (x_x3.Op == 23)) _ (has_exact ⟨rfl, rfl, rfl, rfl, trivial⟩ ⟨rfl, trivial⟩)
        ·
          refine tr_reg ?_
          refine trO_bin (v := .bool (x_x3.Op == 24)) rfl rfl rfl rfl rfl ?_
          refine trO_asg rfl rfl ?_
          refine trO_nil ?_
          exact trX_cut (s := (x_x3.Op == 24)) _ (has_exact ⟨rfl, rfl, rfl, rfl, trivial⟩ ⟨rfl, trivial⟩)
      ·
        rintro x4 v5 nn
        show Tr _ _ _ ⟨[(1, .int .i64 k2), (5, .optr 5 v5 0 0), (21, .int .i64 x_x3.Op), (27, .bool x4)], [(5, some (v5, ⟨false, true, 5, 52, [.agg [.int .i64 x_x3.Op, .int .i64 x_x3.A, .int .i64 x_x3.B, .int .i64 x_x3.C, .int .u64 x_x3.Imm]]⟩))], _⟩ (ref13_Next_j2 x_x3 k2 x4)
        unfold ref13_Next_j2
        refine tr_cond (c := x4) rfl ?_ ?_
        ·
          refine tr_seq ?_
          refine tr_reg ?_
          refine trO_asg_nil (α := Int) rfl eI64 rfl ?_
          refine trO_nil ?_
          refine trX_seq ?_
          refine tr_ret ?_
          refine trX_blk_ret ?_
          refine trX_seq_ret ?_
          exact ret_row (b := ([] : List Int)) rfl (by first | (simp; done) | (simp; omega)) rfl rfl (by first | (simp; done) | (simp; omega)) rfl (by first | (simp; done) | (simp; omega)) (congrArg D.sl (take_len_map' _ _ rfl)) rfl
        ·
          refine tr_seq ?_
          refine tr_reg ?_
          refine trO_bin (v := .bool (x_x3.Op == 21)) rfl rfl rfl rfl rfl ?_
          refine trO_asg rfl rfl ?_
          refine trO_nil ?_
          refine trX_seq ?_
          refine tr_cond (c := (x_x3.Op == 21)) rfl ?_ ?_
          ·
            refine tr_block ?_
            refine tr_seq ?_
            refine tr_reg ?_
            refine trO_fldA rfl rfl ?_
            refine trO_ld_obj (v := .int .i64 x_x3.B) (z := .agg [.int .i64 x_x3.Op, .int .i64 x_x3.A, .int .i64 x_x3.B, .int .i64 x_x3.C, .int .u64 x_x3.Imm]) rfl rfl rfl rfl rfl rfl ?_
            refine trO_mv rfl rfl ?_
            refine trO_bin (v := .int .i64 (IntKind.i64.wrap (k2 + 1))) rfl rfl rfl rfl rfl ?_
            refine trO_bin (v := .bool (decide (x_x3.B < (IntKind.i64.wrap (k2 + 1))))) rfl rfl rfl rfl rfl ?_
            refine trO_asg rfl rfl ?_
            refine trO_nil ?_
            refine trX_seq ?_
            refine tr_cond (c := (decide (x_x3.B < (IntKind.i64.wrap (k2 + 1))))) rfl ?_ ?_
            ·
              refine tr_seq ?_
              refine tr_reg ?_
              refine trO_fldA rfl rfl ?_
              refine trO_ld_obj (v := .int .i64 x_x3.B) (z := .agg [.int .i64 x_x3.Op, .int .i64 x_x3.A, .int .i64 x_x3.B, .int .i64 x_x3.C, .int .u64 x_x3.Imm]) rfl rfl rfl rfl rfl rfl ?_
              refine trO_mv rfl rfl ?_
              refine trO_bin (v := .int .i64 (IntKind.i64.wrap (k2 + 1))) rfl rfl rfl rfl rfl ?_
              refine trO_bldS ([x_x3.B, IntKind.i64.wrap (k2 + 1)] : List Int) eI64 rfl rfl rfl (by simp) rfl rfl rfl ?_
              refine trO_asg_own (l := ([x_x3.B, IntKind.i64.wrap (k2 + 1)] : List Int)) (en := eI64) rfl rfl rfl rfl ?_
              refine trO_nil ?_
              refine trX_seq ?_
              refine tr_ret ?_
              refine trX_blk_ret ?_
              refine trX_blk_ret ?_
              refine trX_seq_ret ?_
              exact ret_row (b := ([x_x3.B, IntKind.i64.wrap (k2 + 1)] : List Int)) rfl (by first | (simp; done) | (simp; omega)) rfl rfl (by first | (simp; done) | (simp; omega)) rfl (by first | (simp; done) | (simp; omega)) (congrArg D.sl (take_len_map' _ _ rfl)) rfl
            ·
              refine tr_seq ?_
              refine tr_reg ?_
              refine trO_fldA rfl rfl ?_
              refine trO_ld_obj (v := .int .i64 x_x3.B) (z := .agg [.int .i64 x_x3.Op, .int .i64 x_x3.A, .int .i64 x_x3.B, .int .i64 x_x3.C, .int .u64 x_x3.Imm]) rfl rfl rfl rfl rfl rfl ?_
              refine trO_mv rfl rfl ?_
              refine trO_bin (v := .int .i64 (IntKind.i64.wrap (k2 + 1))) rfl rfl rfl rfl rfl ?_
              refine trO_bin (v := .bool (decide (x_x3.B > (IntKind.i64.wrap (k2 + 1))))) rfl rfl rfl rfl rfl ?_
              refine trO_asg rfl rfl ?_
              refine trO_nil ?_
              refine trX_seq ?_
              refine tr_cond (c := (decide (x_x3.B > (IntKind.i64.wrap (k2 + 1))))) rfl ?_ ?_
              ·
                refine tr_seq ?_
                refine tr_reg ?_
                refine trO_mv rfl rfl ?_
                refine trO_bin (v := .int .i64 (IntKind.i64.wrap (k2 + 1))) rfl rfl rfl rfl rfl ?_
                refine trO_fldA rfl rfl ?_
                refine trO_ld_obj (v := .int .i64 x_x3.B) (z := .agg [.int .i64 x_x3.Op, .int .i64 x_x3.A, .int .i64 x_x3.B, .int .i64 x_x3.C, .int .u64 x_x3.Imm]) rfl rfl rfl rfl rfl rfl ?_
                refine trO_bldS ([IntKind.i64.wrap (k2 + 1), x_x3.B] : List Int) eI64 rfl rfl rfl (by simp) rfl rfl rfl ?_
                refine trO_asg_own (l := ([IntKind.i64.wrap (k2 + 1), x_x3.B] : List Int)) (en := eI64) rfl rfl rfl rfl ?_
                refine trO_nil ?_
                refine trX_seq ?_
                refine tr_ret ?_
                refine trX_blk_ret ?_
                refine trX_blk_ret ?_
                refine trX_seq_ret ?_
                exact ret_row (b := ([IntKind.i64.wrap (k2 + 1), x_x3.B] : List Int)) rfl (by first | (simp; done) | (simp; omega)) rfl rfl (by first | (simp; done) | (simp; omega)) rfl (by first | (simp; done) | (simp; omega)) (congrArg D.sl (take_len_map' _ _ rfl)) rfl
              ·
                refine tr_skip ?_
                refine trX_blk_normal ?_
                refine trX_blk_normal ?_
                refine trX_seq ?_
                refine tr_seq ?_
                refine tr_reg ?_
                refine trO_mv rfl rfl ?_
                refine trO_bin (v := .int .i64 (IntKind.i64.wrap (k2 + 1))) rfl rfl rfl rfl rfl ?_
                refine trO_bldS ([IntKind.i64.wrap (k2 + 1)] : List Int) eI64 rfl rfl rfl (by simp) rfl rfl rfl ?_
                refine trO_asg_own (l := ([IntKind.i64.wrap (k2 + 1)] : List Int)) (en := eI64) rfl rfl rfl rfl ?_
                refine trO_nil ?_
                refine trX_seq ?_
                refine tr_ret ?_
                exact ret_row (b := ([IntKind.i64.wrap (k2 + 1)] : List Int)) rfl (by first | (simp; done) | (simp; omega)) rfl rfl (by first | (simp; done) | (simp; omega)) rfl (by first | (simp; done) | (simp; omega)) (congrArg D.sl (take_len_map' _ _ rfl)) rfl
          ·
            refine tr_skip ?_
            refine trX_blk_normal ?_
            refine trX_seq ?_
            refine tr_seq ?_
            refine tr_reg ?_
            refine trO_mv rfl rfl ?_
            refine trO_bin (v := .int .i64 (IntKind.i64.wrap (k2 + 1))) rfl rfl rfl rfl rfl ?_
            refine trO_bldS ([IntKind.i64.wrap (k2 + 1)] : List Int) eI64 rfl rfl rfl (by simp) rfl rfl rfl ?_
            refine trO_asg_own (l := ([IntKind.i64.wrap (k2 + 1)] : List Int)) (en := eI64) rfl rfl rfl rfl ?_
            refine trO_nil ?_
            refine trX_seq ?_
            refine tr_ret ?_
            exact ret_row (b := ([IntKind.i64.wrap (k2 + 1)] : List Int)) rfl (by first | (simp; done) | (simp; omega)) rfl rfl (by first | (simp; done) | (simp; omega)) rfl (by first | (simp; done) | (simp; omega)) (congrArg D.sl (take_len_map' _ _ rfl)) rfl

def dc56 : DCode := (.seq (.reg [⟨(some 4), (.asg (.c .nils) (some ⟨1, 3⟩)), none, []⟩] false) (.seq (.reg [⟨(some 7), (.mv (.t 0)), none, []⟩, ⟨(some 8), (.app 1 3 8 (.c .nils) (.t 7)), none, []⟩, ⟨(some 5), (.asg (.t 8) (some ⟨1, 3⟩)), none, []⟩] false) (.seq (.seq (.reg [⟨(some 6), (.asg (.c (.int .i64 0)) none), none, []⟩] false) (.block 0 (.loop (.seq (.seq (.reg [⟨(some 9), (.mv (.t 6)), none, []⟩, ⟨(some 10), (.mv (.t 1)), none, []⟩, ⟨(some 11), (.len false (.t 10)), none, []⟩, ⟨(some 12), (.bin .lss (.t 9) (.t 11)), none, []⟩] false) (.cond (.t 12) .skip (.exit 0))) (.seq (.block 1 (.reg [⟨(some 15), (.mv (.t 5)), none, []⟩, ⟨(some 16), (.mv (.t 1)), none, []⟩, ⟨(some 17), (.mv (.t 6)), none, []⟩, ⟨(some 18), (.ixA 1 (.t 16) (.t 17)), none, []⟩, ⟨(some 19), (.ld 1 false (.t 18)), none, []⟩, ⟨(some 20), (.call (.c (.clo 16 [])) [(.t 15), (.t 19)]), none, []⟩, ⟨(some 5), (.asg (.t 20) (some ⟨1, 3⟩)), none, []⟩] false)) (.reg [⟨(some 13), (.mv (.t 6)), none, []⟩, ⟨(some 14), (.bin .add (.t 13) (.c (.int .i64 1))), none, []⟩, ⟨(some 6), (.asg (.t 14) none), none, []⟩] false)))))) (.seq (.reg [⟨(some 21), (.mv (.t 5)), none, []⟩, ⟨(some 4), (.asg (.t 21) (some ⟨1, 3⟩)), none, []⟩] false) .ret))))
theorem dc56_c : (Try.f56.body.bind (cCode Try.prog Try.f56.ntmps)) = some dc56 := by kernel_rfl
theorem dc56_r : Try.f56.results.toList.mapM (cRes Try.prog) = some [(.t 4)] := by kernel_rfl
def ref04_Union_enc (a : (List Int) × (List Int)) : List D := [.sl (a.1.map eI64), .sl (a.2.map eI64)]
def ref04_Union_dec (ds : List D) : (List Int) × (List Int) := ((uL uI) (ds.getD 0 .top), (uL uI) (ds.getD 1 .top))
theorem ref04_Union_de (a : (List Int) × (List Int)) : ref04_Union_dec (ref04_Union_enc a) = a := by simp [ref04_Union_dec, ref04_Union_enc, uI, uBo, uS, uL_e (u := uI) (en := eI64) (fun _ => rfl)]
def ref04_Union_R (b : (List Int)) : D := .sl (b.map eI64)
def ref04_Union_E (_b : (List Int)) : List D := []
noncomputable def ref04_Union_S : Dw.Spec := fSpec [] (.row 1 3) ref04_Union_enc ref04_Union_dec (fun a => ref04_Union a.1 a.2) ref04_Union_R ref04_Union_E
set_option maxHeartbeats 4000000 in
theorem ref04_Union_ok : SpecOk Try.prog 56 ref04_Union_S := by
  refine fn_ok (specs_ok (l := [(16, ref04_Add_S)]) (by simp [ref04_Add_ok])) Try.func56 (by decide) dc56_c dc56_r (np := 2) (by decide) ref04_Union_de (fun _ => rfl) ?_
  rintro ⟨a1, b2⟩
  show Tr (specs [(16, ref04_Add_S)]) dc56 (kRet [] (.row 1 3) [(.t 4)] 2 ref04_Union_R ref04_Union_E) ⟨[(0, .sl (a1.map eI64)), (1, .sl (b2.map eI64))], [], 2⟩ (ref04_Union a1 b2)
  unfold dc56 ref04_Union
  refine tr_seq ?_
  refine tr_reg ?_
  refine trO_asg_nil (α := Int) rfl eI64 rfl ?_
  refine trO_nil ?_
  refine trX_seq ?_
  refine tr_seq ?_
  refine tr_reg ?_
  refine trO_mv rfl rfl ?_
  refine trO_chk fun hq => ?_
  refine trO_app (([] : List Int)) (a1) eI64 rfl rfl rfl rfl rfl rfl rfl (by simp) rfl rfl rfl (by simp) rfl (fun _ => rfl) rfl hq ?_
  refine trO_asg_own (l := ([] : List Int) ++ a1) (en := eI64) rfl rfl rfl rfl ?_
  refine trO_nil ?_
  refine trX_seq ?_
  refine tr_seq ?_
  refine tr_seq ?_
  refine tr_reg ?_
  refine trO_asg rfl rfl ?_
  refine trO_nil ?_
  refine trX_seq ?_
  refine tr_block ?_
  refine tr_loop (E := fun (s : (List Int) × Int) (g : Nat) => [(1, .sl (b2.map eI64)), (5, .osl 5 g 0 s.1.length), (6, .int .i64 s.2)]) (O := fun s g => [(5, some (g, ⟨false, false, 1, 3, s.1.map eI64⟩))]) (body := fun s => ref04_Union_b1 b2 s.1 s.2) (s := (([] : List Int) ++ a1, 0)) _ (has_exact ⟨rfl, rfl, rfl, trivial⟩ ⟨rfl, trivial⟩) ?_
  rintro ⟨out3, i4⟩ v5 nn
  show Tr _ _ _ ⟨[(1, .sl (b2.map eI64)), (5, .osl 5 v5 0 out3.length), (6, .int .i64 i4)], [(5, some (v5, ⟨false, false, 1, 3, out3.map eI64⟩))], _⟩ (ref04_Union_b1 b2 out3 i4)
  unfold ref04_Union_b1
  refine tr_seq ?_
  refine tr_seq ?_
  refine tr_reg ?_
  refine trO_mv rfl rfl ?_
  refine trO_mv rfl rfl ?_
  refine trO_len_sl rfl rfl ?_
  refine trO_bin (v := .bool (decide (i4 < (b2.length : Int)))) rfl rfl rfl rfl rfl ?_
  refine trO_nil ?_
  refine trX_seq ?_
  refine tr_cond (c := (decide (i4 < (b2.length : Int)))) rfl ?_ ?_
  ·
    refine tr_skip ?_
    refine trX_seq ?_
    refine tr_seq ?_
    refine tr_block ?_
    refine tr_reg ?_
    refine trO_mv rfl rfl ?_
    refine trO_mv rfl rfl ?_
    refine trO_mv rfl rfl ?_
    refine trO_bind fun x_x5 hx_x5 => ?_
    refine trO_ixA_sl (en := eI64) rfl rfl rfl hx_x5 rfl ?_
    refine trO_ld_f (v := .int .i64 x_x5) rfl rfl rfl rfl ?_
    refine trO_bind fun r6 hr6 => ?_
    refine trO_call_row (l := r6) (en := eI64) (out3, x_x5) rfl rfl rfl ref04_Add_de rfl rfl (by simp) (by first | rfl | (simp only [take_drop0_map, take_sub_map]; rfl) | simp [ref04_Add_enc]) hr6 rfl ?_
    refine trO_asg_own (l := r6) (en := eI64) rfl rfl rfl rfl ?_
    refine trO_nil ?_
    refine trX_blk_normal ?_
    refine trX_seq ?_
    refine tr_reg ?_
    refine trO_mv rfl rfl ?_
    refine trO_bin (v := .int .i64 (IntKind.i64.wrap (i4 + 1))) rfl rfl rfl rfl rfl ?_
    refine trO_asg rfl rfl ?_
    refine trO_nil ?_
    exact trX_loop (s := (r6, IntKind.i64.wrap (i4 + 1))) _ (has_exact ⟨rfl, rfl, rfl, trivial⟩ ⟨rfl, trivial⟩)
  ·
    refine tr_exit ?_
    refine trX_seq_exit ?_
    refine trX_loop_exit ?_
    refine trX_blk_here ?_
    refine trX_seq ?_
    refine tr_seq ?_
    refine tr_reg ?_
    refine trO_mv rfl rfl ?_
    refine trO_asg_own (l := out3) (en := eI64) rfl rfl rfl rfl ?_
    refine trO_nil ?_
    refine trX_seq ?_
    refine tr_ret ?_
    exact ret_row (b := out3) rfl (by first | (simp; done) | (simp; omega)) rfl rfl (by first | (simp; done) | (simp; omega)) rfl (by first | (simp; done) | (simp; omega)) (congrArg D.sl (take_len_map' _ _ rfl)) rfl

def dc37 : DCode := (.seq (.reg [⟨(some 4), (.asg (.c .nils) (some ⟨1, 3⟩)), none, []⟩] false) (.seq (.reg [⟨(some 5), (.asg (.c .nils) (some ⟨1, 3⟩)), none, []⟩] false) (.seq (.seq (.reg [⟨(some 6), (.asg (.c (.int .i64 0)) none), none, []⟩] false) (.block 0 (.loop (.seq (.seq (.reg [⟨(some 7), (.mv (.t 6)), none, []⟩, ⟨(some 8), (.mv (.t 0)), none, []⟩, ⟨(some 9), (.len false (.t 8)), none, []⟩, ⟨(some 10), (.bin .lss (.t 7) (.t 9)), none, []⟩] false) (.cond (.t 10) .skip (.exit 0))) (.seq (.block 1 (.seq (.reg [⟨(some 13), (.mv (.t 0)), none, []⟩, ⟨(some 14), (.mv (.t 6)), none, []⟩, ⟨(some 15), (.ixA 1 (.t 13) (.t 14)), none, []⟩, ⟨(some 16), (.ld 1 false (.t 15)), none, []⟩, ⟨(some 17), (.mv (.t 1)), none, []⟩, ⟨(some 18), (.bin .neq (.t 16) (.t 17)), none, []⟩] false) (.cond (.t 18) (.reg [⟨(some 19), (.mv (.t 5)), none, []⟩, ⟨(some 20), (.mv (.t 0)), none, []⟩, ⟨(some 21), (.mv (.t 6)), none, []⟩, ⟨(some 22), (.ixA 1 (.t 20) (.t 21)), none, []⟩, ⟨(some 23), (.ld 1 false (.t 22)), none, []⟩, ⟨(some 24), (.bldS 1 3 (.int .i64 0) 1 [⟨0, (.t 23)⟩]), none, []⟩, ⟨(some 25), (.app 1 3 8 (.t 19) (.t 24)), none, []⟩, ⟨(some 5), (.asg (.t 25) (some ⟨1, 3⟩)), none, []⟩] false) .skip))) (.reg [⟨(some 11), (.mv (.t 6)), none, []⟩, ⟨(some 12), (.bin .add (.t 11) (.c (.int .i64 1))), none, []⟩, ⟨(some 6), (.asg (.t 12) none), none, []⟩] false)))))) (.seq (.reg [⟨(some 26), (.mv (.t 5)), none, []⟩, ⟨(some 4), (.asg (.t 26) (some ⟨1, 3⟩)), none, []⟩] false) .ret))))
theorem dc37_c : (Try.f37.body.bind (cCode Try.prog Try.f37.ntmps)) = some dc37 := by kernel_rfl
theorem dc37_r : Try.f37.results.toList.mapM (cRes Try.prog) = some [(.t 4)] := by kernel_rfl
def ref04_Remove_enc (a : (List Int) × Int) : List D := [.sl (a.1.map eI64), .int .i64 a.2]
def ref04_Remove_dec (ds : List D) : (List Int) × Int := ((uL uI) (ds.getD 0 .top), uI (ds.getD 1 .top))
theorem ref04_Remove_de (a : (List Int) × Int) : ref04_Remove_dec (ref04_Remove_enc a) = a := by simp [ref04_Remove_dec, ref04_Remove_enc, uI, uBo, uS, uL_e (u := uI) (en := eI64) (fun _ => rfl)]
def ref04_Remove_R (b : (List Int)) : D := .sl (b.map eI64)
def ref04_Remove_E (_b : (List Int)) : List D := []
noncomputable def ref04_Remove_S : Dw.Spec := fSpec [] (.row 1 3) ref04_Remove_enc ref04_Remove_dec (fun a => ref04_Remove a.1 a.2) ref04_Remove_R ref04_Remove_E
set_option maxHeartbeats 4000000 in
theorem ref04_Remove_ok : SpecOk Try.prog 37 ref04_Remove_S := by
  refine fn_ok (specs_nil) Try.func37 (by decide) dc37_c dc37_r (np := 2) (by decide) ref04_Remove_de (fun _ => rfl) ?_
  rintro ⟨s1, n2⟩
  show Tr (specs []) dc37 (kRet [] (.row 1 3) [(.t 4)] 2 ref04_Remove_R ref04_Remove_E) ⟨[(0, .sl (s1.map eI64)), (1, .int .i64 n2)], [], 2⟩ (ref04_Remove s1 n2)
  unfold dc37 ref04_Remove
  refine tr_seq ?_
  refine tr_reg ?_
  refine trO_asg_nil (α := Int) rfl eI64 rfl ?_
  refine trO_nil ?_
  refine trX_seq ?_
  refine tr_seq ?_
  refine tr_reg ?_
  refine trO_asg_nil (α := Int) rfl eI64 rfl ?_
  refine trO_nil ?_
  refine trX_seq ?_
  refine tr_seq ?_
  refine tr_seq ?_
  refine tr_reg ?_
  refine trO_asg rfl rfl ?_
  refine trO_nil ?_
  refine trX_seq ?_
  refine tr_block ?_
  refine tr_loop (E := fun (s : (List Int) × Int) (g : Nat) => [(0, .sl (s1.map eI64)), (1, .int .i64 n2), (5, .osl 5 g 0 s.1.length), (6, .int .i64 s.2)]) (O := fun s g => [(5, some (g, ⟨false, false, 1, 3, s.1.map eI64⟩))]) (body := fun s => ref04_Remove_b1 s1 n2 s.1 s.2) (s := (([] : List Int), 0)) _ (has_exact ⟨rfl, rfl, rfl, rfl, trivial⟩ ⟨rfl, trivial⟩) ?_
  rintro ⟨out3, i4⟩ v5 nn
  show Tr _ _ _ ⟨[(0, .sl (s1.map eI64)), (1, .int .i64 n2), (5, .osl 5 v5 0 out3.length), (6, .int .i64 i4)], [(5, some (v5, ⟨false, false, 1, 3, out3.map eI64⟩))], _⟩ (ref04_Remove_b1 s1 n2 out3 i4)
  unfold ref04_Remove_b1
  refine tr_seq ?_
  refine tr_seq ?_
  refine tr_reg ?_
  refine trO_mv rfl rfl ?_
  refine trO_mv rfl rfl ?_
  refine trO_len_sl rfl rfl ?_
  refine trO_bin (v := .bool (decide (i4 < (s1.length : Int)))) rfl rfl rfl rfl rfl ?_
  refine trO_nil ?_
  refine trX_seq ?_
  refine tr_cond (c := (decide (i4 < (s1.length : Int)))) rfl ?_ ?_
  ·
    refine tr_skip ?_
    refine trX_seq ?_
    refine tr_seq ?_
    refine tr_block ?_
    refine tr_seq ?_
    refine tr_reg ?_
    refine trO_mv rfl rfl ?_
    refine trO_mv rfl rfl ?_
    refine trO_bind fun x_x5 hx_x5 => ?_
    refine trO_ixA_sl (en := eI64) rfl rfl rfl hx_x5 rfl ?_
    refine trO_ld_f (v := .int .i64 x_x5) rfl rfl rfl rfl ?_
    refine trO_mv rfl rfl ?_
    refine trO_bin (v := .bool (x_x5 != n2)) rfl rfl rfl rfl rfl ?_
    refine trO_nil ?_
    refine trX_seq ?_
    refine tr_cond (c := (x_x5 != n2)) rfl ?_ ?_
    ·
      refine tr_reg ?_
      refine trO_mv rfl rfl ?_
      refine trO_mv rfl rfl ?_
      refine trO_mv rfl rfl ?_
      refine trO_bind fun x_x6 hx_x6 => ?_
      refine trO_ixA_sl (en := eI64) rfl rfl rfl hx_x6 rfl ?_
      refine trO_ld_f (v := .int .i64 x_x6) rfl rfl rfl rfl ?_
      refine trO_bldS ([x_x6] : List Int) eI64 rfl rfl rfl (by simp) rfl rfl rfl ?_
      refine trO_chk fun hq => ?_
      refine trO_app (out3) (([x_x6] : List Int)) eI64 rfl rfl rfl rfl rfl rfl rfl (by simp) (take_drop0_map' _ _ rfl) rfl rfl (by simp) (take_len_map' _ _ rfl) (fun _ => rfl) rfl hq ?_
      refine trO_asg_own (l := out3 ++ ([x_x6] : List Int)) (en := eI64) rfl rfl rfl rfl ?_
      refine trO_nil ?_
      refine trX_blk_normal ?_
      refine trX_seq ?_
      refine tr_reg ?_
      refine trO_mv rfl rfl ?_
      refine trO_bin (v := .int .i64 (IntKind.i64.wrap (i4 + 1))) rfl rfl rfl rfl rfl ?_
      refine trO_asg rfl rfl ?_
      refine trO_nil ?_
      exact trX_loop (s := (out3 ++ ([x_x6] : List Int), IntKind.i64.wrap (i4 + 1))) _ (has_exact ⟨rfl, rfl, rfl, rfl, trivial⟩ ⟨rfl, trivial⟩)
    ·
      refine tr_skip ?_
      refine trX_blk_normal ?_
      refine trX_seq ?_
      refine tr_reg ?_
      refine trO_mv rfl rfl ?_
      refine trO_bin (v := .int .i64 (IntKind.i64.wrap (i4 + 1))) rfl rfl rfl rfl rfl ?_
      refine trO_asg rfl rfl ?_
      refine trO_nil ?_
      exact trX_loop (s := (out3, IntKind.i64.wrap (i4 + 1))) _ (has_exact ⟨rfl, rfl, rfl, rfl, trivial⟩ ⟨rfl, trivial⟩)
  ·
    refine tr_exit ?_
    refine trX_seq_exit ?_
    refine trX_loop_exit ?_
    refine trX_blk_here ?_
    refine trX_seq ?_
    refine tr_seq ?_
    refine tr_reg ?_
    refine trO_mv rfl rfl ?_
    refine trO_asg_own (l := out3) (en := eI64) rfl rfl rfl rfl ?_
    refine trO_nil ?_
    refine trX_seq ?_
    refine tr_ret ?_
    exact ret_row (b := out3) rfl (by first | (simp; done) | (simp; omega)) rfl rfl (by first | (simp; done) | (simp; omega)) rfl (by first | (simp; done) | (simp; omega)) (congrArg D.sl (take_len_map' _ _ rfl)) rfl

def dc62 : DCode := (.seq (.reg [⟨(some 1), (.box (.t 0) 5 52), none, []⟩, ⟨(some 2), (.asg (.c (.bool false)) none), none, []⟩] false) (.seq (.reg [⟨(some 3), (.fldA 0 (.t 1)), none, []⟩, ⟨(some 4), (.ld 1 false (.t 3)), none, []⟩, ⟨(some 5), (.bin .eql (.t 4) (.c (.int .i64 16))), none, []⟩, ⟨(some 6), (.mv (.t 5)), none, []⟩, ⟨(some 7), (.fldA 0 (.t 1)), (some ⟨6, false⟩), []⟩, ⟨(some 8), (.ld 1 false (.t 7)), (some ⟨6, false⟩), []⟩, ⟨(some 9), (.bin .eql (.t 8) (.c (.int .i64 17))), (some ⟨6, false⟩), []⟩, ⟨(some 10), (.pick (.t 6) (.c (.bool true)) (.t 9)), none, []⟩, ⟨(some 2), (.asg (.t 10) none), none, []⟩] false) .ret))
theorem dc62_c : (Try.f62.body.bind (cCode Try.prog Try.f62.ntmps)) = some dc62 := by kernel_rfl
theorem dc62_r : Try.f62.results.toList.mapM (cRes Try.prog) = some [(.t 2)] := by kernel_rfl
def ref15_Removable_enc (a : TInstr) : List D := [eInstr a]
def ref15_Removable_dec (ds : List D) : TInstr := uInstr (ds.getD 0 .top)
theorem ref15_Removable_de (a : TInstr) : ref15_Removable_dec (ref15_Removable_enc a) = a := by simp [ref15_Removable_dec, ref15_Removable_enc, uI, uBo, uS]
def ref15_Removable_R (b : Bool) : D := .bool b
def ref15_Removable_E (_b : Bool) : List D := []
noncomputable def ref15_Removable_S : Dw.Spec := fSpec [] .ground ref15_Removable_enc ref15_Removable_dec (fun a => ref15_Removable a) ref15_Removable_R ref15_Removable_E
set_option maxHeartbeats 4000000 in
theorem ref15_Removable_ok : SpecOk Try.prog 62 ref15_Removable_S := by
  refine fn_ok (specs_nil) Try.func62 (by decide) dc62_c dc62_r (np := 1) (by decide) ref15_Removable_de (fun _ => rfl) ?_
  intro x1
  show Tr (specs []) dc62 (kRet [] .ground [(.t 2)] 1 ref15_Removable_R ref15_Removable_E) ⟨[(0, .agg [.int .i64 x1.Op, .int .i64 x1.A, .int .i64 x1.B, .int .i64 x1.C, .int .u64 x1.Imm])], [], 1⟩ (ref15_Removable x1)
  unfold dc62 ref15_Removable
  refine tr_seq ?_
  refine tr_reg ?_
  refine trO_box rfl rfl rfl rfl rfl ?_
  refine trO_asg rfl rfl ?_
  refine trO_nil ?_
  refine trX_seq ?_
  refine tr_seq ?_
  refine tr_reg ?_
  refine trO_fldA rfl rfl ?_
  refine trO_ld_obj (v := .int .i64 x1.Op) (z := .agg [.int .i64 x1.Op, .int .i64 x1.A, .int .i64 x1.B, .int .i64 x1.C, .int .u64 x1.Imm]) rfl rfl rfl rfl rfl rfl ?_
  refine trO_bin (v := .bool (x1.Op == 16)) rfl rfl rfl rfl rfl ?_
  refine trO_mv rfl rfl ?_
  refine trO_split 6 (b := (x1.Op == 16)) rfl ?_ ?_
  ·
    refine trO_off rfl ?_
    refine trO_off rfl ?_
    refine trO_off rfl ?_
    refine trO_pick_true rfl rfl rfl rfl ?_
    refine trO_asg rfl rfl ?_
    refine trO_nil ?_
    refine trX_seq ?_
    refine tr_ret ?_
    exact ret_ground (b := true) rfl (by first | (simp; done) | (simp; omega)) rfl rfl (by first | (simp; done) | (simp; omega)) rfl
  ·
    refine trO_fldA rfl rfl ?_
    refine trO_ld_obj (v := .int .i64 x1.Op) (z := .agg [.int .i64 x1.Op, .int .i64 x1.A, .int .i64 x1.B, .int .i64 x1.C, .int .u64 x1.Imm]) rfl rfl rfl rfl rfl rfl ?_
    refine trO_bin (v := .bool (x1.Op == 17)) rfl rfl rfl rfl rfl ?_
    refine trO_pick_false rfl rfl rfl rfl ?_
    refine trO_asg rfl rfl ?_
    refine trO_nil ?_
    refine trX_seq ?_
    refine tr_ret ?_
    exact ret_ground (b := (x1.Op == 17)) rfl (by first | (simp; done) | (simp; omega)) rfl rfl (by first | (simp; done) | (simp; omega)) rfl

def dc59 : DCode := (.seq (.reg [⟨(some 1), (.box (.t 0) 5 52), none, []⟩, ⟨(some 2), (.asg (.c (.int .i64 0)) none), none, []⟩, ⟨(some 3), (.asg (.c (.bool false)) none), none, []⟩] false) (.seq (.seq (.reg [⟨(some 4), (.ld 5 true (.t 1)), none, []⟩, ⟨(some 5), (.call (.c (.clo 62 [])) [(.t 4)]), none, []⟩] false) (.cond (.t 5) (.seq (.reg [⟨(some 6), (.fldA 1 (.t 1)), none, []⟩, ⟨(some 7), (.ld 1 false (.t 6)), none, []⟩, ⟨(some 2), (.asg (.t 7) none), none, []⟩, ⟨(some 3), (.asg (.c (.bool true)) none), none, []⟩] false) .ret) .skip)) (.seq (.reg [⟨(some 2), (.asg (.c (.int .i64 0)) none), none, []⟩, ⟨(some 3), (.asg (.c (.bool false)) none), none, []⟩] false) .ret)))
theorem dc59_c : (Try.f59.body.bind (cCode Try.prog Try.f59.ntmps)) = some dc59 := by kernel_rfl
theorem dc59_r : Try.f59.results.toList.mapM (cRes Try.prog) = some [(.t 2), (.t 3)] := by kernel_rfl
def ref15_Defines_enc (a : TInstr) : List D := [eInstr a]
def ref15_Defines_dec (ds : List D) : TInstr := uInstr (ds.getD 0 .top)
theorem ref15_Defines_de (a : TInstr) : ref15_Defines_dec (ref15_Defines_enc a) = a := by simp [ref15_Defines_dec, ref15_Defines_enc, uI, uBo, uS]
def ref15_Defines_R (b : Int × Bool) : D := .tup [.int .i64 b.1, .bool b.2]
def ref15_Defines_E (_b : Int × Bool) : List D := []
noncomputable def ref15_Defines_S : Dw.Spec := fSpec [] .ground ref15_Defines_enc ref15_Defines_dec (fun a => ref15_Defines a) ref15_Defines_R ref15_Defines_E
set_option maxHeartbeats 4000000 in
theorem ref15_Defines_ok : SpecOk Try.prog 59 ref15_Defines_S := by
  refine fn_ok (specs_ok (l := [(62, ref15_Removable_S)]) (by simp [ref15_Removable_ok])) Try.func59 (by decide) dc59_c dc59_r (np := 1) (by decide) ref15_Defines_de (fun _ => rfl) ?_
  intro x1
  show Tr (specs [(62, ref15_Removable_S)]) dc59 (kRet [] .ground [(.t 2), (.t 3)] 1 ref15_Defines_R ref15_Defines_E) ⟨[(0, .agg [.int .i64 x1.Op, .int .i64 x1.A, .int .i64 x1.B, .int .i64 x1.C, .int .u64 x1.Imm])], [], 1⟩ (ref15_Defines x1)
  unfold dc59 ref15_Defines
  refine tr_seq ?_
  refine tr_reg ?_
  refine trO_box rfl rfl rfl rfl rfl ?_
  refine trO_asg rfl rfl ?_
  refine trO_asg rfl rfl ?_
  refine trO_nil ?_
  refine trX_seq ?_
  refine tr_seq ?_
  refine tr_seq ?_
  refine tr_reg ?_
  refine trO_ld_obj (v := .agg [.int .i64 x1.Op, .int .i64 x1.A, .int .i64 x1.B, .int .i64 x1.C, .int .u64 x1.Imm]) (z := .agg [.int .i64 x1.Op, .int .i64 x1.A, .int .i64 x1.B, .int .i64 x1.C, .int .u64 x1.Imm]) rfl rfl rfl rfl rfl rfl ?_
  refine trO_bind fun r2 hr2 => ?_
  refine trO_call_ground x1 rfl rfl rfl ref15_Removable_de rfl rfl (by simp) rfl hr2 rfl ?_
  refine trO_nil ?_
  refine trX_seq ?_
  refine tr_cond (c := r2) rfl ?_ ?_
  ·
    refine tr_seq ?_
    refine tr_reg ?_
    refine trO_fldA rfl rfl ?_
    refine trO_ld_obj (v := .int .i64 x1.A) (z := .agg [.int .i64 x1.Op, .int .i64 x1.A, .int .i64 x1.B, .int .i64 x1.C, .int .u64 x1.Imm]) rfl rfl rfl rfl rfl rfl ?_
    refine trO_asg rfl rfl ?_
    refine trO_asg rfl rfl ?_
    refine trO_nil ?_
    refine trX_seq ?_
    refine tr_ret ?_
    refine trX_seq_ret ?_
    exact ret_tup_ground (b := (x1.A, true)) rfl (by first | (simp; done) | (simp; omega)) rfl rfl (by first | (simp; done) | (simp; omega)) rfl (by decide)
  ·
    refine tr_skip ?_
    refine trX_seq ?_
    refine tr_seq ?_
    refine tr_reg ?_
    refine trO_asg rfl rfl ?_
    refine trO_asg rfl rfl ?_
    refine trO_nil ?_
    refine trX_seq ?_
    refine tr_ret ?_
    exact ret_tup_ground (b := (0, false)) rfl (by first | (simp; done) | (simp; omega)) rfl rfl (by first | (simp; done) | (simp; omega)) rfl (by decide)

def dc60 : DCode := (.seq (.reg [⟨(some 1), (.box (.t 0) 5 52), none, []⟩, ⟨(some 2), (.asg (.c .nils) (some ⟨1, 3⟩)), none, []⟩] false) (.seq (.seq (.reg [⟨(some 3), (.fldA 0 (.t 1)), none, []⟩, ⟨(some 4), (.ld 1 false (.t 3)), none, []⟩, ⟨(some 5), (.bin .eql (.t 4) (.c (.int .i64 15))), none, []⟩, ⟨(some 6), (.mv (.t 5)), none, []⟩, ⟨(some 7), (.fldA 0 (.t 1)), (some ⟨6, false⟩), []⟩, ⟨(some 8), (.ld 1 false (.t 7)), (some ⟨6, false⟩), []⟩, ⟨(some 9), (.bin .eql (.t 8) (.c (.int .i64 17))), (some ⟨6, false⟩), []⟩, ⟨(some 10), (.pick (.t 6) (.c (.bool true)) (.t 9)), none, []⟩] false) (.cond (.t 10) (.seq (.reg [⟨(some 11), (.fldA 2 (.t 1)), none, []⟩, ⟨(some 12), (.ld 1 false (.t 11)), none, []⟩, ⟨(some 13), (.bldS 1 3 (.int .i64 0) 1 [⟨0, (.t 12)⟩]), none, []⟩, ⟨(some 2), (.asg (.t 13) (some ⟨1, 3⟩)), none, []⟩] false) .ret) .skip)) (.seq (.reg [⟨(some 2), (.asg (.c .nils) (some ⟨1, 3⟩)), none, []⟩] false) .ret)))
theorem dc60_c : (Try.f60.body.bind (cCode Try.prog Try.f60.ntmps)) = some dc60 := by kernel_rfl
theorem dc60_r : Try.f60.results.toList.mapM (cRes Try.prog) = some [(.t 2)] := by kernel_rfl
def ref15_Uses_enc (a : TInstr) : List D := [eInstr a]
def ref15_Uses_dec (ds : List D) : TInstr := uInstr (ds.getD 0 .top)
theorem ref15_Uses_de (a : TInstr) : ref15_Uses_dec (ref15_Uses_enc a) = a := by simp [ref15_Uses_dec, ref15_Uses_enc, uI, uBo, uS]
def ref15_Uses_R (b : (List Int)) : D := .sl (b.map eI64)
def ref15_Uses_E (_b : (List Int)) : List D := []
noncomputable def ref15_Uses_S : Dw.Spec := fSpec [] (.row 1 3) ref15_Uses_enc ref15_Uses_dec (fun a => ref15_Uses a) ref15_Uses_R ref15_Uses_E
set_option maxHeartbeats 4000000 in
theorem ref15_Uses_ok : SpecOk Try.prog 60 ref15_Uses_S := by
  refine fn_ok (specs_nil) Try.func60 (by decide) dc60_c dc60_r (np := 1) (by decide) ref15_Uses_de (fun _ => rfl) ?_
  intro x1
  show Tr (specs []) dc60 (kRet [] (.row 1 3) [(.t 2)] 1 ref15_Uses_R ref15_Uses_E) ⟨[(0, .agg [.int .i64 x1.Op, .int .i64 x1.A, .int .i64 x1.B, .int .i64 x1.C, .int .u64 x1.Imm])], [], 1⟩ (ref15_Uses x1)
  unfold dc60 ref15_Uses
  refine tr_seq ?_
  refine tr_reg ?_
  refine trO_box rfl rfl rfl rfl rfl ?_
  refine trO_asg_nil (α := Int) rfl eI64 rfl ?_
  refine trO_nil ?_
  refine trX_seq ?_
  refine tr_seq ?_
  refine tr_seq ?_
  refine tr_reg ?_
  refine trO_fldA rfl rfl ?_
  refine trO_ld_obj (v := .int .i64 x1.Op) (z := .agg [.int .i64 x1.Op, .int .i64 x1.A, .int .i64 x1.B, .int .i64 x1.C, .int .u64 x1.Imm]) rfl rfl rfl rfl rfl rfl ?_
  refine trO_bin (v := .bool (x1.Op == 15)) rfl rfl rfl rfl rfl ?_
  refine trO_mv rfl rfl ?_
  refine trO_split 6 (b := (x1.Op == 15)) rfl ?_ ?_
  ·
    refine trO_off rfl ?_
    refine trO_off rfl ?_
    refine trO_off rfl ?_
    refine trO_pick_true rfl rfl rfl rfl ?_
    refine trO_nil ?_
    refine trX_seq ?_
    refine tr_cond_true rfl ?_
    refine tr_seq ?_
    refine tr_reg ?_
    refine trO_fldA rfl rfl ?_
    refine trO_ld_obj (v := .int .i64 x1.B) (z := .agg [.int .i64 x1.Op, .int .i64 x1.A, .int .i64 x1.B, .int .i64 x1.C, .int .u64 x1.Imm]) rfl rfl rfl rfl rfl rfl ?_
    refine trO_bldS ([x1.B] : List Int) eI64 rfl rfl rfl (by simp) rfl rfl rfl ?_
    refine trO_asg_own (l := ([x1.B] : List Int)) (en := eI64) rfl rfl rfl rfl ?_
    refine trO_nil ?_
    refine trX_seq ?_
    refine tr_ret ?_
    refine trX_seq_ret ?_
    exact ret_row (b := ([x1.B] : List Int)) rfl (by first | (simp; done) | (simp; omega)) rfl rfl (by first | (simp; done) | (simp; omega)) rfl (by first | (simp; done) | (simp; omega)) (congrArg D.sl (take_len_map' _ _ rfl)) rfl
  ·
    refine trO_fldA rfl rfl ?_
    refine trO_ld_obj (v := .int .i64 x1.Op) (z := .agg [.int .i64 x1.Op, .int .i64 x1.A, .int .i64 x1.B, .int .i64 x1.C, .int .u64 x1.Imm]) rfl rfl rfl rfl rfl rfl ?_
    refine trO_bin (v := .bool (x1.Op == 17)) rfl rfl rfl rfl rfl ?_
    refine trO_pick_false rfl rfl rfl rfl ?_
    refine trO_nil ?_
    refine trX_seq ?_
    refine tr_cond (c := (x1.Op == 17)) rfl ?_ ?_
    ·
      refine tr_seq ?_
      refine tr_reg ?_
      refine trO_fldA rfl rfl ?_
      refine trO_ld_obj (v := .int .i64 x1.B) (z := .agg [.int .i64 x1.Op, .int .i64 x1.A, .int .i64 x1.B, .int .i64 x1.C, .int .u64 x1.Imm]) rfl rfl rfl rfl rfl rfl ?_
      refine trO_bldS ([x1.B] : List Int) eI64 rfl rfl rfl (by simp) rfl rfl rfl ?_
      refine trO_asg_own (l := ([x1.B] : List Int)) (en := eI64) rfl rfl rfl rfl ?_
      refine trO_nil ?_
      refine trX_seq ?_
      refine tr_ret ?_
      refine trX_seq_ret ?_
      exact ret_row (b := ([x1.B] : List Int)) rfl (by first | (simp; done) | (simp; omega)) rfl rfl (by first | (simp; done) | (simp; omega)) rfl (by first | (simp; done) | (simp; omega)) (congrArg D.sl (take_len_map' _ _ rfl)) rfl
    ·
      refine tr_skip ?_
      refine trX_seq ?_
      refine tr_seq ?_
      refine tr_reg ?_
      refine trO_asg_nil (α := Int) rfl eI64 rfl ?_
      refine trO_nil ?_
      refine trX_seq ?_
      refine tr_ret ?_
      exact ret_row (b := ([] : List Int)) rfl (by first | (simp; done) | (simp; omega)) rfl rfl (by first | (simp; done) | (simp; omega)) rfl (by first | (simp; done) | (simp; omega)) (congrArg D.sl (take_len_map' _ _ rfl)) rfl

def dc57 : DCode := (.seq (.reg [⟨(some 2), (.box (.t 0) 5 52), none, []⟩, ⟨(some 4), (.asg (.c .nils) (some ⟨1, 3⟩)), none, []⟩] false) (.seq (.seq (.reg [⟨(some 8), (.ld 5 true (.t 2)), none, []⟩, ⟨(some 9), (.call (.c (.clo 59 [])) [(.t 8)]), none, []⟩, ⟨(some 7), (.mv (.t 9)), none, []⟩, ⟨(some 10), (.ext (.t 7) 0), none, []⟩, ⟨(some 11), (.ext (.t 7) 1), none, []⟩, ⟨(some 5), (.asg (.t 10) none), none, []⟩, ⟨(some 6), (.asg (.t 11) none), none, []⟩] false) (.seq (.reg [⟨(some 12), (.mv (.t 6)), none, []⟩] false) (.cond (.t 12) (.reg [⟨(some 13), (.mv (.t 1)), none, []⟩, ⟨(some 14), (.mv (.t 5)), none, []⟩, ⟨(some 15), (.call (.c (.clo 37 [])) [(.t 13), (.t 14)]), none, []⟩, ⟨(some 1), (.asg (.t 15) (some ⟨1, 3⟩)), none, []⟩] false) .skip))) (.seq (.reg [⟨(some 16), (.mv (.t 1)), none, []⟩, ⟨(some 17), (.ld 5 true (.t 2)), none, []⟩, ⟨(some 18), (.call (.c (.clo 60 [])) [(.t 17)]), none, []⟩, ⟨(some 19), (.call (.c (.clo 56 [])) [(.t 16), (.t 18)]), none, []⟩, ⟨(some 4), (.asg (.t 19) (some ⟨1, 3⟩)), none, []⟩] false) .ret)))
theorem dc57_c : (Try.f57.body.bind (cCode Try.prog Try.f57.ntmps)) = some dc57 := by kernel_rfl
theorem dc57_r : Try.f57.results.toList.mapM (cRes Try.prog) = some [(.t 4)] := by kernel_rfl
def ref15_In_enc (a : TInstr × (List Int)) : List D := [eInstr a.1, .sl (a.2.map eI64)]
def ref15_In_dec (ds : List D) : TInstr × (List Int) := (uInstr (ds.getD 0 .top), (uL uI) (ds.getD 1 .top))
theorem ref15_In_de (a : TInstr × (List Int)) : ref15_In_dec (ref15_In_enc a) = a := by simp [ref15_In_dec, ref15_In_enc, uI, uBo, uS, uL_e (u := uI) (en := eI64) (fun _ => rfl)]
def ref15_In_R (b : (List Int)) : D := .sl (b.map eI64)
def ref15_In_E (_b : (List Int)) : List D := []
noncomputable def ref15_In_S : Dw.Spec := fSpec [] (.row 1 3) ref15_In_enc ref15_In_dec (fun a => ref15_In a.1 a.2) ref15_In_R ref15_In_E
set_option maxHeartbeats 4000000 in
theorem ref15_In_ok : SpecOk Try.prog 57 ref15_In_S := by
  refine fn_ok (specs_ok (l := [(59, ref15_Defines_S), (37, ref04_Remove_S), (60, ref15_Uses_S), (56, ref04_Union_S)]) (by simp [ref15_Defines_ok, ref04_Remove_ok, ref15_Uses_ok, ref04_Union_ok])) Try.func57 (by decide) dc57_c dc57_r (np := 2) (by decide) ref15_In_de (fun _ => rfl) ?_
  rintro ⟨x1, out2⟩
  show Tr (specs [(59, ref15_Defines_S), (37, ref04_Remove_S), (60, ref15_Uses_S), (56, ref04_Union_S)]) dc57 (kRet [] (.row 1 3) [(.t 4)] 2 ref15_In_R ref15_In_E) ⟨[(0, .agg [.int .i64 x1.Op, .int .i64 x1.A, .int .i64 x1.B, .int .i64 x1.C, .int .u64 x1.Imm]), (1, .sl (out2.map eI64))], [], 2⟩ (ref15_In x1 out2)
  unfold dc57 ref15_In
  refine tr_seq ?_
  refine tr_reg ?_
  refine trO_box rfl rfl rfl rfl rfl ?_
  refine trO_asg_nil (α := Int) rfl eI64 rfl ?_
  refine trO_nil ?_
  refine trX_seq ?_
  refine tr_seq ?_
  refine tr_seq ?_
  refine tr_reg ?_
  refine trO_ld_obj (v := .agg [.int .i64 x1.Op, .int .i64 x1.A, .int .i64 x1.B, .int .i64 x1.C, .int .u64 x1.Imm]) (z := .agg [.int .i64 x1.Op, .int .i64 x1.A, .int .i64 x1.B, .int .i64 x1.C, .int .u64 x1.Imm]) rfl rfl rfl rfl rfl rfl ?_
  refine trO_bind fun r3 hr3 => ?_
  refine trO_call_ground x1 rfl rfl rfl ref15_Defines_de rfl rfl (by simp) rfl hr3 rfl ?_
  refine trO_mv rfl rfl ?_
  refine trO_ext (v := .int .i64 r3.1) rfl rfl rfl ?_
  refine trO_ext (v := .bool r3.2) rfl rfl rfl ?_
  refine trO_asg rfl rfl ?_
  refine trO_asg rfl rfl ?_
  refine trO_nil ?_
  refine trX_seq ?_
  refine tr_seq ?_
  refine tr_reg ?_
  refine trO_mv rfl rfl ?_
  refine trO_nil ?_
  refine trX_seq ?_
  refine tr_cond (c := r3.2) rfl ?_ ?_
  ·
    refine tr_reg ?_
    refine trO_mv rfl rfl ?_
    refine trO_mv rfl rfl ?_
    refine trO_bind fun r4 hr4 => ?_
    refine trO_call_row (l := r4) (en := eI64) (out2, r3.1) rfl rfl rfl ref04_Remove_de rfl rfl (by simp) rfl hr4 rfl ?_
    refine trO_asg_own (l := r4) (en := eI64) rfl rfl rfl rfl ?_
    refine trO_nil ?_
    refine trX_seq ?_
    refine tr_seq ?_
    refine tr_reg ?_
    refine trO_mv rfl rfl ?_
    refine trO_ld_obj (v := .agg [.int .i64 x1.Op, .int .i64 x1.A, .int .i64 x1.B, .int .i64 x1.C, .int .u64 x1.Imm]) (z := .agg [.int .i64 x1.Op, .int .i64 x1.A, .int .i64 x1.B, .int .i64 x1.C, .int .u64 x1.Imm]) rfl rfl rfl rfl rfl rfl ?_
    refine trO_bind fun r5 hr5 => ?_
    refine trO_call_row (l := r5) (en := eI64) x1 rfl rfl rfl ref15_Uses_de rfl rfl (by simp) rfl hr5 rfl ?_
    refine trO_bind fun r6 hr6 => ?_
    refine trO_call_row (l := r6) (en := eI64) (r4, r5) rfl rfl rfl ref04_Union_de rfl rfl (by simp) (by first | rfl | (simp only [take_drop0_map, take_sub_map]; rfl) | simp [ref04_Union_enc]) hr6 rfl ?_
    refine trO_asg_own (l := r6) (en := eI64) rfl rfl rfl rfl ?_
    refine trO_nil ?_
    refine trX_seq ?_
    refine tr_ret ?_
    exact ret_row (b := r6) rfl (by first | (simp; done) | (simp; omega)) rfl rfl (by first | (simp; done) | (simp; omega)) rfl (by first | (simp; done) | (simp; omega)) (congrArg D.sl (take_len_map' _ _ rfl)) rfl
  ·
    refine tr_skip ?_
    refine trX_seq ?_
    refine tr_seq ?_
    refine tr_reg ?_
    refine trO_mv rfl rfl ?_
    refine trO_ld_obj (v := .agg [.int .i64 x1.Op, .int .i64 x1.A, .int .i64 x1.B, .int .i64 x1.C, .int .u64 x1.Imm]) (z := .agg [.int .i64 x1.Op, .int .i64 x1.A, .int .i64 x1.B, .int .i64 x1.C, .int .u64 x1.Imm]) rfl rfl rfl rfl rfl rfl ?_
    refine trO_bind fun r7 hr7 => ?_
    refine trO_call_row (l := r7) (en := eI64) x1 rfl rfl rfl ref15_Uses_de rfl rfl (by simp) rfl hr7 rfl ?_
    refine trO_bind fun r8 hr8 => ?_
    refine trO_call_row (l := r8) (en := eI64) (out2, r7) rfl rfl rfl ref04_Union_de rfl rfl (by simp) (by first | rfl | (simp only [take_drop0_map, take_sub_map]; rfl) | simp [ref04_Union_enc]) hr8 rfl ?_
    refine trO_asg_own (l := r8) (en := eI64) rfl rfl rfl rfl ?_
    refine trO_nil ?_
    refine trX_seq ?_
    refine tr_ret ?_
    exact ret_row (b := r8) rfl (by first | (simp; done) | (simp; omega)) rfl rfl (by first | (simp; done) | (simp; omega)) rfl (by first | (simp; done) | (simp; omega)) (congrArg D.sl (take_len_map' _ _ rfl)) rfl

def dc50 : DCode := (.seq (.reg [⟨(some 2), (.box (.t 0) 3 27), none, []⟩, ⟨(some 3), (.box (.t 1) 1 30), none, []⟩, ⟨(some 4), (.new (.agg [.nils]) 1 30), none, []⟩] false) (.seq (.reg [⟨(some 10), (.fldA 2 (.t 2)), none, []⟩, ⟨(some 11), (.ld 1 false (.t 10)), none, []⟩, ⟨(some 12), (.len false (.t 11)), none, []⟩, ⟨(some 13), (.mkS 1 43 24 (.sl []) (.t 12) (.t 12)), none, []⟩, ⟨(some 14), (.bld [.nils] [⟨0, ⟨1, (.t 13)⟩⟩]), none, []⟩, ⟨(some 5), (.new (.agg [.nils]) 1 30), none, []⟩, ⟨none, (.st 1 (.t 5) (.t 14)), none, []⟩] false) (.seq (.seq (.reg [⟨(some 6), (.asg (.c (.int .i64 0)) none), none, []⟩] false) (.block 0 (.loop (.seq (.seq (.reg [⟨(some 15), (.mv (.t 6)), none, []⟩, ⟨(some 16), (.fldA 2 (.t 2)), none, []⟩, ⟨(some 17), (.ld 1 false (.t 16)), none, []⟩, ⟨(some 18), (.len false (.t 17)), none, []⟩, ⟨(some 19), (.bin .lss (.t 15) (.t 18)), none, []⟩] false) (.cond (.t 19) .skip (.exit 0))) (.seq (.block 1 (.seq (.reg [⟨(some 22), (.ld 3 true (.t 2)), none, []⟩, ⟨(some 23), (.mv (.t 6)), none, []⟩, ⟨(some 24), (.call (.c (.clo 55 [])) [(.t 22), (.t 23)]), none, []⟩, ⟨(some 7), (.asg (.t 24) (some ⟨1, 3⟩)), none, []⟩] false) (.seq (.reg [⟨(some 8), (.asg (.c (.int .i64 0)) none), none, []⟩] false) (.block 2 (.loop (.seq (.seq (.reg [⟨(some 25), (.mv (.t 8)), none, []⟩, ⟨(some 26), (.mv (.t 7)), none, []⟩, ⟨(some 27), (.len false (.t 26)), none, []⟩, ⟨(some 28), (.bin .lss (.t 25) (.t 27)), none, []⟩] false) (.cond (.t 28) .skip (.exit 2))) (.seq (.block 3 (.seq (.reg [⟨(some 31), (.mv (.t 7)), none, []⟩, ⟨(some 32), (.mv (.t 8)), none, []⟩, ⟨(some 33), (.ixA 1 (.t 31) (.t 32)), none, []⟩, ⟨(some 34), (.ld 1 false (.t 33)), none, []⟩, ⟨(some 9), (.asg (.t 34) none), none, []⟩] false) (.reg [⟨(some 35), (.fldA 0 (.t 5)), none, []⟩, ⟨(some 36), (.ld 1 false (.t 35)), none, [0]⟩, ⟨(some 37), (.mv (.t 6)), none, []⟩, ⟨(some 38), (.fldA 0 (.t 5)), none, []⟩, ⟨(some 39), (.ld 1 false (.t 38)), none, [3]⟩, ⟨(some 40), (.mv (.t 6)), none, []⟩, ⟨(some 41), (.ixA 1 (.t 39) (.t 40)), none, [4, 5]⟩, ⟨(some 42), (.ld 1 false (.t 41)), none, [6]⟩, ⟨(some 43), (.fldA 2 (.t 2)), none, []⟩, ⟨(some 44), (.ld 1 false (.t 43)), none, [8]⟩, ⟨(some 45), (.mv (.t 9)), none, []⟩, ⟨(some 46), (.ixA 5 (.t 44) (.t 45)), none, [9, 10]⟩, ⟨(some 47), (.ld 5 true (.t 46)), none, [11]⟩, ⟨(some 48), (.fldA 0 (.t 3)), none, []⟩, ⟨(some 49), (.ld 1 false (.t 48)), none, [13]⟩, ⟨(some 50), (.mv (.t 9)), none, []⟩, ⟨(some 51), (.ixA 1 (.t 49) (.t 50)), none, [14, 15]⟩, ⟨(some 52), (.ld 1 false (.t 51)), none, [16]⟩, ⟨(some 53), (.call (.c (.clo 57 [])) [(.t 47), (.t 52)]), none, [12, 17]⟩, ⟨(some 54), (.call (.c (.clo 56 [])) [(.t 42), (.t 53)]), none, [7, 18, 18]⟩, ⟨(some 55), (.ixA 1 (.t 36) (.t 37)), none, [1, 2, 0, 1, 2, 3, 4, 5, 6, 7, 8, 9, 10, 11, 12, 13, 14, 15, 16, 17, 18, 19]⟩, ⟨none, (.st 1 (.t 55) (.t 54)), none, [20, 19, 19, 0, 1, 2, 3, 4, 5, 6, 7, 8, 9, 10, 11, 12, 13, 14, 15, 16, 17, 18, 19]⟩] true))) (.reg [⟨(some 29), (.mv (.t 8)), none, []⟩, ⟨(some 30), (.bin .add (.t 29) (.c (.int .i64 1))), none, []⟩, ⟨(some 8), (.asg (.t 30) none), none, []⟩] false)))))))) (.reg [⟨(some 20), (.mv (.t 6)), none, []⟩, ⟨(some 21), (.bin .add (.t 20) (.c (.int .i64 1))), none, []⟩, ⟨(some 6), (.asg (.t 21) none), none, []⟩] false)))))) (.seq (.reg [⟨(some 56), (.ld 1 true (.t 5)), none, []⟩, ⟨none, (.st 1 (.t 4) (.t 56)), none, []⟩] false) .ret))))
theorem dc50_c : (Try.f50.body.bind (cCode Try.prog Try.f50.ntmps)) = some dc50 := by kernel_rfl
theorem dc50_r : Try.f50.results.toList.mapM (cRes Try.prog) = some [(.c 4 1 true)] := by kernel_rfl
def ref16_Step_enc (a : TFunc × TLive) : List D := [eFunc a.1, eLive a.2]
def ref16_Step_dec (ds : List D) : TFunc × TLive := (uFunc (ds.getD 0 .top), uLive (ds.getD 1 .top))
theorem ref16_Step_de (a : TFunc × TLive) : ref16_Step_dec (ref16_Step_enc a) = a := by simp [ref16_Step_dec, ref16_Step_enc, uI, uBo, uS]
def ref16_Step_R (b : TLive) : D := eLive b
def ref16_Step_E (_b : TLive) : List D := []
noncomputable def ref16_Step_S : Dw.Spec := fSpec [] .val ref16_Step_enc ref16_Step_dec (fun a => ref16_Step a.1 a.2) ref16_Step_R ref16_Step_E
set_option maxHeartbeats 4000000 in
theorem ref16_Step_ok : SpecOk Try.prog 50 ref16_Step_S := by
  refine fn_ok (specs_ok (l := [(55, ref13_Next_S), (57, ref15_In_S), (56, ref04_Union_S)]) (by simp [ref13_Next_ok, ref15_In_ok, ref04_Union_ok])) Try.func50 (by decide) dc50_c dc50_r (np := 2) (by decide) ref16_Step_de (fun _ => rfl) ?_
  rintro ⟨f1, l2⟩
  show Tr (specs [(55, ref13_Next_S), (57, ref15_In_S), (56, ref04_Union_S)]) dc50 (kRet [] .val [(.c 4 1 true)] 2 ref16_Step_R ref16_Step_E) ⟨[(0, .agg [.int .i64 f1.Params, .sl (f1.Slots.map eSlot), .sl (f1.Code.map eInstr)]), (1, .agg [.sl (l2.Out.map (eL eI64))])], [], 2⟩ (ref16_Step f1 l2)
  unfold dc50 ref16_Step
  refine tr_seq ?_
  refine tr_reg ?_
  refine trO_box rfl rfl rfl rfl rfl ?_
  refine trO_box rfl rfl rfl rfl rfl ?_
  refine trO_new rfl ?_
  refine trO_nil ?_
  refine trX_seq ?_
  refine tr_seq ?_
  refine tr_reg ?_
  refine trO_fldA rfl rfl ?_
  refine trO_ld_obj (v := .sl (f1.Code.map eInstr)) (z := .agg [.int .i64 f1.Params, .sl (f1.Slots.map eSlot), .sl (f1.Code.map eInstr)]) rfl rfl rfl rfl rfl rfl ?_
  refine trO_len_sl rfl rfl ?_
  refine trO_chk fun hq => ?_
  refine trO_mkS (q := ([] : List Int)) (eL eI64) rfl rfl rfl rfl hq rfl ?_
  refine trO_bld (cs := [.osl 13 _ 0 ((List.replicate (f1.Code.length : Int).toNat ([] : List Int)).length)]) (ps := [(0, 1, .osl 13 _ 0 ((List.replicate (f1.Code.length : Int).toNat ([] : List Int)).length))]) rfl rfl rfl rfl ?_
  refine trO_new rfl ?_
  refine trO_st_var (z' := .agg [.osl 13 _ 0 ((List.replicate (f1.Code.length : Int).toNat ([] : List Int)).length)]) rfl rfl rfl rfl rfl rfl rfl rfl rfl ?_
  refine trO_nil ?_
  refine trX_seq ?_
  refine tr_seq ?_
  refine tr_seq ?_
  refine tr_reg ?_
  refine trO_asg rfl rfl ?_
  refine trO_nil ?_
  refine trX_seq ?_
  refine tr_block ?_
  refine tr_loop (E := fun (s : (List (List Int)) × Int) (g : Nat × Nat × Nat × Nat × Nat) => [(2, .optr 2 g.1 0 0), (3, .optr 3 g.2.1 0 0), (4, .optr 4 g.2.2.1 0 0), (5, .optr 5 g.2.2.2.1 0 0), (6, .int .i64 s.2)]) (O := fun s g => [(2, some (g.1, ⟨false, true, 3, 27, [.agg [.int .i64 f1.Params, .sl (f1.Slots.map eSlot), .sl (f1.Code.map eInstr)]]⟩)), (3, some (g.2.1, ⟨false, true, 1, 30, [.agg [.sl (l2.Out.map (eL eI64))]]⟩)), (4, some (g.2.2.1, ⟨false, true, 1, 30, [.agg [.nils]]⟩)), (5, some (g.2.2.2.1, ⟨false, true, 1, 30, [.agg [.osl 13 g.2.2.2.2 0 s.1.length]]⟩)), (13, some (g.2.2.2.2, ⟨false, false, 1, 43, s.1.map (eL eI64)⟩))]) (body := fun s => ref16_Step_b1 f1 l2 s.1 s.2) (s := (List.replicate (f1.Code.length : Int).toNat ([] : List Int), 0)) (_, _, _, _, _) (has_exact ⟨rfl, rfl, rfl, rfl, rfl, trivial⟩ ⟨rfl, rfl, rfl, rfl, rfl, trivial⟩) ?_
  rintro ⟨x3, k4⟩ ⟨v2, v3, v4, v5, v13⟩ nn
  show Tr _ _ _ ⟨[(2, .optr 2 v2 0 0), (3, .optr 3 v3 0 0), (4, .optr 4 v4 0 0), (5, .optr 5 v5 0 0), (6, .int .i64 k4)], [(2, some (v2, ⟨false, true, 3, 27, [.agg [.int .i64 f1.Params, .sl (f1.Slots.map eSlot), .sl (f1.Code.map eInstr)]]⟩)), (3, some (v3, ⟨false, true, 1, 30, [.agg [.sl (l2.Out.map (eL eI64))]]⟩)), (4, some (v4, ⟨false, true, 1, 30, [.agg [.nils]]⟩)), (5, some (v5, ⟨false, true, 1, 30, [.agg [.osl 13 v13 0 x3.length]]⟩)), (13, some (v13, ⟨false, false, 1, 43, x3.map (eL eI64)⟩))], _⟩ (ref16_Step_b1 f1 l2 x3 k4)
  unfold ref16_Step_b1
  refine tr_seq ?_
  refine tr_seq ?_
  refine tr_reg ?_
  refine trO_mv rfl rfl ?_
  refine trO_fldA rfl rfl ?_
  refine trO_ld_obj (v := .sl (f1.Code.map eInstr)) (z := .agg [.int .i64 f1.Params, .sl (f1.Slots.map eSlot), .sl (f1.Code.map eInstr)]) rfl rfl rfl rfl rfl rfl ?_
  refine trO_len_sl rfl rfl ?_
  refine trO_bin (v := .bool (decide (k4 < (f1.Code.length : Int)))) rfl rfl rfl rfl rfl ?_
  refine trO_nil ?_
  refine trX_seq ?_
  refine tr_cond (c := (decide (k4 < (f1.Code.length : Int)))) rfl ?_ ?_
  ·
    refine tr_skip ?_
    refine trX_seq ?_
    refine tr_seq_blk_cut (E := fun (s : (List (List Int))) (g : Nat × Nat × Nat × Nat × Nat) => [(2, .optr 2 g.1 0 0), (3, .optr 3 g.2.1 0 0), (4, .optr 4 g.2.2.1 0 0), (5, .optr 5 g.2.2.2.1 0 0), (6, .int .i64 k4)]) (O := fun s g => [(2, some (g.1, ⟨false, true, 3, 27, [.agg [.int .i64 f1.Params, .sl (f1.Slots.map eSlot), .sl (f1.Code.map eInstr)]]⟩)), (3, some (g.2.1, ⟨false, true, 1, 30, [.agg [.sl (l2.Out.map (eL eI64))]]⟩)), (4, some (g.2.2.1, ⟨false, true, 1, 30, [.agg [.nils]]⟩)), (5, some (g.2.2.2.1, ⟨false, true, 1, 30, [.agg [.osl 13 g.2.2.2.2 0 s.length]]⟩)), (13, some (g.2.2.2.2, ⟨false, false, 1, 43, s.map (eL eI64)⟩))]) (j := fun s => ref16_Step_j2 k4 s) ?_ ?_
    ·
      refine tr_seq ?_
      refine tr_reg ?_
      refine trO_ld_obj (v := .agg [.int .i64 f1.Params, .sl (f1.Slots.map eSlot), .sl (f1.Code.map eInstr)]) (z := .agg [.int .i64 f1.Params, .sl (f1.Slots.map eSlot), .sl (f1.Code.map eInstr)]) rfl rfl rfl rfl rfl rfl ?_
      refine trO_mv rfl rfl ?_
      refine trO_bind fun r6 hr6 => ?_
      refine trO_call_row (l := r6) (en := eI64) (f1, k4) rfl rfl rfl ref13_Next_de rfl rfl (by simp) rfl hr6 rfl ?_
      refine trO_asg_own (l := r6) (en := eI64) rfl rfl rfl rfl ?_
      refine trO_nil ?_
      refine trX_seq ?_
      refine tr_seq ?_
      refine tr_reg ?_
      refine trO_asg rfl rfl ?_
      refine trO_nil ?_
      refine trX_seq ?_
      refine tr_block ?_
      refine tr_loop (E := fun (s : (List (List Int)) × Int) (g : Nat × Nat × Nat × Nat × Nat × Nat) => [(2, .optr 2 g.1 0 0), (3, .optr 3 g.2.1 0 0), (4, .optr 4 g.2.2.1 0 0), (5, .optr 5 g.2.2.2.1 0 0), (6, .int .i64 k4), (7, .osl 7 g.2.2.2.2.1 0 r6.length), (8, .int .i64 s.2)]) (O := fun s g => [(2, some (g.1, ⟨false, true, 3, 27, [.agg [.int .i64 f1.Params, .sl (f1.Slots.map eSlot), .sl (f1.Code.map eInstr)]]⟩)), (3, some (g.2.1, ⟨false, true, 1, 30, [.agg [.sl (l2.Out.map (eL eI64))]]⟩)), (4, some (g.2.2.1, ⟨false, true, 1, 30, [.agg [.nils]]⟩)), (5, some (g.2.2.2.1, ⟨false, true, 1, 30, [.agg [.osl 13 g.2.2.2.2.2 0 s.1.length]]⟩)), (7, some (g.2.2.2.2.1, ⟨false, false, 1, 3, r6.map eI64⟩)), (13, some (g.2.2.2.2.2, ⟨false, false, 1, 43, s.1.map (eL eI64)⟩))]) (body := fun s => ref16_Step_b3 r6 k4 f1 l2 s.1 s.2) (s := (x3, 0)) (_, _, _, _, _, _) (has_exact ⟨rfl, rfl, rfl, rfl, rfl, rfl, rfl, trivial⟩ ⟨rfl, rfl, rfl, rfl, rfl, rfl, trivial⟩) ?_
      rintro ⟨x7, i8⟩ ⟨v2, v3, v4, v5, v7, v13⟩ nn
      show Tr _ _ _ ⟨[(2, .optr 2 v2 0 0), (3, .optr 3 v3 0 0), (4, .optr 4 v4 0 0), (5, .optr 5 v5 0 0), (6, .int .i64 k4), (7, .osl 7 v7 0 r6.length), (8, .int .i64 i8)], [(2, some (v2, ⟨false, true, 3, 27, [.agg [.int .i64 f1.Params, .sl (f1.Slots.map eSlot), .sl (f1.Code.map eInstr)]]⟩)), (3, some (v3, ⟨false, true, 1, 30, [.agg [.sl (l2.Out.map (eL eI64))]]⟩)), (4, some (v4, ⟨false, true, 1, 30, [.agg [.nils]]⟩)), (5, some (v5, ⟨false, true, 1, 30, [.agg [.osl 13 v13 0 x7.length]]⟩)), (7, some (v7, ⟨false, false, 1, 3, r6.map eI64⟩)), (13, some (v13, ⟨false, false, 1, 43, x7.map (eL eI64)⟩))], _⟩ (ref16_Step_b3 r6 k4 f1 l2 x7 i8)
      unfold ref16_Step_b3
      refine tr_seq ?_
      refine tr_seq ?_
      refine tr_reg ?_
      refine trO_mv rfl rfl ?_
      refine trO_mv rfl rfl ?_
      refine trO_len_own rfl rfl ?_
      refine trO_bin (v := .bool (decide (i8 < (r6.length : Int)))) rfl rfl rfl rfl rfl ?_
      refine trO_nil ?_
      refine trX_seq ?_
      refine tr_cond (c := (decide (i8 < (r6.length : Int)))) rfl ?_ ?_
      ·
        refine tr_skip ?_
        refine trX_seq ?_
        refine tr_seq ?_
        refine tr_block ?_
        refine tr_seq ?_
        refine tr_reg ?_
        refine trO_mv rfl rfl ?_
        refine trO_mv rfl rfl ?_
        refine trO_chk fun hq => ?_
        refine trO_ixA_own (l := r6) (en := eI64) rfl rfl rfl rfl rfl hq ?_
        refine trO_bind fun next_e9 hnext_e9 => ?_
        refine trO_ld_obj (v := .int .i64 next_e9) (z := eI64 next_e9) rfl rfl rfl (map_get hnext_e9) rfl rfl ?_
        refine trO_asg rfl rfl ?_
        refine trO_nil ?_
        refine trX_seq ?_
        refine tr_reg ?_
        refine trO_fldA rfl rfl ?_
        refine trO_ld_obj (v := .osl 13 _ 0 x7.length) (z := .agg [.osl 13 _ 0 x7.length]) rfl rfl rfl rfl rfl rfl ?_
        refine trO_mv rfl rfl ?_
        refine trO_fldA rfl rfl ?_
        refine trO_ld_obj (v := .osl 13 _ 0 x7.length) (z := .agg [.osl 13 _ 0 x7.length]) rfl rfl rfl rfl rfl rfl ?_
        refine trO_mv rfl rfl ?_
        refine trO_chk fun hq => ?_
        refine trO_ixA_own (l := x7) (en := (eL eI64)) rfl rfl rfl rfl rfl hq ?_
        refine trO_bind fun x_e10 hx_e10 => ?_
        refine trO_ld_obj (v := .sl (x_e10.map eI64)) (z := (eL eI64) x_e10) rfl rfl rfl (map_get hx_e10) rfl rfl ?_
        refine trO_fldA rfl rfl ?_
        refine trO_ld_obj (v := .sl (f1.Code.map eInstr)) (z := .agg [.int .i64 f1.Params, .sl (f1.Slots.map eSlot), .sl (f1.Code.map eInstr)]) rfl rfl rfl rfl rfl rfl ?_
        refine trO_mv rfl rfl ?_
        refine trO_bind fun x_x11 hx_x11 => ?_
        refine trO_ixA_sl (en := eInstr) rfl rfl rfl hx_x11 rfl ?_
        refine trO_ld_f (v := .agg [.int .i64 x_x11.Op, .int .i64 x_x11.A, .int .i64 x_x11.B, .int .i64 x_x11.C, .int .u64 x_x11.Imm]) rfl rfl rfl rfl ?_
        refine trO_fldA rfl rfl ?_
        refine trO_ld_obj (v := .sl (l2.Out.map (eL eI64))) (z := .agg [.sl (l2.Out.map (eL eI64))]) rfl rfl rfl rfl rfl rfl ?_
        refine trO_mv rfl rfl ?_
        refine trO_bind fun x_x12 hx_x12 => ?_
        refine trO_ixA_sl (en := (eL eI64)) rfl rfl rfl hx_x12 rfl ?_
        refine trO_ld_f (v := .sl (x_x12.map eI64)) rfl rfl rfl rfl ?_
        refine trO_bind fun r13 hr13 => ?_
        refine trO_call_row (l := r13) (en := eI64) (x_x11, x_x12) rfl rfl rfl ref15_In_de rfl rfl (by simp) rfl hr13 rfl ?_
        refine trO_bind fun r14 hr14 => ?_
        refine trO_call_row (l := r14) (en := eI64) (x_e10, r13) rfl rfl rfl ref04_Union_de rfl rfl (by simp) (by first | rfl | (simp only [take_drop0_map, take_sub_map]; rfl) | simp [ref04_Union_enc]) hr14 rfl ?_
        refine trO_chk fun hq => ?_
        refine trO_ixA_own (l := x7) (en := (eL eI64)) rfl rfl rfl rfl rfl hq ?_
        refine trO_bind fun x_o15 hx_o15 => ?_
        refine trO_st_elem (l := x7) (en := (eL eI64)) (q' := r14) rfl rfl rfl rfl rfl rfl rfl (by simp) hx_o15 rfl rfl rfl (by simp [setE, cells, setAt, eL]) rfl ?_
        refine trO_nil_draw (by kernel_rfl) ?_
        refine trX_blk_normal ?_
        refine trX_seq ?_
        refine tr_reg ?_
        refine trO_mv rfl rfl ?_
        refine trO_bin (v := .int .i64 (IntKind.i64.wrap (i8 + 1))) rfl rfl rfl rfl rfl ?_
        refine trO_asg rfl rfl ?_
        refine trO_nil ?_
        exact trX_loop (s := (x7.set k4.toNat r14, IntKind.i64.wrap (i8 + 1))) (_, _, _, _, _, _) (has_exact ⟨rfl, rfl, rfl, rfl, rfl, rfl, rfl, trivial⟩ ⟨rfl, rfl, rfl, (Eq.trans (b := some (_, ⟨false, true, 1, 30, [.agg [.osl 13 _ 0 x7.length]]⟩)) rfl (by simp)), rfl, rfl, trivial⟩)
      ·
        refine tr_exit ?_
        refine trX_seq_exit ?_
        refine trX_loop_exit ?_
        refine trX_blk_here ?_
        exact trX_bcut_normal (s := x7) (_, _, _, _, _) (has_exact ⟨rfl, rfl, rfl, rfl, rfl, trivial⟩ ⟨rfl, rfl, rfl, rfl, rfl, trivial⟩)
    ·
      rintro x5 ⟨v2, v3, v4, v5, v13⟩ nn
      show Tr _ _ _ ⟨[(2, .optr 2 v2 0 0), (3, .optr 3 v3 0 0), (4, .optr 4 v4 0 0), (5, .optr 5 v5 0 0), (6, .int .i64 k4)], [(2, some (v2, ⟨false, true, 3, 27, [.agg [.int .i64 f1.Params, .sl (f1.Slots.map eSlot), .sl (f1.Code.map eInstr)]]⟩)), (3, some (v3, ⟨false, true, 1, 30, [.agg [.sl (l2.Out.map (eL eI64))]]⟩)), (4, some (v4, ⟨false, true, 1, 30, [.agg [.nils]]⟩)), (5, some (v5, ⟨false, true, 1, 30, [.agg [.osl 13 v13 0 x5.length]]⟩)), (13, some (v13, ⟨false, false, 1, 43, x5.map (eL eI64)⟩))], _⟩ (ref16_Step_j2 k4 x5)
      unfold ref16_Step_j2
      refine tr_reg ?_
      refine trO_mv rfl rfl ?_
      refine trO_bin (v := .int .i64 (IntKind.i64.wrap (k4 + 1))) rfl rfl rfl rfl rfl ?_
      refine trO_asg rfl rfl ?_
      refine trO_nil ?_
      exact trX_loop (s := (x5, IntKind.i64.wrap (k4 + 1))) (_, _, _, _, _) (has_exact ⟨rfl, rfl, rfl, rfl, rfl, trivial⟩ ⟨rfl, rfl, rfl, rfl, rfl, trivial⟩)
  ·
    refine tr_exit ?_
    refine trX_seq_exit ?_
    refine trX_loop_exit ?_
    refine trX_blk_here ?_
    refine trX_seq ?_
    refine tr_seq ?_
    refine tr_reg ?_
    refine trO_ld_obj (v := .agg [.osl 13 _ 0 x3.length]) (z := .agg [.osl 13 _ 0 x3.length]) rfl rfl rfl rfl rfl rfl ?_
    refine trO_st_var (z' := .agg [.osl 13 _ 0 x3.length]) rfl rfl rfl rfl rfl rfl rfl rfl rfl ?_
    refine trO_nil ?_
    refine trX_seq ?_
    refine tr_ret ?_
    exact ret_val (b := (TLive.mk x3)) rfl (by first | (simp; done) | (simp; omega)) rfl rfl (by first | (simp; done) | (simp; omega)) (by first | rfl | (simp only [take_drop0_map, take_sub_map]; rfl) | simp [ref16_Step_R, eLive])

def dc61 : DCode := (.seq (.reg [⟨(some 4), (.asg (.c (.bool false)) none), none, []⟩] false) (.seq (.seq (.reg [⟨(some 6), (.mv (.t 0)), none, []⟩, ⟨(some 7), (.len false (.t 6)), none, []⟩, ⟨(some 8), (.mv (.t 1)), none, []⟩, ⟨(some 9), (.len false (.t 8)), none, []⟩, ⟨(some 10), (.bin .neq (.t 7) (.t 9)), none, []⟩] false) (.cond (.t 10) (.seq (.reg [⟨(some 4), (.asg (.c (.bool false)) none), none, []⟩] false) .ret) .skip)) (.seq (.seq (.reg [⟨(some 5), (.asg (.c (.int .i64 0)) none), none, []⟩] false) (.block 0 (.loop (.seq (.seq (.reg [⟨(some 11), (.mv (.t 5)), none, []⟩, ⟨(some 12), (.mv (.t 0)), none, []⟩, ⟨(some 13), (.len false (.t 12)), none, []⟩, ⟨(some 14), (.bin .lss (.t 11) (.t 13)), none, []⟩] false) (.cond (.t 14) .skip (.exit 0))) (.seq (.block 1 (.seq (.reg [⟨(some 17), (.mv (.t 0)), none, []⟩, ⟨(some 18), (.mv (.t 5)), none, []⟩, ⟨(some 19), (.ixA 1 (.t 17) (.t 18)), none, [0, 1]⟩, ⟨(some 20), (.ld 1 false (.t 19)), none, [2]⟩, ⟨(some 21), (.mv (.t 1)), none, []⟩, ⟨(some 22), (.mv (.t 5)), none, []⟩, ⟨(some 23), (.ixA 1 (.t 21) (.t 22)), none, [4, 5]⟩, ⟨(some 24), (.ld 1 false (.t 23)), none, [6]⟩, ⟨(some 25), (.bin .neq (.t 20) (.t 24)), none, [3, 7]⟩] true) (.cond (.t 25) (.seq (.reg [⟨(some 4), (.asg (.c (.bool false)) none), none, []⟩] false) .ret) .skip))) (.reg [⟨(some 15), (.mv (.t 5)), none, []⟩, ⟨(some 16), (.bin .add (.t 15) (.c (.int .i64 1))), none, []⟩, ⟨(some 5), (.asg (.t 16) none), none, []⟩] false)))))) (.seq (.reg [⟨(some 4), (.asg (.c (.bool true)) none), none, []⟩] false) .ret))))
theorem dc61_c : (Try.f61.body.bind (cCode Try.prog Try.f61.ntmps)) = some dc61 := by kernel_rfl
theorem dc61_r : Try.f61.results.toList.mapM (cRes Try.prog) = some [(.t 4)] := by kernel_rfl
def ref04_Same_enc (a : (List Int) × (List Int)) : List D := [.sl (a.1.map eI64), .sl (a.2.map eI64)]
def ref04_Same_dec (ds : List D) : (List Int) × (List Int) := ((uL uI) (ds.getD 0 .top), (uL uI) (ds.getD 1 .top))
theorem ref04_Same_de (a : (List Int) × (List Int)) : ref04_Same_dec (ref04_Same_enc a) = a := by simp [ref04_Same_dec, ref04_Same_enc, uI, uBo, uS, uL_e (u := uI) (en := eI64) (fun _ => rfl)]
def ref04_Same_R (b : Bool) : D := .bool b
def ref04_Same_E (_b : Bool) : List D := []
noncomputable def ref04_Same_S : Dw.Spec := fSpec [] .ground ref04_Same_enc ref04_Same_dec (fun a => ref04_Same a.1 a.2) ref04_Same_R ref04_Same_E
set_option maxHeartbeats 4000000 in
theorem ref04_Same_ok : SpecOk Try.prog 61 ref04_Same_S := by
  refine fn_ok (specs_nil) Try.func61 (by decide) dc61_c dc61_r (np := 2) (by decide) ref04_Same_de (fun _ => rfl) ?_
  rintro ⟨a1, b2⟩
  show Tr (specs []) dc61 (kRet [] .ground [(.t 4)] 2 ref04_Same_R ref04_Same_E) ⟨[(0, .sl (a1.map eI64)), (1, .sl (b2.map eI64))], [], 2⟩ (ref04_Same a1 b2)
  unfold dc61 ref04_Same
  refine tr_seq ?_
  refine tr_reg ?_
  refine trO_asg rfl rfl ?_
  refine trO_nil ?_
  refine trX_seq ?_
  refine tr_seq ?_
  refine tr_seq ?_
  refine tr_reg ?_
  refine trO_mv rfl rfl ?_
  refine trO_len_sl rfl rfl ?_
  refine trO_mv rfl rfl ?_
  refine trO_len_sl rfl rfl ?_
  refine trO_bin (v := .bool ((a1.length : Int) != (b2.length : Int))) rfl rfl rfl rfl rfl ?_
  refine trO_nil ?_
  refine trX_seq ?_
  refine tr_cond (c := ((a1.length : Int) != (b2.length : Int))) rfl ?_ ?_
  ·
    refine tr_seq ?_
    refine tr_reg ?_
    refine trO_asg rfl rfl ?_
    refine trO_nil ?_
    refine trX_seq ?_
    refine tr_ret ?_
    refine trX_seq_ret ?_
    exact ret_ground (b := false) rfl (by first | (simp; done) | (simp; omega)) rfl rfl (by first | (simp; done) | (simp; omega)) rfl
  ·
    refine tr_skip ?_
    refine trX_seq ?_
    refine tr_seq ?_
    refine tr_seq ?_
    refine tr_reg ?_
    refine trO_asg rfl rfl ?_
    refine trO_nil ?_
    refine trX_seq ?_
    refine tr_block ?_
    refine tr_loop (E := fun (s : Int) (g : Unit) => [(0, .sl (a1.map eI64)), (1, .sl (b2.map eI64)), (5, .int .i64 s)]) (O := fun s g => []) (body := fun s => ref04_Same_b1 a1 b2 s) (s := 0) () (has_exact ⟨rfl, rfl, rfl, trivial⟩ trivial) ?_
    rintro i3 ⟨⟩ nn
    show Tr _ _ _ ⟨[(0, .sl (a1.map eI64)), (1, .sl (b2.map eI64)), (5, .int .i64 i3)], [], _⟩ (ref04_Same_b1 a1 b2 i3)
    unfold ref04_Same_b1
    refine tr_seq ?_
    refine tr_seq ?_
    refine tr_reg ?_
    refine trO_mv rfl rfl ?_
    refine trO_mv rfl rfl ?_
    refine trO_len_sl rfl rfl ?_
    refine trO_bin (v := .bool (decide (i3 < (a1.length : Int)))) rfl rfl rfl rfl rfl ?_
    refine trO_nil ?_
    refine trX_seq ?_
    refine tr_cond (c := (decide (i3 < (a1.length : Int)))) rfl ?_ ?_
    ·
      refine tr_skip ?_
      refine trX_seq ?_
      refine tr_seq ?_
      refine tr_block ?_
      refine tr_seq ?_
      refine tr_reg ?_
      refine trO_mv rfl rfl ?_
      refine trO_mv rfl rfl ?_
      refine trO_bind fun x_x4 hx_x4 => ?_
      refine trO_ixA_sl (en := eI64) rfl rfl rfl hx_x4 rfl ?_
      refine trO_ld_f (v := .int .i64 x_x4) rfl rfl rfl rfl ?_
      refine trO_mv rfl rfl ?_
      refine trO_mv rfl rfl ?_
      refine trO_bind fun x_x5 hx_x5 => ?_
      refine trO_ixA_sl (en := eI64) rfl rfl rfl hx_x5 rfl ?_
      refine trO_ld_f (v := .int .i64 x_x5) rfl rfl rfl rfl ?_
      refine trO_bin (v := .bool (x_x4 != x_x5)) rfl rfl rfl rfl rfl ?_
      refine trO_nil_draw (by kernel_rfl) ?_
      refine trX_seq ?_
      refine tr_cond (c := (x_x4 != x_x5)) rfl ?_ ?_
      ·
        refine tr_seq ?_
        refine tr_reg ?_
        refine trO_asg rfl rfl ?_
        refine trO_nil ?_
        refine trX_seq ?_
        refine tr_ret ?_
        refine trX_blk_ret ?_
        refine trX_seq_ret ?_
        refine trX_loop_ret ?_
        refine trX_blk_ret ?_
        refine trX_seq_ret ?_
        exact ret_ground (b := false) rfl (by first | (simp; done) | (simp; omega)) rfl rfl (by first | (simp; done) | (simp; omega)) rfl
      ·
        refine tr_skip ?_
        refine trX_blk_normal ?_
        refine trX_seq ?_
        refine tr_reg ?_
        refine trO_mv rfl rfl ?_
        refine trO_bin (v := .int .i64 (IntKind.i64.wrap (i3 + 1))) rfl rfl rfl rfl rfl ?_
        refine trO_asg rfl rfl ?_
        refine trO_nil ?_
        exact trX_loop (s := IntKind.i64.wrap (i3 + 1)) () (has_exact ⟨rfl, rfl, rfl, trivial⟩ trivial)
    ·
      refine tr_exit ?_
      refine trX_seq_exit ?_
      refine trX_loop_exit ?_
      refine trX_blk_here ?_
      refine trX_seq ?_
      refine tr_seq ?_
      refine tr_reg ?_
      refine trO_asg rfl rfl ?_
      refine trO_nil ?_
      refine trX_seq ?_
      refine tr_ret ?_
      exact ret_ground (b := true) rfl (by first | (simp; done) | (simp; omega)) rfl rfl (by first | (simp; done) | (simp; omega)) rfl

def dc58 : DCode := (.seq (.reg [⟨(some 4), (.asg (.c (.bool false)) none), none, []⟩] false) (.seq (.seq (.reg [⟨(some 6), (.mv (.t 0)), none, []⟩, ⟨(some 7), (.len false (.t 6)), none, []⟩, ⟨(some 8), (.mv (.t 1)), none, []⟩, ⟨(some 9), (.len false (.t 8)), none, []⟩, ⟨(some 10), (.bin .neq (.t 7) (.t 9)), none, []⟩] false) (.cond (.t 10) (.seq (.reg [⟨(some 4), (.asg (.c (.bool false)) none), none, []⟩] false) .ret) .skip)) (.seq (.seq (.reg [⟨(some 5), (.asg (.c (.int .i64 0)) none), none, []⟩] false) (.block 0 (.loop (.seq (.seq (.reg [⟨(some 11), (.mv (.t 5)), none, []⟩, ⟨(some 12), (.mv (.t 0)), none, []⟩, ⟨(some 13), (.len false (.t 12)), none, []⟩, ⟨(some 14), (.bin .lss (.t 11) (.t 13)), none, []⟩] false) (.cond (.t 14) .skip (.exit 0))) (.seq (.block 1 (.seq (.reg [⟨(some 17), (.mv (.t 0)), none, []⟩, ⟨(some 18), (.mv (.t 5)), none, []⟩, ⟨(some 19), (.ixA 1 (.t 17) (.t 18)), none, [0, 1]⟩, ⟨(some 20), (.ld 1 false (.t 19)), none, [2]⟩, ⟨(some 21), (.mv (.t 1)), none, []⟩, ⟨(some 22), (.mv (.t 5)), none, []⟩, ⟨(some 23), (.ixA 1 (.t 21) (.t 22)), none, [4, 5]⟩, ⟨(some 24), (.ld 1 false (.t 23)), none, [6]⟩, ⟨(some 25), (.call (.c (.clo 61 [])) [(.t 20), (.t 24)]), none, [3, 7]⟩, ⟨(some 26), (.un .not (.t 25)), none, [8]⟩] true) (.cond (.t 26) (.seq (.reg [⟨(some 4), (.asg (.c (.bool false)) none), none, []⟩] false) .ret) .skip))) (.reg [⟨(some 15), (.mv (.t 5)), none, []⟩, ⟨(some 16), (.bin .add (.t 15) (.c (.int .i64 1))), none, []⟩, ⟨(some 5), (.asg (.t 16) none), none, []⟩] false)))))) (.seq (.reg [⟨(some 4), (.asg (.c (.bool true)) none), none, []⟩] false) .ret))))
theorem dc58_c : (Try.f58.body.bind (cCode Try.prog Try.f58.ntmps)) = some dc58 := by kernel_rfl
theorem dc58_r : Try.f58.results.toList.mapM (cRes Try.prog) = some [(.t 4)] := by kernel_rfl
def ref04_SameAll_enc (a : (List (List Int)) × (List (List Int))) : List D := [.sl (a.1.map (eL eI64)), .sl (a.2.map (eL eI64))]
def ref04_SameAll_dec (ds : List D) : (List (List Int)) × (List (List Int)) := ((uL (uL uI)) (ds.getD 0 .top), (uL (uL uI)) (ds.getD 1 .top))
theorem ref04_SameAll_de (a : (List (List Int)) × (List (List Int))) : ref04_SameAll_dec (ref04_SameAll_enc a) = a := by simp [ref04_SameAll_dec, ref04_SameAll_enc, uI, uBo, uS, uL_e (u := (uL uI)) (en := (eL eI64)) (uL_e (u := uI) (en := eI64) (fun _ => rfl))]
def ref04_SameAll_R (b : Bool) : D := .bool b
def ref04_SameAll_E (_b : Bool) : List D := []
noncomputable def ref04_SameAll_S : Dw.Spec := fSpec [] .ground ref04_SameAll_enc ref04_SameAll_dec (fun a => ref04_SameAll a.1 a.2) ref04_SameAll_R ref04_SameAll_E
set_option maxHeartbeats 4000000 in
theorem ref04_SameAll_ok : SpecOk Try.prog 58 ref04_SameAll_S := by
  refine fn_ok (specs_ok (l := [(61, ref04_Same_S)]) (by simp [ref04_Same_ok])) Try.func58 (by decide) dc58_c dc58_r (np := 2) (by decide) ref04_SameAll_de (fun _ => rfl) ?_
  rintro ⟨a1, b2⟩
  show Tr (specs [(61, ref04_Same_S)]) dc58 (kRet [] .ground [(.t 4)] 2 ref04_SameAll_R ref04_SameAll_E) ⟨[(0, .sl (a1.map (eL eI64))), (1, .sl (b2.map (eL eI64)))], [], 2⟩ (ref04_SameAll a1 b2)
  unfold dc58 ref04_SameAll
  refine tr_seq ?_
  refine tr_reg ?_
  refine trO_asg rfl rfl ?_
  refine trO_nil ?_
  refine trX_seq ?_
  refine tr_seq ?_
  refine tr_seq ?_
  refine tr_reg ?_
  refine trO_mv rfl rfl ?_
  refine trO_len_sl rfl rfl ?_
  refine trO_mv rfl rfl ?_
  refine trO_len_sl rfl rfl ?_
  refine trO_bin (v := .bool ((a1.length : Int) != (b2.length : Int))) rfl rfl rfl rfl rfl ?_
  refine trO_nil ?_
  refine trX_seq ?_
  refine tr_cond (c := ((a1.length : Int) != (b2.length : Int))) rfl ?_ ?_
  ·
    refine tr_seq ?_
    refine tr_reg ?_
    refine trO_asg rfl rfl ?_
    refine trO_nil ?_
    refine trX_seq ?_
    refine tr_ret ?_
    refine trX_seq_ret ?_
    exact ret_ground (b := false) rfl (by first | (simp; done) | (simp; omega)) rfl rfl (by first | (simp; done) | (simp; omega)) rfl
  ·
    refine tr_skip ?_
    refine trX_seq ?_
    refine tr_seq ?_
    refine tr_seq ?_
    refine tr_reg ?_
    refine trO_asg rfl rfl ?_
    refine trO_nil ?_
    refine trX_seq ?_
    refine tr_block ?_
    refine tr_loop (E := fun (s : Int) (g : Unit) => [(0, .sl (a1.map (eL eI64))), (1, .sl (b2.map (eL eI64))), (5, .int .i64 s)]) (O := fun s g => []) (body := fun s => ref04_SameAll_b1 a1 b2 s) (s := 0) () (has_exact ⟨rfl, rfl, rfl, trivial⟩ trivial) ?_
    rintro i3 ⟨⟩ nn
    show Tr _ _ _ ⟨[(0, .sl (a1.map (eL eI64))), (1, .sl (b2.map (eL eI64))), (5, .int .i64 i3)], [], _⟩ (ref04_SameAll_b1 a1 b2 i3)
    unfold ref04_SameAll_b1
    refine tr_seq ?_
    refine tr_seq ?_
    refine tr_reg ?_
    refine trO_mv rfl rfl ?_
    refine trO_mv rfl rfl ?_
    refine trO_len_sl rfl rfl ?_
    refine trO_bin (v := .bool (decide (i3 < (a1.length : Int)))) rfl rfl rfl rfl rfl ?_
    refine trO_nil ?_
    refine trX_seq ?_
    refine tr_cond (c := (decide (i3 < (a1.length : Int)))) rfl ?_ ?_
    ·
      refine tr_skip ?_
      refine trX_seq ?_
      refine tr_seq ?_
      refine tr_block ?_
      refine tr_seq ?_
      refine tr_reg ?_
      refine trO_mv rfl rfl ?_
      refine trO_mv rfl rfl ?_
      refine trO_bind fun x_x4 hx_x4 => ?_
      refine trO_ixA_sl (en := (eL eI64)) rfl rfl rfl hx_x4 rfl ?_
      refine trO_ld_f (v := .sl (x_x4.map eI64)) rfl rfl rfl rfl ?_
      refine trO_mv rfl rfl ?_
      refine trO_mv rfl rfl ?_
      refine trO_bind fun x_x5 hx_x5 => ?_
      refine trO_ixA_sl (en := (eL eI64)) rfl rfl rfl hx_x5 rfl ?_
      refine trO_ld_f (v := .sl (x_x5.map eI64)) rfl rfl rfl rfl ?_
      refine trO_bind fun r6 hr6 => ?_
      refine trO_call_ground (x_x4, x_x5) rfl rfl rfl ref04_Same_de rfl rfl (by simp) rfl hr6 rfl ?_
      refine trO_un (w := .bool (!r6)) rfl rfl rfl rfl trivial ?_
      refine trO_nil_draw (by kernel_rfl) ?_
      refine trX_seq ?_
      refine tr_cond (c := (!r6)) rfl ?_ ?_
      ·
        refine tr_seq ?_
        refine tr_reg ?_
        refine trO_asg rfl rfl ?_
        refine trO_nil ?_
        refine trX_seq ?_
        refine tr_ret ?_
        refine trX_blk_ret ?_
        refine trX_seq_ret ?_
        refine trX_loop_ret ?_
        refine trX_blk_ret ?_
        refine trX_seq_ret ?_
        exact ret_ground (b := false) rfl (by first | (simp; done) | (simp; omega)) rfl rfl (by first | (simp; done) | (simp; omega)) rfl
      ·
        refine tr_skip ?_
        refine trX_blk_normal ?_
        refine trX_seq ?_
        refine tr_reg ?_
        refine trO_mv rfl rfl ?_
        refine trO_bin (v := .int .i64 (IntKind.i64.wrap (i3 + 1))) rfl rfl rfl rfl rfl ?_
        refine trO_asg rfl rfl ?_
        refine trO_nil ?_
        exact trX_loop (s := IntKind.i64.wrap (i3 + 1)) () (has_exact ⟨rfl, rfl, rfl, trivial⟩ trivial)
    ·
      refine tr_exit ?_
      refine trX_seq_exit ?_
      refine trX_loop_exit ?_
      refine trX_blk_here ?_
      refine trX_seq ?_
      refine tr_seq ?_
      refine tr_reg ?_
      refine trO_asg rfl rfl ?_
      refine trO_nil ?_
      refine trX_seq ?_
      refine tr_ret ?_
      exact ret_ground (b := true) rfl (by first | (simp; done) | (simp; omega)) rfl rfl (by first | (simp; done) | (simp; omega)) rfl

def dc51 : DCode := (.seq (.reg [⟨(some 2), (.box (.t 0) 1 30), none, []⟩, ⟨(some 3), (.box (.t 1) 1 30), none, []⟩, ⟨(some 4), (.asg (.c (.bool false)) none), none, []⟩] false) (.seq (.reg [⟨(some 5), (.fldA 0 (.t 2)), none, []⟩, ⟨(some 6), (.ld 1 false (.t 5)), none, []⟩, ⟨(some 7), (.fldA 0 (.t 3)), none, []⟩, ⟨(some 8), (.ld 1 false (.t 7)), none, []⟩, ⟨(some 9), (.call (.c (.clo 58 [])) [(.t 6), (.t 8)]), none, []⟩, ⟨(some 4), (.asg (.t 9) none), none, []⟩] false) .ret))
theorem dc51_c : (Try.f51.body.bind (cCode Try.prog Try.f51.ntmps)) = some dc51 := by kernel_rfl
theorem dc51_r : Try.f51.results.toList.mapM (cRes Try.prog) = some [(.t 4)] := by kernel_rfl
def ref16_Same_enc (a : TLive × TLive) : List D := [eLive a.1, eLive a.2]
def ref16_Same_dec (ds : List D) : TLive × TLive := (uLive (ds.getD 0 .top), uLive (ds.getD 1 .top))
theorem ref16_Same_de (a : TLive × TLive) : ref16_Same_dec (ref16_Same_enc a) = a := by simp [ref16_Same_dec, ref16_Same_enc, uI, uBo, uS]
def ref16_Same_R (b : Bool) : D := .bool b
def ref16_Same_E (_b : Bool) : List D := []
noncomputable def ref16_Same_S : Dw.Spec := fSpec [] .ground ref16_Same_enc ref16_Same_dec (fun a => ref16_Same a.1 a.2) ref16_Same_R ref16_Same_E
set_option maxHeartbeats 4000000 in
theorem ref16_Same_ok : SpecOk Try.prog 51 ref16_Same_S := by
  refine fn_ok (specs_ok (l := [(58, ref04_SameAll_S)]) (by simp [ref04_SameAll_ok])) Try.func51 (by decide) dc51_c dc51_r (np := 2) (by decide) ref16_Same_de (fun _ => rfl) ?_
  rintro ⟨a1, b2⟩
  show Tr (specs [(58, ref04_SameAll_S)]) dc51 (kRet [] .ground [(.t 4)] 2 ref16_Same_R ref16_Same_E) ⟨[(0, .agg [.sl (a1.Out.map (eL eI64))]), (1, .agg [.sl (b2.Out.map (eL eI64))])], [], 2⟩ (ref16_Same a1 b2)
  unfold dc51 ref16_Same
  refine tr_seq ?_
  refine tr_reg ?_
  refine trO_box rfl rfl rfl rfl rfl ?_
  refine trO_box rfl rfl rfl rfl rfl ?_
  refine trO_asg rfl rfl ?_
  refine trO_nil ?_
  refine trX_seq ?_
  refine tr_seq ?_
  refine tr_reg ?_
  refine trO_fldA rfl rfl ?_
  refine trO_ld_obj (v := .sl (a1.Out.map (eL eI64))) (z := .agg [.sl (a1.Out.map (eL eI64))]) rfl rfl rfl rfl rfl rfl ?_
  refine trO_fldA rfl rfl ?_
  refine trO_ld_obj (v := .sl (b2.Out.map (eL eI64))) (z := .agg [.sl (b2.Out.map (eL eI64))]) rfl rfl rfl rfl rfl rfl ?_
  refine trO_bind fun r3 hr3 => ?_
  refine trO_call_ground (a1.Out, b2.Out) rfl rfl rfl ref04_SameAll_de rfl rfl (by simp) rfl hr3 rfl ?_
  refine trO_asg rfl rfl ?_
  refine trO_nil ?_
  refine trX_seq ?_
  refine tr_ret ?_
  exact ret_ground (b := r3) rfl (by first | (simp; done) | (simp; omega)) rfl rfl (by first | (simp; done) | (simp; omega)) rfl

def dc36 : DCode := (.seq (.reg [⟨(some 1), (.box (.t 0) 3 27), none, []⟩, ⟨(some 2), (.new (.agg [.nils]) 1 30), none, []⟩] false) (.seq (.reg [⟨(some 5), (.fldA 2 (.t 1)), none, []⟩, ⟨(some 6), (.ld 1 false (.t 5)), none, []⟩, ⟨(some 7), (.len false (.t 6)), none, []⟩, ⟨(some 8), (.mkS 1 43 24 (.sl []) (.t 7) (.t 7)), none, []⟩, ⟨(some 9), (.bld [.nils] [⟨0, ⟨1, (.t 8)⟩⟩]), none, []⟩, ⟨(some 3), (.new (.agg [.nils]) 1 30), none, []⟩, ⟨none, (.st 1 (.t 3) (.t 9)), none, []⟩] false) (.block 0 (.loop (.block 1 (.seq (.reg [⟨(some 10), (.ld 3 true (.t 1)), none, []⟩, ⟨(some 11), (.ld 1 true (.t 3)), none, []⟩, ⟨(some 12), (.call (.c (.clo 50 [])) [(.t 10), (.t 11)]), none, []⟩, ⟨(some 4), (.new (.agg [.nils]) 1 30), none, []⟩, ⟨none, (.st 1 (.t 4) (.t 12)), none, []⟩] false) (.seq (.seq (.reg [⟨(some 13), (.ld 1 true (.t 4)), none, []⟩, ⟨(some 14), (.ld 1 true (.t 3)), none, []⟩, ⟨(some 15), (.call (.c (.clo 51 [])) [(.t 13), (.t 14)]), none, []⟩] false) (.cond (.t 15) (.seq (.reg [⟨(some 16), (.ld 1 true (.t 3)), none, []⟩, ⟨none, (.st 1 (.t 2) (.t 16)), none, []⟩] false) .ret) .skip)) (.reg [⟨(some 17), (.ld 1 true (.t 4)), none, []⟩, ⟨none, (.st 1 (.t 3) (.t 17)), none, []⟩] false))))))))
theorem dc36_c : (Try.f36.body.bind (cCode Try.prog Try.f36.ntmps)) = some dc36 := by kernel_rfl
theorem dc36_r : Try.f36.results.toList.mapM (cRes Try.prog) = some [(.c 2 1 true)] := by kernel_rfl
def ref16_Solve_enc (a : TFunc) : List D := [eFunc a]
def ref16_Solve_dec (ds : List D) : TFunc := uFunc (ds.getD 0 .top)
theorem ref16_Solve_de (a : TFunc) : ref16_Solve_dec (ref16_Solve_enc a) = a := by simp [ref16_Solve_dec, ref16_Solve_enc, uI, uBo, uS]
def ref16_Solve_R (b : TLive) : D := eLive b
def ref16_Solve_E (_b : TLive) : List D := []
noncomputable def ref16_Solve_S : Dw.Spec := fSpec [] .val ref16_Solve_enc ref16_Solve_dec (fun a => ref16_Solve a) ref16_Solve_R ref16_Solve_E
set_option maxHeartbeats 4000000 in
theorem ref16_Solve_ok : SpecOk Try.prog 36 ref16_Solve_S := by
  refine fn_ok (specs_ok (l := [(50, ref16_Step_S), (51, ref16_Same_S)]) (by simp [ref16_Step_ok, ref16_Same_ok])) Try.func36 (by decide) dc36_c dc36_r (np := 1) (by decide) ref16_Solve_de (fun _ => rfl) ?_
  intro f1
  show Tr (specs [(50, ref16_Step_S), (51, ref16_Same_S)]) dc36 (kRet [] .val [(.c 2 1 true)] 1 ref16_Solve_R ref16_Solve_E) ⟨[(0, .agg [.int .i64 f1.Params, .sl (f1.Slots.map eSlot), .sl (f1.Code.map eInstr)])], [], 1⟩ (ref16_Solve f1)
  unfold dc36 ref16_Solve
  refine tr_seq ?_
  refine tr_reg ?_
  refine trO_box rfl rfl rfl rfl rfl ?_
  refine trO_new rfl ?_
  refine trO_nil ?_
  refine trX_seq ?_
  refine tr_seq ?_
  refine tr_reg ?_
  refine trO_fldA rfl rfl ?_
  refine trO_ld_obj (v := .sl (f1.Code.map eInstr)) (z := .agg [.int .i64 f1.Params, .sl (f1.Slots.map eSlot), .sl (f1.Code.map eInstr)]) rfl rfl rfl rfl rfl rfl ?_
  refine trO_len_sl rfl rfl ?_
  refine trO_chk fun hq => ?_
  refine trO_mkS (q := ([] : List Int)) (eL eI64) rfl rfl rfl rfl hq rfl ?_
  refine trO_bld (cs := [.osl 8 _ 0 ((List.replicate (f1.Code.length : Int).toNat ([] : List Int)).length)]) (ps := [(0, 1, .osl 8 _ 0 ((List.replicate (f1.Code.length : Int).toNat ([] : List Int)).length))]) rfl rfl rfl rfl ?_
  refine trO_new rfl ?_
  refine trO_st_var (z' := .agg [.osl 8 _ 0 ((List.replicate (f1.Code.length : Int).toNat ([] : List Int)).length)]) rfl rfl rfl rfl rfl rfl rfl rfl rfl ?_
  refine trO_nil ?_
  refine trX_seq ?_
  refine tr_block ?_
  refine tr_loop (E := fun (s : (List (List Int))) (g : Nat × Nat × Nat) => [(1, .optr 1 g.1 0 0), (2, .optr 2 g.2.1 0 0), (3, .optr 3 g.2.2 0 0)]) (O := fun s g => [(1, some (g.1, ⟨false, true, 3, 27, [.agg [.int .i64 f1.Params, .sl (f1.Slots.map eSlot), .sl (f1.Code.map eInstr)]]⟩)), (2, some (g.2.1, ⟨false, true, 1, 30, [.agg [.nils]]⟩)), (3, some (g.2.2, ⟨false, true, 1, 30, [.agg [.sl (s.map (eL eI64))]]⟩))]) (body := fun s => ref16_Solve_b1 f1 s) (s := List.replicate (f1.Code.length : Int).toNat ([] : List Int)) (_, _, _) (has_conv [(8, some (_, ⟨true, false, 1, 43, (List.replicate (f1.Code.length : Int).toNat ([] : List Int)).map (eL eI64)⟩))] ⟨⟨_, _, rfl, rfl, rfl⟩, trivial⟩ ⟨(conv_same rfl), (conv_same rfl), (conv_same rfl), trivial⟩ ⟨(.inl rfl), (.inl rfl), (.inr ⟨_, _, _, _, rfl, rfl, rfl, rfl, conv_agg rfl ⟨(convC_own (l := List.replicate (f1.Code.length : Int).toNat ([] : List Int)) (en := (eL eI64)) rfl rfl rfl (by simp)), trivial⟩⟩), trivial⟩) ?_
  rintro l2 ⟨v1, v2, v3⟩ nn
  show Tr _ _ _ ⟨[(1, .optr 1 v1 0 0), (2, .optr 2 v2 0 0), (3, .optr 3 v3 0 0)], [(1, some (v1, ⟨false, true, 3, 27, [.agg [.int .i64 f1.Params, .sl (f1.Slots.map eSlot), .sl (f1.Code.map eInstr)]]⟩)), (2, some (v2, ⟨false, true, 1, 30, [.agg [.nils]]⟩)), (3, some (v3, ⟨false, true, 1, 30, [.agg [.sl (l2.map (eL eI64))]]⟩))], _⟩ (ref16_Solve_b1 f1 l2)
  unfold ref16_Solve_b1
  refine tr_block ?_
  refine tr_seq ?_
  refine tr_reg ?_
  refine trO_ld_obj (v := .agg [.int .i64 f1.Params, .sl (f1.Slots.map eSlot), .sl (f1.Code.map eInstr)]) (z := .agg [.int .i64 f1.Params, .sl (f1.Slots.map eSlot), .sl (f1.Code.map eInstr)]) rfl rfl rfl rfl rfl rfl ?_
  refine trO_ld_obj (v := .agg [.sl (l2.map (eL eI64))]) (z := .agg [.sl (l2.map (eL eI64))]) rfl rfl rfl rfl rfl rfl ?_
  refine trO_bind fun r3 hr3 => ?_
  refine trO_call_val (f1, (TLive.mk l2)) rfl rfl rfl ref16_Step_de rfl rfl (by simp) rfl hr3 ?_
  refine trO_new rfl ?_
  refine trO_st_var (z' := .agg [.sl (r3.Out.map (eL eI64))]) rfl rfl rfl rfl rfl rfl rfl rfl rfl ?_
  refine trO_nil ?_
  refine trX_seq ?_
  refine tr_seq ?_
  refine tr_seq ?_
  refine tr_reg ?_
  refine trO_ld_obj (v := .agg [.sl (r3.Out.map (eL eI64))]) (z := .agg [.sl (r3.Out.map (eL eI64))]) rfl rfl rfl rfl rfl rfl ?_
  refine trO_ld_obj (v := .agg [.sl (l2.map (eL eI64))]) (z := .agg [.sl (l2.map (eL eI64))]) rfl rfl rfl rfl rfl rfl ?_
  refine trO_bind fun r4 hr4 => ?_
  refine trO_call_ground (r3, (TLive.mk l2)) rfl rfl rfl ref16_Same_de rfl rfl (by simp) rfl hr4 rfl ?_
  refine trO_nil ?_
  refine trX_seq ?_
  refine tr_cond (c := r4) rfl ?_ ?_
  ·
    refine tr_seq ?_
    refine tr_reg ?_
    refine trO_ld_obj (v := .agg [.sl (l2.map (eL eI64))]) (z := .agg [.sl (l2.map (eL eI64))]) rfl rfl rfl rfl rfl rfl ?_
    refine trO_st_var (z' := .agg [.sl (l2.map (eL eI64))]) rfl rfl rfl rfl rfl rfl rfl rfl rfl ?_
    refine trO_nil ?_
    refine trX_seq ?_
    refine tr_ret ?_
    refine trX_seq_ret ?_
    refine trX_blk_ret ?_
    refine trX_loop_ret ?_
    refine trX_blk_ret ?_
    exact ret_val (b := (TLive.mk l2)) rfl (by first | (simp; done) | (simp; omega)) rfl rfl (by first | (simp; done) | (simp; omega)) rfl
  ·
    refine tr_skip ?_
    refine trX_seq ?_
    refine tr_reg ?_
    refine trO_ld_obj (v := .agg [.sl (r3.Out.map (eL eI64))]) (z := .agg [.sl (r3.Out.map (eL eI64))]) rfl rfl rfl rfl rfl rfl ?_
    refine trO_st_var (z' := .agg [.sl (r3.Out.map (eL eI64))]) rfl rfl rfl rfl rfl rfl rfl rfl rfl ?_
    refine trO_nil ?_
    refine trX_blk_normal ?_
    exact trX_loop (s := r3.Out) (_, _, _) (has_exact ⟨rfl, rfl, rfl, trivial⟩ ⟨rfl, rfl, rfl, trivial⟩)

def dc38 : DCode := (.seq (.reg [⟨(some 2), (.asg (.c (.int .i64 0)) none), none, []⟩] false) (.seq (.reg [⟨(some 5), (.mv (.t 0)), none, []⟩, ⟨(some 6), (.call (.c (.clo 22 [])) [(.t 5), (.c (.int .i64 12))]), none, []⟩, ⟨(some 3), (.asg (.t 6) none), none, []⟩] false) (.seq (.seq (.reg [⟨(some 7), (.mv (.t 3)), none, []⟩, ⟨(some 8), (.bin .eql (.t 7) (.c (.int .i64 11))), none, []⟩] false) (.cond (.t 8) (.seq (.reg [⟨(some 9), (.bldS 1 3 (.int .i64 0) 10 [⟨0, (.c (.int .i64 9223372036854775807))⟩, ⟨1, (.c (.int .i64 (-9223372036854775808)))⟩, ⟨2, (.c (.int .i64 2147483648))⟩, ⟨3, (.c (.int .i64 2147483647))⟩, ⟨4, (.c (.int .i64 (-1)))⟩, ⟨5, (.c (.int .i64 16777216))⟩, ⟨6, (.c (.int .i64 33554432))⟩, ⟨7, (.c (.int .i64 1048577))⟩, ⟨8, (.c (.int .i64 512))⟩, ⟨9, (.c (.int .i64 80))⟩]), none, []⟩, ⟨(some 4), (.asg (.t 9) (some ⟨1, 3⟩)), none, []⟩] false) (.seq (.reg [⟨(some 10), (.mv (.t 4)), none, []⟩, ⟨(some 11), (.mv (.t 0)), none, []⟩, ⟨(some 12), (.mv (.t 4)), none, []⟩, ⟨(some 13), (.len false (.t 12)), none, []⟩, ⟨(some 14), (.call (.c (.clo 22 [])) [(.t 11), (.t 13)]), none, []⟩, ⟨(some 15), (.ixA 1 (.t 10) (.t 14)), none, []⟩, ⟨(some 16), (.ld 1 false (.t 15)), none, []⟩, ⟨(some 2), (.asg (.t 16) none), none, []⟩] false) .ret)) .skip)) (.seq (.reg [⟨(some 17), (.mv (.t 0)), none, []⟩, ⟨(some 18), (.call (.c (.clo 22 [])) [(.t 17), (.c (.int .i64 256))]), none, []⟩, ⟨(some 19), (.mv (.t 0)), none, []⟩, ⟨(some 20), (.call (.c (.clo 22 [])) [(.t 19), (.c (.int .i64 7))]), none, []⟩, ⟨(some 21), (.bin .shr (.t 18) (.t 20)), none, []⟩, ⟨(some 22), (.mv (.t 3)), none, []⟩, ⟨(some 23), (.bin .quo (.t 22) (.c (.int .i64 9))), none, []⟩, ⟨(some 24), (.bin .sub (.t 21) (.t 23)), none, []⟩, ⟨(some 2), (.asg (.t 24) none), none, []⟩] false) .ret))))
theorem dc38_c : (Try.f38.body.bind (cCode Try.prog Try.f38.ntmps)) = some dc38 := by kernel_rfl
theorem dc38_r : Try.f38.results.toList.mapM (cRes Try.prog) = some [(.t 2)] := by kernel_rfl
def draw_Codes_Int_enc (a : Tdraw_Codes) : List D := [edraw_Codes a]
def draw_Codes_Int_dec (ds : List D) : Tdraw_Codes := udraw_Codes (ds.getD 0 .top)
theorem draw_Codes_Int_de (a : Tdraw_Codes) : draw_Codes_Int_dec (draw_Codes_Int_enc a) = a := by simp [draw_Codes_Int_dec, draw_Codes_Int_enc, uI, uBo, uS]
def draw_Codes_Int_R (b : Int × Tdraw_Codes) : D := .int .i64 b.1
def draw_Codes_Int_E (b : Int × Tdraw_Codes) : List D := [edraw_Codes b.2]
noncomputable def draw_Codes_Int_S : Dw.Spec := fSpec [(0, (2, 67))] .val draw_Codes_Int_enc draw_Codes_Int_dec (fun a => draw_Codes_Int a) draw_Codes_Int_R draw_Codes_Int_E
set_option maxHeartbeats 4000000 in
theorem draw_Codes_Int_ok : SpecOk Try.prog 38 draw_Codes_Int_S := by
  refine fn_ok (specs_ok (l := [(22, draw_Codes_Next_S)]) (by simp [draw_Codes_Next_ok])) Try.func38 (by decide) dc38_c dc38_r (np := 1) (by decide) draw_Codes_Int_de (fun _ => rfl) ?_
  intro c1
  show Tr (specs [(22, draw_Codes_Next_S)]) dc38 (kRet [(0, (2, 67))] .val [(.t 2)] 1 draw_Codes_Int_R draw_Codes_Int_E) ⟨[(0, .optr 0 0 0 0)], [(0, some (0, ⟨false, true, 2, 67, [.agg [.sl (c1.list.map eU8), .int .i64 c1.at_]]⟩))], 1⟩ (draw_Codes_Int c1)
  unfold dc38 draw_Codes_Int
  refine tr_seq ?_
  refine tr_reg ?_
  refine trO_asg rfl rfl ?_
  refine trO_nil ?_
  refine trX_seq ?_
  refine tr_seq ?_
  refine tr_reg ?_
  refine trO_mv rfl rfl ?_
  refine trO_bind fun r2 hr2 => ?_
  refine trO_call_val (c1, 12) rfl rfl rfl draw_Codes_Next_de rfl rfl (by simp) rfl hr2 ?_
  refine trO_asg rfl rfl ?_
  refine trO_nil ?_
  refine trX_seq ?_
  refine tr_seq ?_
  refine tr_seq ?_
  refine tr_reg ?_
  refine trO_mv rfl rfl ?_
  refine trO_bin (v := .bool (r2.1 == 11)) rfl rfl rfl rfl rfl ?_
  refine trO_nil ?_
  refine trX_seq ?_
  refine tr_cond (c := (r2.1 == 11)) rfl ?_ ?_
  ·
    refine tr_seq ?_
    refine tr_reg ?_
    refine trO_bldS ([9223372036854775807, (-9223372036854775808), 2147483648, 2147483647, (-1), 16777216, 33554432, 1048577, 512, 80] : List Int) eI64 rfl rfl rfl (by simp) rfl rfl rfl ?_
    refine trO_asg_own (l := ([9223372036854775807, (-9223372036854775808), 2147483648, 2147483647, (-1), 16777216, 33554432, 1048577, 512, 80] : List Int)) (en := eI64) rfl rfl rfl rfl ?_
    refine trO_nil ?_
    refine trX_seq ?_
    refine tr_seq ?_
    refine tr_reg ?_
    refine trO_mv rfl rfl ?_
    refine trO_mv rfl rfl ?_
    refine trO_mv rfl rfl ?_
    refine trO_len_own rfl rfl ?_
    refine trO_bind fun r3 hr3 => ?_
    refine trO_call_val (r2.2, (([9223372036854775807, (-9223372036854775808), 2147483648, 2147483647, (-1), 16777216, 33554432, 1048577, 512, 80] : List Int).length : Int)) rfl rfl rfl draw_Codes_Next_de rfl rfl (by simp) rfl hr3 ?_
    refine trO_chk fun hq => ?_
    refine trO_ixA_own (l := ([9223372036854775807, (-9223372036854775808), 2147483648, 2147483647, (-1), 16777216, 33554432, 1048577, 512, 80] : List Int)) (en := eI64) rfl rfl rfl rfl rfl hq ?_
    refine trO_bind fun l_e4 hl_e4 => ?_
    refine trO_ld_obj (v := .int .i64 l_e4) (z := eI64 l_e4) rfl rfl rfl (map_get hl_e4) rfl rfl ?_
    refine trO_asg rfl rfl ?_
    refine trO_nil ?_
    refine trX_seq ?_
    refine tr_ret ?_
    refine trX_seq_ret ?_
    exact ret_val (b := (l_e4, r3.2)) rfl (by first | (simp; done) | (simp; omega)) rfl rfl (by first | (simp; done) | (simp; omega)) rfl
  ·
    refine tr_skip ?_
    refine trX_seq ?_
    refine tr_seq ?_
    refine tr_reg ?_
    refine trO_mv rfl rfl ?_
    refine trO_bind fun r5 hr5 => ?_
    refine trO_call_val (r2.2, 256) rfl rfl rfl draw_Codes_Next_de rfl rfl (by simp) rfl hr5 ?_
    refine trO_mv rfl rfl ?_
    refine trO_bind fun r6 hr6 => ?_
    refine trO_call_val (r5.2, 7) rfl rfl rfl draw_Codes_Next_de rfl rfl (by simp) rfl hr6 ?_
    refine trO_chk fun hq => ?_
    refine trO_bin (v := .int .i64 (r5.1.fdiv (2 ^ (Nat.min r6.1.toNat IntKind.i64.bits)))) rfl rfl rfl rfl hq ?_
    refine trO_mv rfl rfl ?_
    refine trO_bin (v := .int .i64 (IntKind.i64.wrap (r2.1.tdiv 9))) rfl rfl rfl rfl ⟨rfl, (by decide)⟩ ?_
    refine trO_bin (v := .int .i64 (IntKind.i64.wrap ((r5.1.fdiv (2 ^ (Nat.min r6.1.toNat IntKind.i64.bits))) - (IntKind.i64.wrap (r2.1.tdiv 9))))) rfl rfl rfl rfl rfl ?_
    refine trO_asg rfl rfl ?_
    refine trO_nil ?_
    refine trX_seq ?_
    refine tr_ret ?_
    exact ret_val (b := (IntKind.i64.wrap ((r5.1.fdiv (2 ^ (Nat.min r6.1.toNat IntKind.i64.bits))) - (IntKind.i64.wrap (r2.1.tdiv 9))), r6.2)) rfl (by first | (simp; done) | (simp; omega)) rfl rfl (by first | (simp; done) | (simp; omega)) rfl

end Go.Proofs.Ytihomlbcppfngaa
