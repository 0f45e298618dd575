/-
  Copies of slices: what they do, at this program.
-/
import Derived.Shelf.RegionOpenPlain
import Derived.Lib.Walk
import Derived.Lib.SliceRun
import Derived.Test.YtmmchhpdaogopaaGreatDoorDxT
open Nat renaming le_refl->aA
open Go.Value renaming ownBlock->aAB
open Go.World renaming ownsRow_made->aAA
namespace Go.Proofs
open Go.Shelf Go.RowKit Go.Lib
set_option maxHeartbeats 6400000
set_option maxRecDepth 1000000
/-- a copy of a slice in new memory -/
theorem Tryz.ArF (a:Addr) (n c:Nat) (xs:List Value) (w:World) (hn:n<=16777216) (hl:xs.length=n*5) (hx:∀ (j:Nat) x, xs[j]? =some x->w.cell? (a.add j)=some x) (h1:∀ x∈xs, x.oneCell'=true) :
    Calls Tryz.prog 97 #[.slice (some a) n c] w λe w'=>∃ v', e= .returned v'/\w'.ownsRow w.heap.size 53 5 v' n xs/\Below w.heap.size w w':=by
  have mixed:Tryz.prog.follows .mixedOrders=true:=by kernel_rfl
  have tS:=Tryz.underlying54;have aS:=Tryz.isAgg54;have zS:=Tryz.sizeOf54;have vS:=Tryz.zeroValue54;have tE:=Tryz.underlying53;have aE:=Tryz.isAgg53;have zE:=Tryz.sizeOf53;have vE:=Tryz.zeroValue53;have tB:=Tryz.underlying4;have aB:=Tryz.isAgg4;have zB:=Tryz.sizeOf4;have vB:=Tryz.zeroValue4;obtain⟨i0, hi, hz0, hz1, hz2⟩:=info_parts (P:=Tryz.prog) (e:=53) (z:= .agg #[.int .i64 0, .int .i64 0, .int .i64 0, .int .i64 0, .int .u64 0]) (size:=5) (bytes:=40) (by kernel_rfl)
  have q:∀ (w:World) (a:Option Addr) (n c n' c':Nat), (binOp .eql 54 (.slice a n c) (.slice none n' c')).run Tryz.prog w= .ok (.bool a.isNone) w:=λw a n c n' c'=>Lib.run_eql_slice_nil w _ _ a n c n' c' tS
  have u:∀ w, Sem.run Tryz.prog (underlying 54) w= .ok (TypeDesc.slice 53) w:=run_underlying tS;have A:Aside (∀ (j:Nat) x, xs[j]? =some x->w.cell? (a.add j)=some x):=hx;clear hx
  go_enter Tryz.func97, Tryz.ntmps97
  go_wp2_with (at_builtin;refine wpList_append_own _ rfl _ _ 54 rfl w.heap.size 53 i0 (.agg #[.int .i64 0, .int .i64 0, .int .i64 0, .int .i64 0, .int .u64 0]) 5 40 tS hi hz0 hz1 hz2 rfl (by decide) _ _ _ rfl (aAA w #[] 0 (aA _) (Nat.zero_le _) rfl) a n c xs rfl hl ?qc2 h1 ?qc4 ?qc5 ?qc6 ?_)
  case qc2 =>
    intro j u hj;exact Lib.cell?_alloc_some _ (A.out j u hj)
  case qc4=>unfold maxLen;omega
  case qc5=>omega
  case qc6=>simp
  intro v' w1 hown hgrow hnil
  go_wp2
  go_ret
  refine⟨v', rfl, by simpa using hown, ?_⟩
  exact((Below.refl _ w).alloc (aA _) _).grown hgrow (by simp) (by intro k hk;simp[aAB]at hk;omega)
/-- .. of nil -/
theorem Tryz.ArH (c:Nat) (w:World):Calls Tryz.prog 97 #[.slice none 0 c] w λe w'=>e= .returned (.slice none 0 0)/\w'=w:=by
  have mixed:Tryz.prog.follows .mixedOrders=true:=by kernel_rfl
  have tS:=Tryz.underlying54;have aS:=Tryz.isAgg54;have zS:=Tryz.sizeOf54;have vS:=Tryz.zeroValue54;have tE:=Tryz.underlying53;have aE:=Tryz.isAgg53;have zE:=Tryz.sizeOf53;have vE:=Tryz.zeroValue53;have tB:=Tryz.underlying4;have aB:=Tryz.isAgg4;have zB:=Tryz.sizeOf4;have vB:=Tryz.zeroValue4;have q:∀ (w:World) (a:Option Addr) (n c n' c':Nat), (binOp .eql 54 (.slice a n c) (.slice none n' c')).run Tryz.prog w= .ok (.bool a.isNone) w:=λw a n c n' c'=>Lib.run_eql_slice_nil w _ _ a n c n' c' tS
  go_enter Tryz.func97, Tryz.ntmps97
  go_wp2
  go_ret
  exact⟨rfl, rfl⟩
/-- a copy of a slice in new memory -/
theorem Tryz.ArG (a:Addr) (n c:Nat) (xs:List Value) (w:World) (hn:n<=16777216) (hl:xs.length=n*3) (hx:∀ (j:Nat) x, xs[j]? =some x->w.cell? (a.add j)=some x) (h1:∀ x∈xs, x.oneCell'=true) :
    Calls Tryz.prog 99 #[.slice (some a) n c] w λe w'=>∃ v', e= .returned v'/\w'.ownsRow w.heap.size 57 3 v' n xs/\Below w.heap.size w w':=by
  have mixed:Tryz.prog.follows .mixedOrders=true:=by kernel_rfl
  have tS:=Tryz.underlying26;have aS:=Tryz.isAgg26;have zS:=Tryz.sizeOf26;have vS:=Tryz.zeroValue26;have tE:=Tryz.underlying57;have aE:=Tryz.isAgg57;have zE:=Tryz.sizeOf57;have vE:=Tryz.zeroValue57;have tB:=Tryz.underlying4;have aB:=Tryz.isAgg4;have zB:=Tryz.sizeOf4;have vB:=Tryz.zeroValue4;obtain⟨i0, hi, hz0, hz1, hz2⟩:=info_parts (P:=Tryz.prog) (e:=57) (z:= .agg #[.int .i64 0, .slice none 0 0, .slice none 0 0]) (size:=3) (bytes:=56) (by kernel_rfl)
  have q:∀ (w:World) (a:Option Addr) (n c n' c':Nat), (binOp .eql 26 (.slice a n c) (.slice none n' c')).run Tryz.prog w= .ok (.bool a.isNone) w:=λw a n c n' c'=>Lib.run_eql_slice_nil w _ _ a n c n' c' tS
  have u:∀ w, Sem.run Tryz.prog (underlying 26) w= .ok (TypeDesc.slice 57) w:=run_underlying tS;have A:Aside (∀ (j:Nat) x, xs[j]? =some x->w.cell? (a.add j)=some x):=hx;clear hx
  go_enter Tryz.func99, Tryz.ntmps99
  go_wp2_with (at_builtin;refine wpList_append_own _ rfl _ _ 26 rfl w.heap.size 57 i0 (.agg #[.int .i64 0, .slice none 0 0, .slice none 0 0]) 3 56 tS hi hz0 hz1 hz2 rfl (by decide) _ _ _ rfl (aAA w #[] 0 (aA _) (Nat.zero_le _) rfl) a n c xs rfl hl ?qc2 h1 ?qc4 ?qc5 ?qc6 ?_)
  case qc2 =>
    intro j u hj;exact Lib.cell?_alloc_some _ (A.out j u hj)
  case qc4=>unfold maxLen;omega
  case qc5=>omega
  case qc6=>simp
  intro v' w1 hown hgrow hnil
  go_wp2
  go_ret
  refine⟨v', rfl, by simpa using hown, ?_⟩
  exact((Below.refl _ w).alloc (aA _) _).grown hgrow (by simp) (by intro k hk;simp[aAB]at hk;omega)
/-- .. of nil -/
theorem Tryz.ArI (c:Nat) (w:World):Calls Tryz.prog 99 #[.slice none 0 c] w λe w'=>e= .returned (.slice none 0 0)/\w'=w:=by
  have mixed:Tryz.prog.follows .mixedOrders=true:=by kernel_rfl
  have tS:=Tryz.underlying26;have aS:=Tryz.isAgg26;have zS:=Tryz.sizeOf26;have vS:=Tryz.zeroValue26;have tE:=Tryz.underlying57;have aE:=Tryz.isAgg57;have zE:=Tryz.sizeOf57;have vE:=Tryz.zeroValue57;have tB:=Tryz.underlying4;have aB:=Tryz.isAgg4;have zB:=Tryz.sizeOf4;have vB:=Tryz.zeroValue4;have q:∀ (w:World) (a:Option Addr) (n c n' c':Nat), (binOp .eql 26 (.slice a n c) (.slice none n' c')).run Tryz.prog w= .ok (.bool a.isNone) w:=λw a n c n' c'=>Lib.run_eql_slice_nil w _ _ a n c n' c' tS
  go_enter Tryz.func99, Tryz.ntmps99
  go_wp2
  go_ret
  exact⟨rfl, rfl⟩
/-- a copy of a slice in new memory -/
theorem Tryz.Aqv (a:Addr) (n c:Nat) (xs:List Value) (w:World) (hn:n<=16777216) (hl:xs.length=n*1) (hx:∀ (j:Nat) x, xs[j]? =some x->w.cell? (a.add j)=some x) (h1:∀ x∈xs, x.oneCell'=true) :
    Calls Tryz.prog 154 #[.slice (some a) n c] w λe w'=>∃ v', e= .returned v'/\w'.ownsRow w.heap.size 3 1 v' n xs/\Below w.heap.size w w':=by
  have mixed:Tryz.prog.follows .mixedOrders=true:=by kernel_rfl
  have tS:=Tryz.underlying38;have aS:=Tryz.isAgg38;have zS:=Tryz.sizeOf38;have vS:=Tryz.zeroValue38;have tE:=Tryz.underlying3;have aE:=Tryz.isAgg3;have zE:=Tryz.sizeOf3;have vE:=Tryz.zeroValue3;have tB:=Tryz.underlying4;have aB:=Tryz.isAgg4;have zB:=Tryz.sizeOf4;have vB:=Tryz.zeroValue4;obtain⟨i0, hi, hz0, hz1, hz2⟩:=info_parts (P:=Tryz.prog) (e:=3) (z:= .int .i64 0) (size:=1) (bytes:=8) (by kernel_rfl)
  have q:∀ (w:World) (a:Option Addr) (n c n' c':Nat), (binOp .eql 38 (.slice a n c) (.slice none n' c')).run Tryz.prog w= .ok (.bool a.isNone) w:=λw a n c n' c'=>Lib.run_eql_slice_nil w _ _ a n c n' c' tS
  have u:∀ w, Sem.run Tryz.prog (underlying 38) w= .ok (TypeDesc.slice 3) w:=run_underlying tS;have A:Aside (∀ (j:Nat) x, xs[j]? =some x->w.cell? (a.add j)=some x):=hx;clear hx
  go_enter Tryz.func154, Tryz.ntmps154
  go_wp2_with (at_builtin;refine wpList_append_own _ rfl _ _ 38 rfl w.heap.size 3 i0 (.int .i64 0) 1 8 tS hi hz0 hz1 hz2 rfl (by decide) _ _ _ rfl (aAA w #[] 0 (aA _) (Nat.zero_le _) rfl) a n c xs rfl hl ?qc2 h1 ?qc4 ?qc5 ?qc6 ?_)
  case qc2 =>
    intro j u hj;exact Lib.cell?_alloc_some _ (A.out j u hj)
  case qc4=>unfold maxLen;omega
  case qc5=>omega
  case qc6=>simp
  intro v' w1 hown hgrow hnil
  go_wp2
  go_ret
  refine⟨v', rfl, by simpa using hown, ?_⟩
  exact((Below.refl _ w).alloc (aA _) _).grown hgrow (by simp) (by intro k hk;simp[aAB]at hk;omega)
/-- .. of nil -/
theorem Tryz.Aqw (c:Nat) (w:World):Calls Tryz.prog 154 #[.slice none 0 c] w λe w'=>e= .returned (.slice none 0 0)/\w'=w:=by
  have mixed:Tryz.prog.follows .mixedOrders=true:=by kernel_rfl
  have tS:=Tryz.underlying38;have aS:=Tryz.isAgg38;have zS:=Tryz.sizeOf38;have vS:=Tryz.zeroValue38;have tE:=Tryz.underlying3;have aE:=Tryz.isAgg3;have zE:=Tryz.sizeOf3;have vE:=Tryz.zeroValue3;have tB:=Tryz.underlying4;have aB:=Tryz.isAgg4;have zB:=Tryz.sizeOf4;have vB:=Tryz.zeroValue4;have q:∀ (w:World) (a:Option Addr) (n c n' c':Nat), (binOp .eql 38 (.slice a n c) (.slice none n' c')).run Tryz.prog w= .ok (.bool a.isNone) w:=λw a n c n' c'=>Lib.run_eql_slice_nil w _ _ a n c n' c' tS
  go_enter Tryz.func154, Tryz.ntmps154
  go_wp2
  go_ret
  exact⟨rfl, rfl⟩
end Go.Proofs
namespace Go.Proofs.YtmmchhpdaogopaaGreatDoor
open Go Go.Dw Go.Proofs
abbrev AgZ:List NJ->List D:=VE Oj
abbrev AgY:List D->List NJ:=YK Sl
theorem ArD (a:List NJ):AgY (AgZ a)=a:=Alb _ _ YH a
instance:PT AgZ AgY:=⟨ArD⟩
noncomputable def Ati:Dw.Spec:=Ow [] (.row 5 53) AgZ AgY (λa=>Alc a) (AgS Oj) noE
theorem ArE:NM Tryz.prog 97 Ati:=Aha YH ⟨Tryz.f97, Tryz.func97, by decide, rfl⟩ (by decide) (λ_=>rfl) (λc w=>Tryz.ArH c w) λa n c xs w h1 h2 h3 h4=>Tryz.ArF a n c xs w h1 h2 h3 h4
abbrev AgV:List NI->List D:=VE NU
abbrev AgU:List D->List NI:=YK RP
theorem ArA (a:List NI):AgU (AgV a)=a:=Alb _ _ AgH a
instance:PT AgV AgU:=⟨ArA⟩
noncomputable def Atg:Dw.Spec:=Ow [] (.row 3 57) AgV AgU (λa=>Aon a) (AgS NU) noE
theorem ArB:NM Tryz.prog 99 Atg:=Aha AgH ⟨Tryz.f99, Tryz.func99, by decide, rfl⟩ (by decide) (λ_=>rfl) (λc w=>Tryz.ArI c w) λa n c xs w h1 h2 h3 h4=>Tryz.ArG a n c xs w h1 h2 h3 h4
abbrev AgX:List Int->List D:=VE Av
abbrev AgW:List D->List Int:=YK uI
theorem ArC (a:List Int):AgW (AgX a)=a:=Alb _ _ (λ_=>rfl) a
instance:PT AgX AgW:=⟨ArC⟩
noncomputable def Ath:Dw.Spec:=Ow [] (.row 1 3) AgX AgW (λa=>AvM a) (AgS Av) noE
theorem AwN:NM Tryz.prog 154 Ath:=Aha (λ_=>rfl) ⟨Tryz.f154, Tryz.func154, by decide, rfl⟩ (by decide) (λ_=>rfl) (λc w=>Tryz.Aqw c w) λa n c xs w h1 h2 h3 h4=>Tryz.Aqv a n c xs w h1 h2 h3 h4
end Go.Proofs.YtmmchhpdaogopaaGreatDoor
