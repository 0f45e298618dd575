/-
  Copies of slices: what they do, at this program.
-/
import Derived.Shelf.RegionOpenPlain
import Derived.Lib.Walk
import Derived.Lib.SliceRun
import Derived.Test.YtcaoepecbgggcaaGreatDoorDxT
open Nat renaming le_refl->aA
open Go.Value renaming ownBlock->aAB
open Go.World renaming ownsRow_made->aAA
namespace Go.Proofs
open Go.Shelf Go.RowKit Go.Lib
set_option maxHeartbeats 6400000
set_option maxRecDepth 1000000
/-- a copy of a slice in new memory -/
theorem Tryz.AtY (a:Addr) (n c:Nat) (xs:List Value) (w:World) (hn:n<=16777216) (hl:xs.length=n*1) (hx:∀ (j:Nat) x, xs[j]? =some x->w.cell? (a.add j)=some x) (h1:∀ x∈xs, x.oneCell'=true) :
    Calls Tryz.prog 97 #[.slice (some a) n c] w λe w'=>∃ v', e= .returned v'/\w'.ownsRow w.heap.size 3 1 v' n xs/\Below w.heap.size w w':=by
  have mixed:Tryz.prog.follows .mixedOrders=true:=by kernel_rfl
  have tS:=Tryz.underlying37;have aS:=Tryz.isAgg37;have zS:=Tryz.sizeOf37;have vS:=Tryz.zeroValue37;have tE:=Tryz.underlying3;have aE:=Tryz.isAgg3;have zE:=Tryz.sizeOf3;have vE:=Tryz.zeroValue3;have tB:=Tryz.underlying4;have aB:=Tryz.isAgg4;have zB:=Tryz.sizeOf4;have vB:=Tryz.zeroValue4;obtain⟨i0, hi, hz0, hz1, hz2⟩:=info_parts (P:=Tryz.prog) (e:=3) (z:= .int .i64 0) (size:=1) (bytes:=8) (by kernel_rfl)
  have q:∀ (w:World) (a:Option Addr) (n c n' c':Nat), (binOp .eql 37 (.slice a n c) (.slice none n' c')).run Tryz.prog w= .ok (.bool a.isNone) w:=λw a n c n' c'=>Lib.run_eql_slice_nil w _ _ a n c n' c' tS
  have u:∀ w, Sem.run Tryz.prog (underlying 37) w= .ok (TypeDesc.slice 3) w:=run_underlying tS;have A:Aside (∀ (j:Nat) x, xs[j]? =some x->w.cell? (a.add j)=some x):=hx;clear hx
  go_enter Tryz.func97, Tryz.ntmps97
  go_wp2_with (at_builtin;refine wpList_append_own _ rfl _ _ 37 rfl w.heap.size 3 i0 (.int .i64 0) 1 8 tS hi hz0 hz1 hz2 rfl (by decide) _ _ _ rfl (aAA w #[] 0 (aA _) (Nat.zero_le _) rfl) a n c xs rfl hl ?qc2 h1 ?qc4 ?qc5 ?qc6 ?_)
  case qc2 =>
    intro j u hj;exact Lib.cell?_alloc_some _ (A.out j u hj)
  case qc4=>unfold maxLen;omega
  case qc5=>omega
  case qc6=>simp
  intro v' w1 hown hgrow hnil
  go_wp2
  go_ret
  refine⟨v', rfl, by simpa using hown, ?_⟩
  exact((Below.refl _ w).alloc (aA _) _).grown hgrow (by simp) (by intro k hk;simp[aAB]at hk;omega)
/-- .. of nil -/
theorem Tryz.AtZ (c:Nat) (w:World):Calls Tryz.prog 97 #[.slice none 0 c] w λe w'=>e= .returned (.slice none 0 0)/\w'=w:=by
  have mixed:Tryz.prog.follows .mixedOrders=true:=by kernel_rfl
  have tS:=Tryz.underlying37;have aS:=Tryz.isAgg37;have zS:=Tryz.sizeOf37;have vS:=Tryz.zeroValue37;have tE:=Tryz.underlying3;have aE:=Tryz.isAgg3;have zE:=Tryz.sizeOf3;have vE:=Tryz.zeroValue3;have tB:=Tryz.underlying4;have aB:=Tryz.isAgg4;have zB:=Tryz.sizeOf4;have vB:=Tryz.zeroValue4;have q:∀ (w:World) (a:Option Addr) (n c n' c':Nat), (binOp .eql 37 (.slice a n c) (.slice none n' c')).run Tryz.prog w= .ok (.bool a.isNone) w:=λw a n c n' c'=>Lib.run_eql_slice_nil w _ _ a n c n' c' tS
  go_enter Tryz.func97, Tryz.ntmps97
  go_wp2
  go_ret
  exact⟨rfl, rfl⟩
/-- a copy of a slice in new memory -/
theorem Tryz.AsO (a:Addr) (n c:Nat) (xs:List Value) (w:World) (hn:n<=16777216) (hl:xs.length=n*3) (hx:∀ (j:Nat) x, xs[j]? =some x->w.cell? (a.add j)=some x) (h1:∀ x∈xs, x.oneCell'=true) :
    Calls Tryz.prog 103 #[.slice (some a) n c] w λe w'=>∃ v', e= .returned v'/\w'.ownsRow w.heap.size 36 3 v' n xs/\Below w.heap.size w w':=by
  have mixed:Tryz.prog.follows .mixedOrders=true:=by kernel_rfl
  have tS:=Tryz.underlying26;have aS:=Tryz.isAgg26;have zS:=Tryz.sizeOf26;have vS:=Tryz.zeroValue26;have tE:=Tryz.underlying36;have aE:=Tryz.isAgg36;have zE:=Tryz.sizeOf36;have vE:=Tryz.zeroValue36;have tB:=Tryz.underlying4;have aB:=Tryz.isAgg4;have zB:=Tryz.sizeOf4;have vB:=Tryz.zeroValue4;obtain⟨i0, hi, hz0, hz1, hz2⟩:=info_parts (P:=Tryz.prog) (e:=36) (z:= .agg #[.int .i64 0, .slice none 0 0, .slice none 0 0]) (size:=3) (bytes:=56) (by kernel_rfl)
  have q:∀ (w:World) (a:Option Addr) (n c n' c':Nat), (binOp .eql 26 (.slice a n c) (.slice none n' c')).run Tryz.prog w= .ok (.bool a.isNone) w:=λw a n c n' c'=>Lib.run_eql_slice_nil w _ _ a n c n' c' tS
  have u:∀ w, Sem.run Tryz.prog (underlying 26) w= .ok (TypeDesc.slice 36) w:=run_underlying tS;have A:Aside (∀ (j:Nat) x, xs[j]? =some x->w.cell? (a.add j)=some x):=hx;clear hx
  go_enter Tryz.func103, Tryz.ntmps103
  go_wp2_with (at_builtin;refine wpList_append_own _ rfl _ _ 26 rfl w.heap.size 36 i0 (.agg #[.int .i64 0, .slice none 0 0, .slice none 0 0]) 3 56 tS hi hz0 hz1 hz2 rfl (by decide) _ _ _ rfl (aAA w #[] 0 (aA _) (Nat.zero_le _) rfl) a n c xs rfl hl ?qc2 h1 ?qc4 ?qc5 ?qc6 ?_)
  case qc2 =>
    intro j u hj;exact Lib.cell?_alloc_some _ (A.out j u hj)
  case qc4=>unfold maxLen;omega
  case qc5=>omega
  case qc6=>simp
  intro v' w1 hown hgrow hnil
  go_wp2
  go_ret
  refine⟨v', rfl, by simpa using hown, ?_⟩
  exact((Below.refl _ w).alloc (aA _) _).grown hgrow (by simp) (by intro k hk;simp[aAB]at hk;omega)
/-- .. of nil -/
theorem Tryz.AsQ (c:Nat) (w:World):Calls Tryz.prog 103 #[.slice none 0 c] w λe w'=>e= .returned (.slice none 0 0)/\w'=w:=by
  have mixed:Tryz.prog.follows .mixedOrders=true:=by kernel_rfl
  have tS:=Tryz.underlying26;have aS:=Tryz.isAgg26;have zS:=Tryz.sizeOf26;have vS:=Tryz.zeroValue26;have tE:=Tryz.underlying36;have aE:=Tryz.isAgg36;have zE:=Tryz.sizeOf36;have vE:=Tryz.zeroValue36;have tB:=Tryz.underlying4;have aB:=Tryz.isAgg4;have zB:=Tryz.sizeOf4;have vB:=Tryz.zeroValue4;have q:∀ (w:World) (a:Option Addr) (n c n' c':Nat), (binOp .eql 26 (.slice a n c) (.slice none n' c')).run Tryz.prog w= .ok (.bool a.isNone) w:=λw a n c n' c'=>Lib.run_eql_slice_nil w _ _ a n c n' c' tS
  go_enter Tryz.func103, Tryz.ntmps103
  go_wp2
  go_ret
  exact⟨rfl, rfl⟩
/-- a copy of a slice in new memory -/
theorem Tryz.AsP (a:Addr) (n c:Nat) (xs:List Value) (w:World) (hn:n<=16777216) (hl:xs.length=n*5) (hx:∀ (j:Nat) x, xs[j]? =some x->w.cell? (a.add j)=some x) (h1:∀ x∈xs, x.oneCell'=true) :
    Calls Tryz.prog 176 #[.slice (some a) n c] w λe w'=>∃ v', e= .returned v'/\w'.ownsRow w.heap.size 90 5 v' n xs/\Below w.heap.size w w':=by
  have mixed:Tryz.prog.follows .mixedOrders=true:=by kernel_rfl
  have tS:=Tryz.underlying34;have aS:=Tryz.isAgg34;have zS:=Tryz.sizeOf34;have vS:=Tryz.zeroValue34;have tE:=Tryz.underlying90;have aE:=Tryz.isAgg90;have zE:=Tryz.sizeOf90;have vE:=Tryz.zeroValue90;have tB:=Tryz.underlying4;have aB:=Tryz.isAgg4;have zB:=Tryz.sizeOf4;have vB:=Tryz.zeroValue4;obtain⟨i0, hi, hz0, hz1, hz2⟩:=info_parts (P:=Tryz.prog) (e:=90) (z:= .agg #[.int .i64 0, .int .i64 0, .int .i64 0, .int .i64 0, .int .u64 0]) (size:=5) (bytes:=40) (by kernel_rfl)
  have q:∀ (w:World) (a:Option Addr) (n c n' c':Nat), (binOp .eql 34 (.slice a n c) (.slice none n' c')).run Tryz.prog w= .ok (.bool a.isNone) w:=λw a n c n' c'=>Lib.run_eql_slice_nil w _ _ a n c n' c' tS
  have u:∀ w, Sem.run Tryz.prog (underlying 34) w= .ok (TypeDesc.slice 90) w:=run_underlying tS;have A:Aside (∀ (j:Nat) x, xs[j]? =some x->w.cell? (a.add j)=some x):=hx;clear hx
  go_enter Tryz.func176, Tryz.ntmps176
  go_wp2_with (at_builtin;refine wpList_append_own _ rfl _ _ 34 rfl w.heap.size 90 i0 (.agg #[.int .i64 0, .int .i64 0, .int .i64 0, .int .i64 0, .int .u64 0]) 5 40 tS hi hz0 hz1 hz2 rfl (by decide) _ _ _ rfl (aAA w #[] 0 (aA _) (Nat.zero_le _) rfl) a n c xs rfl hl ?qc2 h1 ?qc4 ?qc5 ?qc6 ?_)
  case qc2 =>
    intro j u hj;exact Lib.cell?_alloc_some _ (A.out j u hj)
  case qc4=>unfold maxLen;omega
  case qc5=>omega
  case qc6=>simp
  intro v' w1 hown hgrow hnil
  go_wp2
  go_ret
  refine⟨v', rfl, by simpa using hown, ?_⟩
  exact((Below.refl _ w).alloc (aA _) _).grown hgrow (by simp) (by intro k hk;simp[aAB]at hk;omega)
/-- .. of nil -/
theorem Tryz.AsR (c:Nat) (w:World):Calls Tryz.prog 176 #[.slice none 0 c] w λe w'=>e= .returned (.slice none 0 0)/\w'=w:=by
  have mixed:Tryz.prog.follows .mixedOrders=true:=by kernel_rfl
  have tS:=Tryz.underlying34;have aS:=Tryz.isAgg34;have zS:=Tryz.sizeOf34;have vS:=Tryz.zeroValue34;have tE:=Tryz.underlying90;have aE:=Tryz.isAgg90;have zE:=Tryz.sizeOf90;have vE:=Tryz.zeroValue90;have tB:=Tryz.underlying4;have aB:=Tryz.isAgg4;have zB:=Tryz.sizeOf4;have vB:=Tryz.zeroValue4;have q:∀ (w:World) (a:Option Addr) (n c n' c':Nat), (binOp .eql 34 (.slice a n c) (.slice none n' c')).run Tryz.prog w= .ok (.bool a.isNone) w:=λw a n c n' c'=>Lib.run_eql_slice_nil w _ _ a n c n' c' tS
  go_enter Tryz.func176, Tryz.ntmps176
  go_wp2
  go_ret
  exact⟨rfl, rfl⟩
end Go.Proofs
namespace Go.Proofs.YtcaoepecbgggcaaGreatDoor
open Go Go.Dw Go.Proofs
abbrev AiK:List Int->List D:=VU Av
abbrev AiJ:List D->List Int:=Zx uI
theorem AtU (a:List Int):AiJ (AiK a)=a:=Ang _ _ (λ_=>rfl) a
instance:OW AiK AiJ:=⟨AtU⟩
noncomputable def AvH:Dw.Spec:=NO [] (.row 1 3) AiK AiJ (λa=>Aqv a) (AiF Av) noE
theorem AtV:Nr Tryz.prog 97 AvH:=AiN (λ_=>rfl) ⟨Tryz.f97, Tryz.func97, by decide, rfl⟩ (by decide) (λ_=>rfl) (λc w=>Tryz.AtZ c w) λa n c xs w h1 h2 h3 h4=>Tryz.AtY a n c xs w h1 h2 h3 h4
abbrev AiI:List Nn->List D:=VU Nz
abbrev AiH:List D->List Nn:=Zx Rh
theorem AtS (a:List Nn):AiH (AiI a)=a:=Ang _ _ Aiu a
instance:OW AiI AiH:=⟨AtS⟩
noncomputable def AvG:Dw.Spec:=NO [] (.row 3 36) AiI AiH (λa=>Aqu a) (AiF Nz) noE
theorem AtT:Nr Tryz.prog 103 AvG:=AiN Aiu ⟨Tryz.f103, Tryz.func103, by decide, rfl⟩ (by decide) (λ_=>rfl) (λc w=>Tryz.AsQ c w) λa n c xs w h1 h2 h3 h4=>Tryz.AsO a n c xs w h1 h2 h3 h4
abbrev AiM:List Lo->List D:=VU NG
abbrev AiL:List D->List Lo:=Zx RD
theorem AtW (a:List Lo):AiL (AiM a)=a:=Ang _ _ Zt a
instance:OW AiM AiL:=⟨AtW⟩
noncomputable def AvI:Dw.Spec:=NO [] (.row 5 90) AiM AiL (λa=>Anh a) (AiF NG) noE
theorem AtX:Nr Tryz.prog 176 AvI:=AiN Zt ⟨Tryz.f176, Tryz.func176, by decide, rfl⟩ (by decide) (λ_=>rfl) (λc w=>Tryz.AsR c w) λa n c xs w h1 h2 h3 h4=>Tryz.AsP a n c xs w h1 h2 h3 h4
end Go.Proofs.YtcaoepecbgggcaaGreatDoor
