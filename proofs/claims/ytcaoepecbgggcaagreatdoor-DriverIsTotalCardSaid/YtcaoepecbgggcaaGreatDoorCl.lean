/-
  Copies of slices: what they do, at this program.
-/
import Derived.Shelf.RegionOpenPlain
import Derived.Lib.Walk
import Derived.Lib.SliceRun
import Derived.Test.YtcaoepecbgggcaaGreatDoorDxT
open Nat renaming le_refl->aA
open Go.Value renaming ownBlock->aAB
open Go.World renaming ownsRow_made->aAA
namespace Go.Proofs
open Go.Shelf Go.RowKit Go.Lib
set_option maxHeartbeats 6400000
set_option maxRecDepth 1000000
/-- a copy of a slice in new memory -/
theorem Tryz.AtJ (a:Addr) (n c:Nat) (xs:List Value) (w:World) (hn:n<=16777216) (hl:xs.length=n*1) (hx:∀ (j:Nat) x, xs[j]? =some x->w.cell? (a.add j)=some x) (h1:∀ x∈xs, x.oneCell'=true) :
    Calls Tryz.prog 97 #[.slice (some a) n c] w λe w'=>∃ v', e= .returned v'/\w'.ownsRow w.heap.size 3 1 v' n xs/\Below w.heap.size w w':=by
  have mixed:Tryz.prog.follows .mixedOrders=true:=by kernel_rfl
  have tS:=Tryz.underlying37;have aS:=Tryz.isAgg37;have zS:=Tryz.sizeOf37;have vS:=Tryz.zeroValue37;have tE:=Tryz.underlying3;have aE:=Tryz.isAgg3;have zE:=Tryz.sizeOf3;have vE:=Tryz.zeroValue3;have tB:=Tryz.underlying4;have aB:=Tryz.isAgg4;have zB:=Tryz.sizeOf4;have vB:=Tryz.zeroValue4;obtain⟨i0, hi, hz0, hz1, hz2⟩:=info_parts (P:=Tryz.prog) (e:=3) (z:= .int .i64 0) (size:=1) (bytes:=8) (by kernel_rfl)
  have q:∀ (w:World) (a:Option Addr) (n c n' c':Nat), (binOp .eql 37 (.slice a n c) (.slice none n' c')).run Tryz.prog w= .ok (.bool a.isNone) w:=λw a n c n' c'=>Lib.run_eql_slice_nil w _ _ a n c n' c' tS
  have u:∀ w, Sem.run Tryz.prog (underlying 37) w= .ok (TypeDesc.slice 3) w:=run_underlying tS;have A:Aside (∀ (j:Nat) x, xs[j]? =some x->w.cell? (a.add j)=some x):=hx;clear hx
  go_enter Tryz.func97, Tryz.ntmps97
  go_wp2_with (at_builtin;refine wpList_append_own _ rfl _ _ 37 rfl w.heap.size 3 i0 (.int .i64 0) 1 8 tS hi hz0 hz1 hz2 rfl (by decide) _ _ _ rfl (aAA w #[] 0 (aA _) (Nat.zero_le _) rfl) a n c xs rfl hl ?qc2 h1 ?qc4 ?qc5 ?qc6 ?_)
  case qc2 =>
    intro j u hj;exact Lib.cell?_alloc_some _ (A.out j u hj)
  case qc4=>unfold maxLen;omega
  case qc5=>omega
  case qc6=>simp
  intro v' w1 hown hgrow hnil
  go_wp2
  go_ret
  refine⟨v', rfl, by simpa using hown, ?_⟩
  exact((Below.refl _ w).alloc (aA _) _).grown hgrow (by simp) (by intro k hk;simp[aAB]at hk;omega)
/-- .. of nil -/
theorem Tryz.AtK (c:Nat) (w:World):Calls Tryz.prog 97 #[.slice none 0 c] w λe w'=>e= .returned (.slice none 0 0)/\w'=w:=by
  have mixed:Tryz.prog.follows .mixedOrders=true:=by kernel_rfl
  have tS:=Tryz.underlying37;have aS:=Tryz.isAgg37;have zS:=Tryz.sizeOf37;have vS:=Tryz.zeroValue37;have tE:=Tryz.underlying3;have aE:=Tryz.isAgg3;have zE:=Tryz.sizeOf3;have vE:=Tryz.zeroValue3;have tB:=Tryz.underlying4;have aB:=Tryz.isAgg4;have zB:=Tryz.sizeOf4;have vB:=Tryz.zeroValue4;have q:∀ (w:World) (a:Option Addr) (n c n' c':Nat), (binOp .eql 37 (.slice a n c) (.slice none n' c')).run Tryz.prog w= .ok (.bool a.isNone) w:=λw a n c n' c'=>Lib.run_eql_slice_nil w _ _ a n c n' c' tS
  go_enter Tryz.func97, Tryz.ntmps97
  go_wp2
  go_ret
  exact⟨rfl, rfl⟩
/-- a copy of a slice in new memory -/
theorem Tryz.Asy (a:Addr) (n c:Nat) (xs:List Value) (w:World) (hn:n<=16777216) (hl:xs.length=n*3) (hx:∀ (j:Nat) x, xs[j]? =some x->w.cell? (a.add j)=some x) (h1:∀ x∈xs, x.oneCell'=true) :
    Calls Tryz.prog 103 #[.slice (some a) n c] w λe w'=>∃ v', e= .returned v'/\w'.ownsRow w.heap.size 36 3 v' n xs/\Below w.heap.size w w':=by
  have mixed:Tryz.prog.follows .mixedOrders=true:=by kernel_rfl
  have tS:=Tryz.underlying26;have aS:=Tryz.isAgg26;have zS:=Tryz.sizeOf26;have vS:=Tryz.zeroValue26;have tE:=Tryz.underlying36;have aE:=Tryz.isAgg36;have zE:=Tryz.sizeOf36;have vE:=Tryz.zeroValue36;have tB:=Tryz.underlying4;have aB:=Tryz.isAgg4;have zB:=Tryz.sizeOf4;have vB:=Tryz.zeroValue4;obtain⟨i0, hi, hz0, hz1, hz2⟩:=info_parts (P:=Tryz.prog) (e:=36) (z:= .agg #[.int .i64 0, .slice none 0 0, .slice none 0 0]) (size:=3) (bytes:=56) (by kernel_rfl)
  have q:∀ (w:World) (a:Option Addr) (n c n' c':Nat), (binOp .eql 26 (.slice a n c) (.slice none n' c')).run Tryz.prog w= .ok (.bool a.isNone) w:=λw a n c n' c'=>Lib.run_eql_slice_nil w _ _ a n c n' c' tS
  have u:∀ w, Sem.run Tryz.prog (underlying 26) w= .ok (TypeDesc.slice 36) w:=run_underlying tS;have A:Aside (∀ (j:Nat) x, xs[j]? =some x->w.cell? (a.add j)=some x):=hx;clear hx
  go_enter Tryz.func103, Tryz.ntmps103
  go_wp2_with (at_builtin;refine wpList_append_own _ rfl _ _ 26 rfl w.heap.size 36 i0 (.agg #[.int .i64 0, .slice none 0 0, .slice none 0 0]) 3 56 tS hi hz0 hz1 hz2 rfl (by decide) _ _ _ rfl (aAA w #[] 0 (aA _) (Nat.zero_le _) rfl) a n c xs rfl hl ?qc2 h1 ?qc4 ?qc5 ?qc6 ?_)
  case qc2 =>
    intro j u hj;exact Lib.cell?_alloc_some _ (A.out j u hj)
  case qc4=>unfold maxLen;omega
  case qc5=>omega
  case qc6=>simp
  intro v' w1 hown hgrow hnil
  go_wp2
  go_ret
  refine⟨v', rfl, by simpa using hown, ?_⟩
  exact((Below.refl _ w).alloc (aA _) _).grown hgrow (by simp) (by intro k hk;simp[aAB]at hk;omega)
/-- .. of nil -/
theorem Tryz.AsA (c:Nat) (w:World):Calls Tryz.prog 103 #[.slice none 0 c] w λe w'=>e= .returned (.slice none 0 0)/\w'=w:=by
  have mixed:Tryz.prog.follows .mixedOrders=true:=by kernel_rfl
  have tS:=Tryz.underlying26;have aS:=Tryz.isAgg26;have zS:=Tryz.sizeOf26;have vS:=Tryz.zeroValue26;have tE:=Tryz.underlying36;have aE:=Tryz.isAgg36;have zE:=Tryz.sizeOf36;have vE:=Tryz.zeroValue36;have tB:=Tryz.underlying4;have aB:=Tryz.isAgg4;have zB:=Tryz.sizeOf4;have vB:=Tryz.zeroValue4;have q:∀ (w:World) (a:Option Addr) (n c n' c':Nat), (binOp .eql 26 (.slice a n c) (.slice none n' c')).run Tryz.prog w= .ok (.bool a.isNone) w:=λw a n c n' c'=>Lib.run_eql_slice_nil w _ _ a n c n' c' tS
  go_enter Tryz.func103, Tryz.ntmps103
  go_wp2
  go_ret
  exact⟨rfl, rfl⟩
/-- a copy of a slice in new memory -/
theorem Tryz.Asz (a:Addr) (n c:Nat) (xs:List Value) (w:World) (hn:n<=16777216) (hl:xs.length=n*5) (hx:∀ (j:Nat) x, xs[j]? =some x->w.cell? (a.add j)=some x) (h1:∀ x∈xs, x.oneCell'=true) :
    Calls Tryz.prog 176 #[.slice (some a) n c] w λe w'=>∃ v', e= .returned v'/\w'.ownsRow w.heap.size 90 5 v' n xs/\Below w.heap.size w w':=by
  have mixed:Tryz.prog.follows .mixedOrders=true:=by kernel_rfl
  have tS:=Tryz.underlying34;have aS:=Tryz.isAgg34;have zS:=Tryz.sizeOf34;have vS:=Tryz.zeroValue34;have tE:=Tryz.underlying90;have aE:=Tryz.isAgg90;have zE:=Tryz.sizeOf90;have vE:=Tryz.zeroValue90;have tB:=Tryz.underlying4;have aB:=Tryz.isAgg4;have zB:=Tryz.sizeOf4;have vB:=Tryz.zeroValue4;obtain⟨i0, hi, hz0, hz1, hz2⟩:=info_parts (P:=Tryz.prog) (e:=90) (z:= .agg #[.int .i64 0, .int .i64 0, .int .i64 0, .int .i64 0, .int .u64 0]) (size:=5) (bytes:=40) (by kernel_rfl)
  have q:∀ (w:World) (a:Option Addr) (n c n' c':Nat), (binOp .eql 34 (.slice a n c) (.slice none n' c')).run Tryz.prog w= .ok (.bool a.isNone) w:=λw a n c n' c'=>Lib.run_eql_slice_nil w _ _ a n c n' c' tS
  have u:∀ w, Sem.run Tryz.prog (underlying 34) w= .ok (TypeDesc.slice 90) w:=run_underlying tS;have A:Aside (∀ (j:Nat) x, xs[j]? =some x->w.cell? (a.add j)=some x):=hx;clear hx
  go_enter Tryz.func176, Tryz.ntmps176
  go_wp2_with (at_builtin;refine wpList_append_own _ rfl _ _ 34 rfl w.heap.size 90 i0 (.agg #[.int .i64 0, .int .i64 0, .int .i64 0, .int .i64 0, .int .u64 0]) 5 40 tS hi hz0 hz1 hz2 rfl (by decide) _ _ _ rfl (aAA w #[] 0 (aA _) (Nat.zero_le _) rfl) a n c xs rfl hl ?qc2 h1 ?qc4 ?qc5 ?qc6 ?_)
  case qc2 =>
    intro j u hj;exact Lib.cell?_alloc_some _ (A.out j u hj)
  case qc4=>unfold maxLen;omega
  case qc5=>omega
  case qc6=>simp
  intro v' w1 hown hgrow hnil
  go_wp2
  go_ret
  refine⟨v', rfl, by simpa using hown, ?_⟩
  exact((Below.refl _ w).alloc (aA _) _).grown hgrow (by simp) (by intro k hk;simp[aAB]at hk;omega)
/-- .. of nil -/
theorem Tryz.AsB (c:Nat) (w:World):Calls Tryz.prog 176 #[.slice none 0 c] w λe w'=>e= .returned (.slice none 0 0)/\w'=w:=by
  have mixed:Tryz.prog.follows .mixedOrders=true:=by kernel_rfl
  have tS:=Tryz.underlying34;have aS:=Tryz.isAgg34;have zS:=Tryz.sizeOf34;have vS:=Tryz.zeroValue34;have tE:=Tryz.underlying90;have aE:=Tryz.isAgg90;have zE:=Tryz.sizeOf90;have vE:=Tryz.zeroValue90;have tB:=Tryz.underlying4;have aB:=Tryz.isAgg4;have zB:=Tryz.sizeOf4;have vB:=Tryz.zeroValue4;have q:∀ (w:World) (a:Option Addr) (n c n' c':Nat), (binOp .eql 34 (.slice a n c) (.slice none n' c')).run Tryz.prog w= .ok (.bool a.isNone) w:=λw a n c n' c'=>Lib.run_eql_slice_nil w _ _ a n c n' c' tS
  go_enter Tryz.func176, Tryz.ntmps176
  go_wp2
  go_ret
  exact⟨rfl, rfl⟩
end Go.Proofs
namespace Go.Proofs.YtcaoepecbgggcaaGreatDoor
open Go Go.Dw Go.Proofs
abbrev Aip:List Int->List D:=VV Lo
abbrev Aio:List D->List Int:=Zx uI
theorem AtF (a:List Int):Aio (Aip a)=a:=AmT _ _ (λ_=>rfl) a
instance:OZ Aip Aio:=⟨AtF⟩
noncomputable def Avx:Dw.Spec:=NU [] (.row 1 3) Aip Aio (λa=>Aqa a) (Aik Lo) noE
theorem AtG:Ns Tryz.prog 97 Avx:=Ais (λ_=>rfl) ⟨Tryz.f97, Tryz.func97, by decide, rfl⟩ (by decide) (λ_=>rfl) (λc w=>Tryz.AtK c w) λa n c xs w h1 h2 h3 h4=>Tryz.AtJ a n c xs w h1 h2 h3 h4
abbrev Ain:List Nm->List D:=VV Nz
abbrev Aim:List D->List Nm:=Zx Re
theorem AtD (a:List Nm):Aim (Ain a)=a:=AmT _ _ AhZ a
instance:OZ Ain Aim:=⟨AtD⟩
noncomputable def Avw:Dw.Spec:=NU [] (.row 3 36) Ain Aim (λa=>ApZ a) (Aik Nz) noE
theorem AtE:Ns Tryz.prog 103 Avw:=Ais AhZ ⟨Tryz.f103, Tryz.func103, by decide, rfl⟩ (by decide) (λ_=>rfl) (λc w=>Tryz.AsA c w) λa n c xs w h1 h2 h3 h4=>Tryz.Asy a n c xs w h1 h2 h3 h4
abbrev Air:List Av->List D:=VV NG
abbrev Aiq:List D->List Av:=Zx RR
theorem AtH (a:List Av):Aiq (Air a)=a:=AmT _ _ Zt a
instance:OZ Air Aiq:=⟨AtH⟩
noncomputable def Avy:Dw.Spec:=NU [] (.row 5 90) Air Aiq (λa=>AmU a) (Aik NG) noE
theorem AtI:Ns Tryz.prog 176 Avy:=Ais Zt ⟨Tryz.f176, Tryz.func176, by decide, rfl⟩ (by decide) (λ_=>rfl) (λc w=>Tryz.AsB c w) λa n c xs w h1 h2 h3 h4=>Tryz.Asz a n c xs w h1 h2 h3 h4
end Go.Proofs.YtcaoepecbgggcaaGreatDoor
