/-
  Copies of slices: what they do, at this program.
-/
import Derived.Shelf.RegionOpenPlain
import Derived.WalkKit
import Derived.Deep.LoopGhost
import Derived.Lib.Walk
import Derived.Lib.SliceRun
import Derived.KernelRfl
import Derived.Test.YtilmapojncgflaaGreatDoorProg
import Derived.Test.YtilmapojncgflaaGreatDoorDxT
import Derived.Test.YtilmapojncgflaaGreatDoorDd
open Nat renaming le_refl->aA
open Go.Value renaming ownBlock->aAB
open Go.World renaming ownsRow_made->aAA
namespace Go.Proofs
open Go.Shelf Go.RowKit Go.Lib
set_option maxHeartbeats 6400000
set_option maxRecDepth 1000000
/-- a copy of a slice in new memory -/
theorem Tryz.Auu (a:Addr) (n c:Nat) (xs:List Value) (w:World) (hn:n<=16777216) (hl:xs.length=n*3) (hx:∀ (j:Nat) x, xs[j]? =some x->w.cell? (a.add j)=some x) (h1:∀ x∈xs, x.oneCell'=true) :
    Calls Tryz.prog 27 #[.slice (some a) n c] w λe w'=>∃ v', e= .returned v'/\w'.ownsRow w.heap.size 36 3 v' n xs/\Below w.heap.size w w':=by
  have mixed:Tryz.prog.follows .mixedOrders=true:=by kernel_rfl
  have tS:=Tryz.underlying26;have aS:=Tryz.isAgg26;have zS:=Tryz.sizeOf26;have vS:=Tryz.zeroValue26;have tE:=Tryz.underlying36;have aE:=Tryz.isAgg36;have zE:=Tryz.sizeOf36;have vE:=Tryz.zeroValue36;have tB:=Tryz.underlying4;have aB:=Tryz.isAgg4;have zB:=Tryz.sizeOf4;have vB:=Tryz.zeroValue4;obtain⟨i0, hi, hz0, hz1, hz2⟩:=info_parts (P:=Tryz.prog) (e:=36) (z:= .agg #[.int .i64 0, .slice none 0 0, .slice none 0 0]) (size:=3) (bytes:=56) (by kernel_rfl)
  have q:∀ (w:World) (a:Option Addr) (n c n' c':Nat), (binOp .eql 26 (.slice a n c) (.slice none n' c')).run Tryz.prog w= .ok (.bool a.isNone) w:=λw a n c n' c'=>Lib.run_eql_slice_nil w _ _ a n c n' c' tS
  have u:∀ w, Sem.run Tryz.prog (underlying 26) w= .ok (TypeDesc.slice 36) w:=run_underlying tS;have A:Aside (∀ (j:Nat) x, xs[j]? =some x->w.cell? (a.add j)=some x):=hx;clear hx
  go_enter Tryz.func27, Tryz.ntmps27
  go_wp2_with (at_builtin;refine wpList_append_own _ rfl _ _ 26 rfl w.heap.size 36 i0 (.agg #[.int .i64 0, .slice none 0 0, .slice none 0 0]) 3 56 tS hi hz0 hz1 hz2 rfl (by decide) _ _ _ rfl (aAA w #[] 0 (aA _) (Nat.zero_le _) rfl) a n c xs rfl hl ?qc2 h1 ?qc4 ?qc5 ?qc6 ?_)
  case qc2 =>
    intro j u hj;exact Lib.cell?_alloc_some _ (A.out j u hj)
  case qc4=>unfold maxLen;omega
  case qc5=>omega
  case qc6=>simp
  intro v' w1 hown hgrow hnil
  go_wp2
  go_ret
  refine⟨v', rfl, by simpa using hown, ?_⟩
  exact((Below.refl _ w).alloc (aA _) _).grown hgrow (by simp) (by intro k hk;simp[aAB]at hk;omega)
/-- .. of nil -/
theorem Tryz.Auv (c:Nat) (w:World):Calls Tryz.prog 27 #[.slice none 0 c] w λe w'=>e= .returned (.slice none 0 0)/\w'=w:=by
  have mixed:Tryz.prog.follows .mixedOrders=true:=by kernel_rfl
  have tS:=Tryz.underlying26;have aS:=Tryz.isAgg26;have zS:=Tryz.sizeOf26;have vS:=Tryz.zeroValue26;have tE:=Tryz.underlying36;have aE:=Tryz.isAgg36;have zE:=Tryz.sizeOf36;have vE:=Tryz.zeroValue36;have tB:=Tryz.underlying4;have aB:=Tryz.isAgg4;have zB:=Tryz.sizeOf4;have vB:=Tryz.zeroValue4;have q:∀ (w:World) (a:Option Addr) (n c n' c':Nat), (binOp .eql 26 (.slice a n c) (.slice none n' c')).run Tryz.prog w= .ok (.bool a.isNone) w:=λw a n c n' c'=>Lib.run_eql_slice_nil w _ _ a n c n' c' tS
  go_enter Tryz.func27, Tryz.ntmps27
  go_wp2
  go_ret
  exact⟨rfl, rfl⟩
/-- a copy of a slice in new memory -/
theorem Tryz.Atw (a:Addr) (n c:Nat) (xs:List Value) (w:World) (hn:n<=16777216) (hl:xs.length=n*1) (hx:∀ (j:Nat) x, xs[j]? =some x->w.cell? (a.add j)=some x) (h1:∀ x∈xs, x.oneCell'=true) :
    Calls Tryz.prog 115 #[.slice (some a) n c] w λe w'=>∃ v', e= .returned v'/\w'.ownsRow w.heap.size 3 1 v' n xs/\Below w.heap.size w w':=by
  have mixed:Tryz.prog.follows .mixedOrders=true:=by kernel_rfl
  have tS:=Tryz.underlying41;have aS:=Tryz.isAgg41;have zS:=Tryz.sizeOf41;have vS:=Tryz.zeroValue41;have tE:=Tryz.underlying3;have aE:=Tryz.isAgg3;have zE:=Tryz.sizeOf3;have vE:=Tryz.zeroValue3;have tB:=Tryz.underlying4;have aB:=Tryz.isAgg4;have zB:=Tryz.sizeOf4;have vB:=Tryz.zeroValue4;obtain⟨i0, hi, hz0, hz1, hz2⟩:=info_parts (P:=Tryz.prog) (e:=3) (z:= .int .i64 0) (size:=1) (bytes:=8) (by kernel_rfl)
  have q:∀ (w:World) (a:Option Addr) (n c n' c':Nat), (binOp .eql 41 (.slice a n c) (.slice none n' c')).run Tryz.prog w= .ok (.bool a.isNone) w:=λw a n c n' c'=>Lib.run_eql_slice_nil w _ _ a n c n' c' tS
  have u:∀ w, Sem.run Tryz.prog (underlying 41) w= .ok (TypeDesc.slice 3) w:=run_underlying tS;have A:Aside (∀ (j:Nat) x, xs[j]? =some x->w.cell? (a.add j)=some x):=hx;clear hx
  go_enter Tryz.func115, Tryz.ntmps115
  go_wp2_with (at_builtin;refine wpList_append_own _ rfl _ _ 41 rfl w.heap.size 3 i0 (.int .i64 0) 1 8 tS hi hz0 hz1 hz2 rfl (by decide) _ _ _ rfl (aAA w #[] 0 (aA _) (Nat.zero_le _) rfl) a n c xs rfl hl ?qc2 h1 ?qc4 ?qc5 ?qc6 ?_)
  case qc2 =>
    intro j u hj;exact Lib.cell?_alloc_some _ (A.out j u hj)
  case qc4=>unfold maxLen;omega
  case qc5=>omega
  case qc6=>simp
  intro v' w1 hown hgrow hnil
  go_wp2
  go_ret
  refine⟨v', rfl, by simpa using hown, ?_⟩
  exact((Below.refl _ w).alloc (aA _) _).grown hgrow (by simp) (by intro k hk;simp[aAB]at hk;omega)
/-- .. of nil -/
theorem Tryz.Aty (c:Nat) (w:World):Calls Tryz.prog 115 #[.slice none 0 c] w λe w'=>e= .returned (.slice none 0 0)/\w'=w:=by
  have mixed:Tryz.prog.follows .mixedOrders=true:=by kernel_rfl
  have tS:=Tryz.underlying41;have aS:=Tryz.isAgg41;have zS:=Tryz.sizeOf41;have vS:=Tryz.zeroValue41;have tE:=Tryz.underlying3;have aE:=Tryz.isAgg3;have zE:=Tryz.sizeOf3;have vE:=Tryz.zeroValue3;have tB:=Tryz.underlying4;have aB:=Tryz.isAgg4;have zB:=Tryz.sizeOf4;have vB:=Tryz.zeroValue4;have q:∀ (w:World) (a:Option Addr) (n c n' c':Nat), (binOp .eql 41 (.slice a n c) (.slice none n' c')).run Tryz.prog w= .ok (.bool a.isNone) w:=λw a n c n' c'=>Lib.run_eql_slice_nil w _ _ a n c n' c' tS
  go_enter Tryz.func115, Tryz.ntmps115
  go_wp2
  go_ret
  exact⟨rfl, rfl⟩
/-- a copy of a slice in new memory -/
theorem Tryz.Atx (a:Addr) (n c:Nat) (xs:List Value) (w:World) (hn:n<=16777216) (hl:xs.length=n*2) (hx:∀ (j:Nat) x, xs[j]? =some x->w.cell? (a.add j)=some x) (h1:∀ x∈xs, x.oneCell'=true) :
    Calls Tryz.prog 170 #[.slice (some a) n c] w λe w'=>∃ v', e= .returned v'/\w'.ownsRow w.heap.size 121 2 v' n xs/\Below w.heap.size w w':=by
  have mixed:Tryz.prog.follows .mixedOrders=true:=by kernel_rfl
  have tS:=Tryz.underlying132;have aS:=Tryz.isAgg132;have zS:=Tryz.sizeOf132;have vS:=Tryz.zeroValue132;have tE:=Tryz.underlying121;have aE:=Tryz.isAgg121;have zE:=Tryz.sizeOf121;have vE:=Tryz.zeroValue121;have tB:=Tryz.underlying4;have aB:=Tryz.isAgg4;have zB:=Tryz.sizeOf4;have vB:=Tryz.zeroValue4;obtain⟨i0, hi, hz0, hz1, hz2⟩:=info_parts (P:=Tryz.prog) (e:=121) (z:= .agg #[.int .i64 0, .int .i64 0]) (size:=2) (bytes:=16) (by kernel_rfl)
  have q:∀ (w:World) (a:Option Addr) (n c n' c':Nat), (binOp .eql 132 (.slice a n c) (.slice none n' c')).run Tryz.prog w= .ok (.bool a.isNone) w:=λw a n c n' c'=>Lib.run_eql_slice_nil w _ _ a n c n' c' tS
  have u:∀ w, Sem.run Tryz.prog (underlying 132) w= .ok (TypeDesc.slice 121) w:=run_underlying tS;have A:Aside (∀ (j:Nat) x, xs[j]? =some x->w.cell? (a.add j)=some x):=hx;clear hx
  go_enter Tryz.func170, Tryz.ntmps170
  go_wp2_with (at_builtin;refine wpList_append_own _ rfl _ _ 132 rfl w.heap.size 121 i0 (.agg #[.int .i64 0, .int .i64 0]) 2 16 tS hi hz0 hz1 hz2 rfl (by decide) _ _ _ rfl (aAA w #[] 0 (aA _) (Nat.zero_le _) rfl) a n c xs rfl hl ?qc2 h1 ?qc4 ?qc5 ?qc6 ?_)
  case qc2 =>
    intro j u hj;exact Lib.cell?_alloc_some _ (A.out j u hj)
  case qc4=>unfold maxLen;omega
  case qc5=>omega
  case qc6=>simp
  intro v' w1 hown hgrow hnil
  go_wp2
  go_ret
  refine⟨v', rfl, by simpa using hown, ?_⟩
  exact((Below.refl _ w).alloc (aA _) _).grown hgrow (by simp) (by intro k hk;simp[aAB]at hk;omega)
/-- .. of nil -/
theorem Tryz.Atz (c:Nat) (w:World):Calls Tryz.prog 170 #[.slice none 0 c] w λe w'=>e= .returned (.slice none 0 0)/\w'=w:=by
  have mixed:Tryz.prog.follows .mixedOrders=true:=by kernel_rfl
  have tS:=Tryz.underlying132;have aS:=Tryz.isAgg132;have zS:=Tryz.sizeOf132;have vS:=Tryz.zeroValue132;have tE:=Tryz.underlying121;have aE:=Tryz.isAgg121;have zE:=Tryz.sizeOf121;have vE:=Tryz.zeroValue121;have tB:=Tryz.underlying4;have aB:=Tryz.isAgg4;have zB:=Tryz.sizeOf4;have vB:=Tryz.zeroValue4;have q:∀ (w:World) (a:Option Addr) (n c n' c':Nat), (binOp .eql 132 (.slice a n c) (.slice none n' c')).run Tryz.prog w= .ok (.bool a.isNone) w:=λw a n c n' c'=>Lib.run_eql_slice_nil w _ _ a n c n' c' tS
  go_enter Tryz.func170, Tryz.ntmps170
  go_wp2
  go_ret
  exact⟨rfl, rfl⟩
end Go.Proofs
namespace Go.Proofs.YtilmapojncgflaaGreatDoor
open Go Go.Dw Go.Proofs
abbrev AkE:List Mk->List D:=WG Pf
abbrev AkD:List D->List Mk:=Abr Td
theorem Aup (a:List Mk):AkD (AkE a)=a:=AoI _ _ Anh a
instance:Py AkE AkD:=⟨Aup⟩
noncomputable def Aro:Dw.Spec:=OY [] (.row 3 36) AkE AkD (λa=>Arn a) (AkC Pf) noE
theorem Auq:OW Tryz.prog 27 Aro:=AkJ Anh ⟨Tryz.f27, Tryz.func27, by decide, rfl⟩ (by decide) (λ_=>rfl) (λc w=>Tryz.Auv c w) λa n c xs w h1 h2 h3 h4=>Tryz.Auu a n c xs w h1 h2 h3 h4
abbrev AkG:List Int->List D:=WG Le
abbrev AkF:List D->List Int:=Abr uI
theorem Aur (a:List Int):AkF (AkG a)=a:=AoI _ _ (λ_=>rfl) a
instance:Py AkG AkF:=⟨Aur⟩
noncomputable def AnV:Dw.Spec:=OY [] (.row 1 3) AkG AkF (λa=>AlY a) (AkC Le) noE
theorem ApX:OW Tryz.prog 115 AnV:=AkJ (λ_=>rfl) ⟨Tryz.f115, Tryz.func115, by decide, rfl⟩ (by decide) (λ_=>rfl) (λc w=>Tryz.Aty c w) λa n c xs w h1 h2 h3 h4=>Tryz.Atw a n c xs w h1 h2 h3 h4
abbrev AkI:List OU->List D:=WG Pv
abbrev AkH:List D->List OU:=Abr SQ
theorem Aus (a:List OU):AkH (AkI a)=a:=AoI _ _ AcK a
instance:Py AkI AkH:=⟨Aus⟩
noncomputable def Arq:Dw.Spec:=OY [] (.row 2 121) AkI AkH (λa=>Arp a) (AkC Pv) noE
theorem Aut:OW Tryz.prog 170 Arq:=AkJ AcK ⟨Tryz.f170, Tryz.func170, by decide, rfl⟩ (by decide) (λ_=>rfl) (λc w=>Tryz.Atz c w) λa n c xs w h1 h2 h3 h4=>Tryz.Atx a n c xs w h1 h2 h3 h4
end Go.Proofs.YtilmapojncgflaaGreatDoor
