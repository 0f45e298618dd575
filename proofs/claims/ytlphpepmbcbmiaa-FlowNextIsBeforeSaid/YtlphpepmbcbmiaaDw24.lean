/-
  THE LAYER Dw, PART 24: what a proof over a program uses.
-/
import Derived.Test.YtlphpepmbcbmiaaDw23
import Derived.KernelRfl
namespace Go.Dw

theorem fun_ok' {P : Program} {Γ : Specs} (hΓ : ∀ k sp, Γ k = some sp → SpecOk P (k % 4096) sp) {f : Nat} {fn : Func} {sp : Spec} {dc : DCode} {rs : List DRes} (hf : P.funcs[f]? = some fn) (hname : (fn.name == "runtime.NumGoroutine") = false)
    (hc : (fn.body.bind (cCode P fn.ntmps)) = some dc) (hr : fn.results.toList.mapM (cRes P) = some rs) {np : Nat} (hnp : np ≤ fn.ntmps) (hpre : ∀ ds, sp.pre ds → ds.length = np ∧ argKeys sp.ptr 0 ds = sp.ptr.map Prod.fst) (hptr : ptrOk sp.ptr = true) (hok : FunOk Γ sp np rs dc) (hni : inplOf sp.kind = none) : SpecOk P f sp := by
  rw [Option.bind_eq_some_iff] at hc
  obtain ⟨c, hb, hc⟩ := hc
  exact fun_ok hΓ hf hname hb hc hr hnp hpre hptr hok hni

/-- several specs at hand -/
def specs (l : List (Nat × Spec)) : Specs := fun k => look l k
theorem specs_ok {P : Program} {l : List (Nat × Spec)} (h : ∀ p ∈ l, SpecOk P (p.1 % 4096) p.2) : ∀ k sp, specs l k = some sp → SpecOk P (k % 4096) sp := fun k sp hk => h _ (look_mem hk)
theorem specs_nil {P : Program} : ∀ k sp, specs [] k = some sp → SpecOk P (k % 4096) sp := specs_ok (fun _ h => by cases h)

theorem wrap_id {n : Int} (h0 : -9223372036854775808 ≤ n) (h1 : n ≤ 9223372036854775807) : IntKind.i64.wrap n = n := by
  rw [IntKind.wrap_i64]; omega

end Go.Dw
