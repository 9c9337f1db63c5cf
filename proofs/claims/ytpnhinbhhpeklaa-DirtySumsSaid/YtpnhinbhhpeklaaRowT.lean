/- Two small facts for the rows' closing. -/
import Derived.Test.YtpnhinbhhpeklaaOpenT
import Derived.Test.YtpnhinbhhpeklaaRow
set_option linter.unusedVariables false
set_option linter.unusedSimpArgs false
namespace Go.Proofs.Ytpnhinbhhpeklaa
open Go.ChangeShapes Go.WideShapes Go.ChangeAt Go.RowKit Go.Eng DirtyPlain
theorem trodAll_four {H : Type} {enc : TypeId × Value → H} {P : Program} {w : World} {base : Nat} {spare : Nat → Bool} {held : Bool} {t0 t1 t2 t3 : TypeId} {args : Array Value} {ds : List (DataW H)} {ps : List MemPlace} (h : DataW.TrodAll enc P w base spare held [t0, t1, t2, t3] args.toList ds ps) :
    ∃ v0 v1 v2 v3 d0 d1 d2 d3 p0 p1 p2 p3, args = #[v0, v1, v2, v3] ∧ ds = [d0, d1, d2, d3] ∧ ps = p0 ++ p1 ++ p2 ++ p3 ∧ DataW.Trod enc P w base spare held t0 v0 d0 p0 ∧ DataW.Trod enc P w base spare held t1 v1 d1 p1 ∧ DataW.Trod enc P w base spare held t2 v2 d2 p2 ∧ DataW.Trod enc P w base spare held t3 v3 d3 p3 := by
  obtain ⟨v0, vs, d0, ds', p0, q, hargs, rfl, rfl, h0, hr⟩ := trodAll_cons h
  obtain ⟨v1, vs', d1, ds'', p1, q', rfl, rfl, rfl, h1, hr⟩ := trodAll_cons hr
  obtain ⟨v2, vs'', d2, ds3, p2, q'', rfl, rfl, rfl, h2, hr⟩ := trodAll_cons hr
  obtain ⟨v3, vs3, d3, ds4, p3, q3, rfl, rfl, rfl, h3, hr⟩ := trodAll_cons hr
  obtain ⟨rfl, rfl, rfl⟩ := trodAll_nil hr
  refine ⟨v0, v1, v2, v3, d0, d1, d2, d3, p0, p1, p2, p3, ?_, rfl, by simp, h0, h1, h2, h3⟩
  cases args; simp_all
theorem wt0 {H : Type} {P : Program} {ts : List TypeId} {ds : List (DataW H)} (h : (DataW.weightsEach P ts ds).all (· ≤ reachBytes) = true) {j t : Nat} {d : DataW H} (ht : ts[j]? = some t) (hd : ds[j]? = some d) : Wt P t d := fun m hm => by
  have := List.all_eq_true.1 h m (DataW.weights_mem_each ht hd m hm)
  simpa using this
theorem sliceOf {v : Value} {A : Option Addr} {n c : Nat} (hv : ∃ a len cap, v = .slice a len cap) (h : v.cells.toList = [.slice A n c]) : v = .slice A n c := by
  obtain ⟨a, len, cap, rfl⟩ := hv
  simpa [Value.cells] using h

end Go.Proofs.Ytpnhinbhhpeklaa
