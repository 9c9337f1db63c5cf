/- '==' on arrays of numbers. -/
import Derived.Test.YtpnhinbhhpeklaaData
import Derived.ChangeKeysEq
set_option linter.unusedVariables false
set_option linter.unusedSimpArgs false
namespace Go.Eng
open Go.RowKit
section
variable {P : Program}

theorem run_part1 {t : Nat} (hA : ∀ w, (isAgg t).run P w = .ok false w) {cs : Array Value} {i : Nat} {v : Value} (hv : cs[i]? = some v) (w : World) : (part t cs i).run P w = .ok v w := by
  simp [part, hA, hv]
theorem run_parta {t z : Nat} (hA : ∀ w, (isAgg t).run P w = .ok true w) (hz : ∀ w, (Go.sizeOf t).run P w = .ok z w) {cs : Array Value} {i : Nat} {vs : List Value} (hv : (cs.toList.drop i).take z = vs) (w : World) : (part t cs i).run P w = .ok (.agg vs.toArray) w := by
  subst hv
  simp [part, hA, hz]
  rw [← Array.toList_inj]
  simp [Array.toList_extract, List.drop_take, Nat.add_sub_cancel_left]

theorem eqArr {t e n : Nat} {i : TypeInfo} {k : IntKind} (hu : P.underlying t = some (.array n e)) (hi : P.info? e = some i) (hc : P.cellsOf e = 1) (hA : ∀ w, (isAgg e).run P w = .ok false w) (he : P.underlying e = some (.int k))
    (xs ys : List Int) (hx : xs.length = n) (hy : ys.length = n) (d : Nat) (w : World) :
    (Op.equalIn (d + 2) t (.agg (xs.map (Value.int k)).toArray) (.agg (ys.map (Value.int k)).toArray)).run P w = .ok (decide (xs = ys)) w := by
  rw [show d + 2 = (d + 1) + 1 from rfl, run_equalIn_array (w := w) (d + 1) _ _ hu hi, hc]
  have key : ∀ (m s : Nat), s + m = n → (Op.eqItems (d + 1) e 1 (xs.map (Value.int k)).toArray (ys.map (Value.int k)).toArray (List.range' s m)).run P w = .ok (decide (xs.drop s = ys.drop s)) w := by
    intro m
    induction m with
    | zero =>
      intro s hs
      simp only [List.range'_zero, Op.eqItems, Sem.run_pure]
      rw [List.drop_eq_nil_of_le (by omega), List.drop_eq_nil_of_le (by omega)]
      simp
    | succ m ih =>
      intro s hs
      have hxs : s < xs.length := by omega
      have hys : s < ys.length := by omega
      simp only [List.range'_succ, Op.eqItems, Sem.run_bind, Nat.mul_one]
      rw [run_part1 hA (v := .int k xs[s]) (by simp [hxs]), Result.andThen_ok]
      rw [run_part1 hA (v := .int k ys[s]) (by simp [hys]), Result.andThen_ok, run_equalIn_int w d e k k xs[s] ys[s] he, Result.andThen_ok]
      have e1 : (xs.drop s = ys.drop s) ↔ (xs[s] = ys[s] ∧ xs.drop (s + 1) = ys.drop (s + 1)) := by
        rw [List.drop_eq_getElem_cons hxs, List.drop_eq_getElem_cons hys, List.cons.injEq]
      by_cases hh : xs[s] = ys[s]
      · have : (xs[s] == ys[s]) = true := by rw [hh]; exact beq_self_eq_true _
        rw [this]
        simp only [Bool.not_true, Bool.false_eq_true, if_false]
        rw [ih (s + 1) (by omega)]
        congr 1
        exact decide_eq_decide.2 ⟨fun h => e1.2 ⟨hh, h⟩, fun h => (e1.1 h).2⟩
      · have : (xs[s] == ys[s]) = false := by simp [hh]
        rw [this]
        have e2 : ¬ (xs.drop s = ys.drop s) := fun h => hh (e1.1 h).1
        simp [e2]
  have := key n 0 (by omega)
  rw [List.range_eq_range', this]
  simp
end
end Go.Eng
