/- The rows' arguments, opened: what is known of a path. -/
import Derived.Test.YtpnhinbhhpeklaaOpenT
import Derived.Test.YtpnhinbhhpeklaaD22
set_option linter.unusedVariables false
set_option linter.unusedSimpArgs false
namespace Go.Proofs.Ytpnhinbhhpeklaa
open Go.RowKit Go.Eng DirtyPlain

theorem cells54 : Try.prog.cellsOf 54 = 3 := by kernel_rfl
section
variable {H : Type} {he : TypeId × Value → H} {w : World} {base : Nat} {spare : Nat → Bool} {held : Bool}
theorem opKn {fuel : Nat} {cs : List Value} {x : DataW H × List MemPlace} (h : DataW.trod he Try.prog w base spare held fuel 54 cs = some x) (hw : Wt Try.prog 54 x.1) : ∃ r : Kn, cs = encK r := by
  have hl := st_len Try.underlying54 h
  rw [cells54] at hl
  obtain ⟨n0, y0, h0, w0⟩ := st_field Try.underlying54 h hw 0 9 0 1 _ rfl rfl rfl cells9
  obtain ⟨n1, y1, h1, w1⟩ := st_field Try.underlying54 h hw 1 4 1 1 _ rfl rfl rfl cells4
  obtain ⟨n2, y2, h2, w2⟩ := st_field Try.underlying54 h hw 2 9 2 1 _ rfl rfl rfl cells9
  obtain ⟨p, e0, _⟩ := opStr h0 w0
  obtain ⟨b, e1, _⟩ := DataW.trod_bool Try.underlying4 h1
  obtain ⟨d, e2, _⟩ := opStr h2 w2
  refine ⟨⟨p, b, d⟩, ?_⟩
  rw [split3 (a := 1) (b := 1) (c := 1) hl, e0, e1, e2]; rfl
end
theorem aggOf {v : Value} {l : List Value} {n : Nat} (hv : ∃ cs, v = .agg cs ∧ cs.size = n) (h : v.cells.toList = l) : v = .agg l.toArray := by
  obtain ⟨cs, rfl, _⟩ := hv
  subst h
  simp [Value.cells]
end Go.Proofs.Ytpnhinbhhpeklaa
