/- The rows' arguments, opened: steps, changes. -/
import Derived.Test.YtgmnlakddapkgaaOpenT
import Derived.Test.YtgmnlakddapkgaaD10
set_option linter.unusedVariables false
set_option linter.unusedSimpArgs false
namespace Go.Proofs.Ytgmnlakddapkgaa
open Go.RowKit Go.Eng DirtyPlain

theorem cells45 : Try.prog.cellsOf 45 = 1 := by kernel_rfl
theorem cells47 : Try.prog.cellsOf 47 = 7 := by kernel_rfl
theorem cells70 : Try.prog.cellsOf 70 = 2 := by kernel_rfl
theorem bytes9 : Try.prog.bytesOf 9 = 16 := by kernel_rfl
theorem bytes47 : Try.prog.bytesOf 47 = 144 := by kernel_rfl
theorem bytes70 : Try.prog.bytesOf 70 = 24 := by kernel_rfl

section
variable {H : Type} {he : TypeId × Value → H} {w : World} {base : Nat} {spare : Nat → Bool} {held : Bool}
theorem opStrs {fuel : Nat} {cs : List Value} {x : DataW H × List MemPlace} (h : DataW.trod he Try.prog w base spare held fuel 45 cs = some x) (hw : Wt Try.prog 45 x.1) :
    ∃ A xs c, cs = [.slice A xs.length c] ∧ xs.length ≤ c ∧ Sl w 1 encS A xs ∧ xs.length ≤ 140737488351232 := by
  obtain ⟨A, xs, c, h1, h2, h3, h4, h5⟩ := op_sl (fun _ => True) Try.underlying45 cells9 (by decide) (fun n cs y h hw => let ⟨d, e, _⟩ := opStr h hw; ⟨d, e, trivial⟩) h hw
  refine ⟨A, xs, c, h1, h2, h3, ?_⟩
  rw [bytes9, show reachBytes = 140737488351232 from rfl] at h5
  omega
theorem opStp {fuel : Nat} {cs : List Value} {x : DataW H × List MemPlace} (h : DataW.trod he Try.prog w base spare held fuel 47 cs = some x) (hw : Wt Try.prog 47 x.1) : ∃ r : StpV, cs = encStp r ∧ Sl w 1 encS r.OA r.outs ∧ r.outs.length ≤ 140737488351232 := by
  have hl := st_len Try.underlying47 h
  rw [cells47] at hl
  obtain ⟨n5, y5, h5, w5⟩ := st_field Try.underlying47 h hw 5 45 6 1 _ rfl rfl rfl cells45
  obtain ⟨OA, os, Oc, e5, _, s5, l5⟩ := opStrs h5 w5
  refine ⟨⟨⟨cs.take 6, by simp; omega⟩, OA, Oc, os⟩, ?_, s5, l5⟩
  have := split2 (a := 6) (b := 1) hl
  rw [e5, List.drop_zero] at this
  exact this
theorem opStps {fuel : Nat} {cs : List Value} {x : DataW H × List MemPlace} (h : DataW.trod he Try.prog w base spare held fuel 40 cs = some x) (hw : Wt Try.prog 40 x.1) :
    ∃ A xs c, cs = [.slice A xs.length c] ∧ xs.length ≤ c ∧ Stps w A xs ∧ xs.length ≤ 140737488351232 := by
  obtain ⟨A, xs, c, h1, h2, h3, h4, h5⟩ := op_sl (fun x : StpV => Sl w 1 encS x.OA x.outs ∧ x.outs.length ≤ 140737488351232) Try.underlying40 cells47 (by decide) (fun n cs y h hw => opStp h hw) h hw
  refine ⟨A, xs, c, h1, h2, ⟨h3, fun x hx => (h4 x hx).1, fun x hx => (h4 x hx).2⟩, ?_⟩
  rw [bytes47, show reachBytes = 140737488351232 from rfl] at h5
  omega
theorem opChg {fuel : Nat} {cs : List Value} {x : DataW H × List MemPlace} (h : DataW.trod he Try.prog w base spare held fuel 70 cs = some x) (hw : Wt Try.prog 70 x.1) : ∃ r : Chg, cs = encChg r := by
  have hl := st_len Try.underlying70 h
  rw [cells70] at hl
  obtain ⟨n0, y0, h0, w0⟩ := st_field Try.underlying70 h hw 0 9 0 1 _ rfl rfl rfl cells9
  obtain ⟨n1, y1, h1, w1⟩ := st_field Try.underlying70 h hw 1 3 1 1 _ rfl rfl rfl cells3
  obtain ⟨p, e0, _⟩ := opStr h0 w0
  obtain ⟨k, e1, _⟩ := DataW.trod_int Try.underlying3 h1
  refine ⟨⟨p, k⟩, ?_⟩
  rw [split2 (a := 1) (b := 1) hl, e0, e1]; rfl
theorem opChgs {fuel : Nat} {cs : List Value} {x : DataW H × List MemPlace} (h : DataW.trod he Try.prog w base spare held fuel 41 cs = some x) (hw : Wt Try.prog 41 x.1) :
    ∃ A xs c, cs = [.slice A xs.length c] ∧ xs.length ≤ c ∧ Sl w 2 encChg A xs ∧ xs.length ≤ 140737488351232 := by
  obtain ⟨A, xs, c, h1, h2, h3, h4, h5⟩ := op_sl (fun _ => True) Try.underlying41 cells70 (by decide) (fun n cs y h hw => let ⟨d, e⟩ := opChg h hw; ⟨d, e, trivial⟩) h hw
  refine ⟨A, xs, c, h1, h2, h3, ?_⟩
  rw [bytes70, show reachBytes = 140737488351232 from rfl] at h5
  omega
end
end Go.Proofs.Ytgmnlakddapkgaa
