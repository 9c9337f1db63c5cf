/- The rows' arguments, opened: digests, reads, outs, traces. -/
import Derived.Test.YtpnhinbhhpeklaaOpen
import Derived.Test.YtpnhinbhhpeklaaEncT
set_option linter.unusedVariables false
set_option linter.unusedSimpArgs false
namespace Go.Proofs.Ytpnhinbhhpeklaa
open Go.RowKit Go.Eng DirtyPlain

theorem Try.own : ownKnob Try.prog.godebug = none := by kernel_rfl
theorem Try.laidOut : laidOutB Try.prog = true := by kernel_rfl
theorem cells3 : Try.prog.cellsOf 3 = 1 := by kernel_rfl
theorem cells4 : Try.prog.cellsOf 4 = 1 := by kernel_rfl
theorem cells9 : Try.prog.cellsOf 9 = 1 := by kernel_rfl
theorem cells32 : Try.prog.cellsOf 32 = 32 := by kernel_rfl
theorem cells37 : Try.prog.cellsOf 37 = 34 := by kernel_rfl
theorem cells58 : Try.prog.cellsOf 58 = 33 := by kernel_rfl
theorem cells35 : Try.prog.cellsOf 35 = 34 := by kernel_rfl
theorem cells23 : Try.prog.cellsOf 23 = 1 := by kernel_rfl
theorem cells33 : Try.prog.cellsOf 33 = 1 := by kernel_rfl
theorem bytes32 : Try.prog.bytesOf 32 = 32 := by kernel_rfl
theorem bytes37 : Try.prog.bytesOf 37 = 56 := by kernel_rfl
theorem bytes58 : Try.prog.bytesOf 58 = 48 := by kernel_rfl
theorem bytes35 : Try.prog.bytesOf 35 = 80 := by kernel_rfl

theorem split3 {α : Type} {cs : List α} {a b c : Nat} (h : cs.length = a + b + c) : cs = (cs.drop 0).take a ++ ((cs.drop a).take b ++ (cs.drop (a + b)).take c) := by
  rw [List.drop_zero, List.take_of_length_le (l := cs.drop (a + b)) (by simp; omega)]
  rw [show cs.drop (a + b) = (cs.drop a).drop b by rw [List.drop_drop], List.take_append_drop, List.take_append_drop]
theorem split2 {α : Type} {cs : List α} {a b : Nat} (h : cs.length = a + b) : cs = (cs.drop 0).take a ++ (cs.drop a).take b := by
  rw [List.drop_zero, List.take_of_length_le (l := cs.drop a) (by simp; omega), List.take_append_drop]

section
variable {H : Type} {he : TypeId × Value → H} {w : World} {base : Nat} {spare : Nat → Bool} {held : Bool}

theorem opD {fuel : Nat} {cs : List Value} {x : DataW H × List MemPlace} (h : DataW.trod he Try.prog w base spare held fuel 32 cs = some x) : ∃ d : Dig, cs = encD d ∧ ∀ m ∈ d.1, 0 ≤ m ∧ m < 256 := by
  obtain ⟨l, hl, rfl, hwf⟩ := op_arr Try.underlying32 Try.underlying5 cellsOf5 cells32 h
  refine ⟨⟨l, hl⟩, rfl, fun m hm => ?_⟩
  have := hwf m hm
  simp only [Lit.wf, Bool.and_eq_true, decide_eq_true_eq] at this
  have h1 : IntKind.u8.min = 0 := by rfl
  have h2 : IntKind.u8.max = 255 := by rfl
  omega

def GRd (r : Rd) : Prop := r.path.size ≤ 140737488351232
def GMd (r : Md) : Prop := r.path.size ≤ 140737488351232
theorem opStr {fuel : Nat} {cs : List Value} {x : DataW H × List MemPlace} (h : DataW.trod he Try.prog w base spare held fuel 9 cs = some x) (hw : Wt Try.prog 9 x.1) : ∃ s : ByteArray, cs = [.string s] ∧ s.size ≤ 140737488351232 := by
  obtain ⟨s, rfl, rfl, _⟩ := DataW.trod_string Try.underlying9 h
  refine ⟨s, rfl, ?_⟩
  have := hw s.data.toList.length (by simp [DataW.weights])
  simpa [reachBytes] using this
theorem opRd {fuel : Nat} {cs : List Value} {x : DataW H × List MemPlace} (h : DataW.trod he Try.prog w base spare held fuel 37 cs = some x) (hw : Wt Try.prog 37 x.1) : ∃ r : Rd, cs = encRd r ∧ GRd r := by
  have hl := st_len Try.underlying37 h
  rw [cells37] at hl
  obtain ⟨n0, y0, h0, w0⟩ := st_field Try.underlying37 h hw 0 9 0 1 _ rfl rfl rfl cells9
  obtain ⟨n1, y1, h1, w1⟩ := st_field Try.underlying37 h hw 1 4 1 1 _ rfl rfl rfl cells4
  obtain ⟨n2, y2, h2, w2⟩ := st_field Try.underlying37 h hw 2 32 2 32 _ rfl rfl rfl cells32
  obtain ⟨p, e0, hp⟩ := opStr h0 w0
  obtain ⟨b, e1, _⟩ := DataW.trod_bool Try.underlying4 h1
  obtain ⟨d, e2, _⟩ := opD h2
  refine ⟨⟨p, b, d⟩, ?_, hp⟩
  rw [split3 (a := 1) (b := 1) (c := 32) hl, e0, e1, e2]; rfl
theorem opMd {fuel : Nat} {cs : List Value} {x : DataW H × List MemPlace} (h : DataW.trod he Try.prog w base spare held fuel 58 cs = some x) (hw : Wt Try.prog 58 x.1) : ∃ r : Md, cs = encMd r ∧ GMd r := by
  have hl := st_len Try.underlying58 h
  rw [cells58] at hl
  obtain ⟨n0, y0, h0, w0⟩ := st_field Try.underlying58 h hw 0 9 0 1 _ rfl rfl rfl cells9
  obtain ⟨n2, y2, h2, w2⟩ := st_field Try.underlying58 h hw 1 32 1 32 _ rfl rfl rfl cells32
  obtain ⟨p, e0, hp⟩ := opStr h0 w0
  obtain ⟨d, e2, _⟩ := opD h2
  refine ⟨⟨p, d⟩, ?_, hp⟩
  rw [split2 (a := 1) (b := 32) hl, e0, e2]; rfl
theorem opRds {fuel : Nat} {cs : List Value} {x : DataW H × List MemPlace} (h : DataW.trod he Try.prog w base spare held fuel 23 cs = some x) (hw : Wt Try.prog 23 x.1) :
    ∃ A xs c, cs = [.slice A xs.length c] ∧ xs.length ≤ c ∧ Sl w 34 encRd A xs ∧ (∀ a ∈ xs, GRd a) ∧ xs.length ≤ 140737488351232 := by
  obtain ⟨A, xs, c, h1, h2, h3, h4, h5⟩ := op_sl GRd Try.underlying23 cells37 (by decide) (fun n cs y h hw => opRd h hw) h hw
  refine ⟨A, xs, c, h1, h2, h3, h4, ?_⟩
  rw [bytes37, show reachBytes = 140737488351232 from rfl] at h5
  omega
theorem opMds {fuel : Nat} {cs : List Value} {x : DataW H × List MemPlace} (h : DataW.trod he Try.prog w base spare held fuel 33 cs = some x) (hw : Wt Try.prog 33 x.1) :
    ∃ A xs c, cs = [.slice A xs.length c] ∧ xs.length ≤ c ∧ Sl w 33 encMd A xs ∧ (∀ a ∈ xs, GMd a) ∧ xs.length ≤ 140737488351232 := by
  obtain ⟨A, xs, c, h1, h2, h3, h4, h5⟩ := op_sl GMd Try.underlying33 cells58 (by decide) (fun n cs y h hw => opMd h hw) h hw
  refine ⟨A, xs, c, h1, h2, h3, h4, ?_⟩
  rw [bytes58, show reachBytes = 140737488351232 from rfl] at h5
  omega
theorem opDs {fuel : Nat} {cs : List Value} {x : DataW H × List MemPlace} (h : DataW.trod he Try.prog w base spare held fuel 24 cs = some x) (hw : Wt Try.prog 24 x.1) :
    ∃ A xs c, cs = [.slice A xs.length c] ∧ xs.length ≤ c ∧ Sl w 32 encD A xs ∧ xs.length ≤ 140737488351232 := by
  obtain ⟨A, xs, c, h1, h2, h3, h4, h5⟩ := op_sl (fun _ => True) Try.underlying24 cells32 (by decide) (fun n cs y h hw => let ⟨d, e, _⟩ := opD h; ⟨d, e, trivial⟩) h hw
  refine ⟨A, xs, c, h1, h2, h3, ?_⟩
  rw [bytes32, show reachBytes = 140737488351232 from rfl] at h5
  omega
/-- the names of a trace are within reach -/
def GTr (x : TrV) : Prop := (∀ r ∈ x.t.reads, GRd r) ∧ ∀ r ∈ x.t.outs, GMd r
theorem opTr {fuel : Nat} {cs : List Value} {x : DataW H × List MemPlace} (h : DataW.trod he Try.prog w base spare held fuel 35 cs = some x) (hw : Wt Try.prog 35 x.1) : ∃ r : TrV, cs = encTr r ∧ TrOk w r ∧ GTr r := by
  have hl := st_len Try.underlying35 h
  rw [cells35] at hl
  obtain ⟨n0, y0, h0, w0⟩ := st_field Try.underlying35 h hw 0 32 0 32 _ rfl rfl rfl cells32
  obtain ⟨n1, y1, h1, w1⟩ := st_field Try.underlying35 h hw 1 23 32 1 _ rfl rfl rfl cells23
  obtain ⟨n2, y2, h2, w2⟩ := st_field Try.underlying35 h hw 2 33 33 1 _ rfl rfl rfl cells33
  obtain ⟨d, e0, _⟩ := opD h0
  obtain ⟨RA, rs, Rc, e1, hc1, s1, g1, l1⟩ := opRds h1 w1
  obtain ⟨OA, os, Oc, e2, hc2, s2, g2, l2⟩ := opMds h2 w2
  refine ⟨⟨⟨d, rs, os⟩, RA, Rc, OA, Oc⟩, ?_, ⟨s1, s2, hc1, l1, l2⟩, g1, g2⟩
  rw [split3 (a := 32) (b := 1) (c := 1) hl, e0, e1, e2]; rfl
theorem opTrs {fuel : Nat} {cs : List Value} {x : DataW H × List MemPlace} (h : DataW.trod he Try.prog w base spare held fuel 22 cs = some x) (hw : Wt Try.prog 22 x.1) :
    ∃ A xs c, cs = [.slice A xs.length c] ∧ xs.length ≤ c ∧ Trs w A xs ∧ (∀ a ∈ xs, GTr a) ∧ xs.length ≤ 140737488351232 := by
  obtain ⟨A, xs, c, h1, h2, h3, h4, h5⟩ := op_sl (fun x => TrOk w x ∧ GTr x) Try.underlying22 cells35 (by decide) (fun n cs y h hw => opTr h hw) h hw
  refine ⟨A, xs, c, h1, h2, ⟨h3, fun x hx => (h4 x hx).1⟩, fun x hx => (h4 x hx).2, ?_⟩
  rw [bytes35, show reachBytes = 140737488351232 from rfl] at h5
  omega
end
end Go.Proofs.Ytpnhinbhhpeklaa
