/- A part of the proof of a law of this seat. No condition of its own. -/
import Derived.Test.YtgcmddaibnimjaaGreatDoorL6
import Derived.Test.YtgcmddaibnimjaaGreatDoorCards
import Derived.Test.YtgcmddaibnimjaaGreatDoorTie
import Derived.Deep.DeepHandedRow
import Derived.Lib.LaidTab
import Derived.Shelf.Vars
set_option linter.unusedVariables false
set_option linter.unusedSimpArgs false
set_option maxRecDepth 8000
set_option maxHeartbeats 4000000
namespace Go.Proofs.YtgcmddaibnimjaaGreatDoor
open Go.ChangeShapes Go.WideShapes Go.ChangeAt Go.RowKit Go.Eng
theorem zown : ownKnob Tryz.prog.godebug = none := by kernel_rfl
theorem zlaid : laidOutB Tryz.prog = true := by kernel_rfl
abbrev seatLaid : List (String × DataW Unit) := [("math/bits.deBruijn32tab", Rows.laid_math_bits_deBruijn32tab), ("math/bits.deBruijn64tab", Rows.laid_math_bits_deBruijn64tab), ("internal/strconv.uint64pow10", Rows.laid_internal_strconv_uint64pow10), ("unicode/utf8.acceptRanges", Rows.laid_unicode_utf8_acceptRanges), ("unicode/utf8.first", Rows.laid_unicode_utf8_first)]
theorem maxLen_of {W : World} (h : W.ShapedOpen Tryz.prog) : ∃ m : Int, W.cell? ⟨0, 0, none⟩ = some (.int .i64 m) :=
 cell_of_shapedOpen_int (g := 0) (t := 3) (zero := #[.int .i64 0]) h (Nat.le_of_ble_eq_true (by kernel_rfl)) (by kernel_rfl) rfl (by kernel_rfl) (by kernel_rfl) Tryz.underlying3
theorem pow_of {W : World} (h : laidMetH Tryz.prog seatLaid W) : Lib.TabIs Tryz.prog W "internal/strconv.uint64pow10" .u64 Lib.pow10Tab := by
 have h1 := (laidMetH_iff.1 h).1.filter fun x => decide (x.1 = "internal/strconv.uint64pow10")
 have e : ((seatLaid.filter fun x => x.2.handleName?.isNone).filter fun x => decide (x.1 = "internal/strconv.uint64pow10")) = [("internal/strconv.uint64pow10", Lib.tabData .u64 Lib.pow10Tab)] := by kernel_rfl
 rw [e] at h1
 exact Lib.tabIs_of_head (g := 1) (t := 312) (e := 194) (n := 20) (by kernel_rfl) (by kernel_rfl) (by kernel_rfl) (by kernel_rfl) (by kernel_rfl) (by kernel_rfl) h1
theorem gl_of {W : World} (h : laidMetH Tryz.prog seatLaid W) (hs : W.ShapedOpen Tryz.prog) : Gl W := ⟨maxLen_of hs, pow_of h⟩
def leaf1 : DataW Unit → List Value
 | .lit (.int k n) => [.int k n]
 | _ => []
def leafs : DataW Unit → List Value
 | .agg ps => ps.flatMap fun d => match d with
  | .agg qs => qs.flatMap leaf1
  | d => leaf1 d
 | d => leaf1 d
def layAt (g : Nat) (d : DataW Unit) (h : Array Obj) : Array Obj := h.modify g fun
 | .cells _ t frozen => .cells (leafs d).toArray t frozen
 | o => o
noncomputable def laidWorld (os : Os) : World :=
 { World.holding Tryz.prog os ⟨#[], #[], []⟩ with heap := layAt 5 Rows.laid_math_bits_deBruijn64tab (layAt 4 Rows.laid_math_bits_deBruijn32tab (layAt 3 Rows.laid_unicode_utf8_acceptRanges (layAt 2 Rows.laid_unicode_utf8_first (layAt 1 Rows.laid_internal_strconv_uint64pow10 (World.holding Tryz.prog os ⟨#[], #[], []⟩).heap)))) }
def v0A : Value := .agg #[.string ⟨#[]⟩, .string ⟨#[]⟩, .string ⟨#[]⟩, .slice none 0 0, .slice none 0 0, .slice none 0 0, .slice none 0 0]
def d0A {H : Type} : DataW H := .agg [.agg [.lit (.string []), .lit (.string [])], .lit (.string []), .nil, .nil, .nil, .nil]
theorem laid_met (os : Os) (args : Array Value) : laidMet Tryz.prog seatLaid ((laidWorld os).forCall (fun _ _ => 0) ⟨#[], args, []⟩).memory :=
 laidMet_of_run' 8 (by kernel_rfl) (by kernel_rfl)
theorem aggOfZ {v : Value} {l : List Value} {n : Nat} (hv : ∃ cs, v = .agg cs ∧ cs.size = n) (h : v.cells.toList = l) : v = .agg l.toArray := by
 obtain ⟨cs, rfl, _⟩ := hv
 subst h
 simp [Value.cells]
theorem sliceOfZ {v : Value} {A : Option Addr} {n c : Nat} (hv : ∃ a len cap, v = .slice a len cap) (h : v.cells.toList = [.slice A n c]) : v = .slice A n c := by
 obtain ⟨a, len, cap, rfl⟩ := hv
 simpa [Value.cells] using h
end Go.Proofs.YtgcmddaibnimjaaGreatDoor
