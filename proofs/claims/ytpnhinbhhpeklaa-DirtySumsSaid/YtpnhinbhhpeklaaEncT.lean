/- The data of layer 27 as cells, at the seat's numbers. -/
import Derived.Test.YtpnhinbhhpeklaaEqA
import Derived.Test.YtpnhinbhhpeklaaDirtyPlain
import Derived.Test.YtpnhinbhhpeklaaProg
set_option linter.unusedVariables false
set_option linter.unusedSimpArgs false
namespace Go.Proofs.Ytpnhinbhhpeklaa
open Go.RowKit Go.Eng DirtyPlain

theorem Try.mixed : Try.prog.follows .mixedOrders = true := by kernel_rfl

def encD (d : Dig) : List Value := d.1.map (Value.int .u8)
def encRd (r : Rd) : List Value := .string r.path :: .bool r.is :: encD r.sum
def encMd (r : Md) : List Value := .string r.path :: encD r.sum
theorem len32 (d : Dig) : (encD d).length = 32 := by simp [encD, d.2]
theorem len37 (r : Rd) : (encRd r).length = 34 := by simp [encRd, len32]
theorem len58 (r : Md) : (encMd r).length = 33 := by simp [encMd, len32]
theorem one32 (d : Dig) : ∀ u ∈ encD d, u.oneCell' = true := fun u hu => by
  simp [encD] at hu; obtain ⟨x, _, rfl⟩ := hu; rfl
theorem one37 (d : Rd) : ∀ u ∈ encRd d, u.oneCell' = true := fun u hu => by
  simp only [encRd, List.mem_cons] at hu
  rcases hu with rfl | rfl | hu
  · rfl
  · rfl
  · exact one32 _ u hu
theorem one58 (d : Md) : ∀ u ∈ encMd d, u.oneCell' = true := fun u hu => by
  simp only [encMd, List.mem_cons] at hu
  rcases hu with rfl | hu
  · rfl
  · exact one32 _ u hu

/-- A trace as it lies in memory: where its reads and outs are. -/
structure TrV where
  t : Tr
  RA : Option Addr
  Rc : Nat
  OA : Option Addr
  Oc : Nat
def encTr (x : TrV) : List Value := encD x.t.key ++ [.slice x.RA x.t.reads.length x.Rc, .slice x.OA x.t.outs.length x.Oc]
theorem len35 (x : TrV) : (encTr x).length = 34 := by simp [encTr, len32]
theorem tr32 (x : TrV) : (encTr x)[32]? = some (.slice x.RA x.t.reads.length x.Rc) := by
  rw [encTr, List.getElem?_append_right (by rw [len32]; omega), len32]; rfl
theorem tr33 (x : TrV) : (encTr x)[33]? = some (.slice x.OA x.t.outs.length x.Oc) := by
  rw [encTr, List.getElem?_append_right (by rw [len32]; omega), len32]; rfl
theorem ntr32 (x : TrV) : nth (encTr x) 32 = some (.slice x.RA x.t.reads.length x.Rc) := by rw [nth_eq, tr32]
theorem ntr33 (x : TrV) : nth (encTr x) 33 = some (.slice x.OA x.t.outs.length x.Oc) := by rw [nth_eq, tr33]
theorem one35 (x : TrV) : ∀ u ∈ encTr x, u.oneCell' = true := fun u hu => by
  simp only [encTr, List.mem_append, List.mem_cons, List.not_mem_nil, or_false] at hu
  rcases hu with hu | rfl | rfl
  · exact one32 _ u hu
  · rfl
  · rfl

/-- what a trace leads to -/
structure TrOk (w : World) (x : TrV) : Prop where
  rd : Sl w 34 encRd x.RA x.t.reads
  md : Sl w 33 encMd x.OA x.t.outs
  rc : x.t.reads.length ≤ x.Rc
  lr : x.t.reads.length ≤ 140737488351232
  lo : x.t.outs.length ≤ 140737488351232
theorem TrOk.below {w w' : World} {x : TrV} (h : TrOk w x) (hb : Below w.heap.size w w') : TrOk w' x := ⟨h.rd.below hb, h.md.below hb, h.rc, h.lr, h.lo⟩
theorem TrOk.st {w0 w : World} {hs : List Res} {x : TrV} (h : TrOk w0 x) (S : St w0 w hs) : TrOk w x := h.below S.bel
/-- a slice of traces -/
structure Trs (w : World) (A : Option Addr) (l : List TrV) : Prop where
  sl : Sl w 34 encTr A l
  ok : ∀ x ∈ l, TrOk w x
theorem Trs.below {w w' : World} {A : Option Addr} {l : List TrV} (h : Trs w A l) (hb : Below w.heap.size w w') : Trs w' A l := ⟨h.sl.below hb, fun x hx => (h.ok x hx).below hb⟩
theorem Trs.st {w0 w : World} {hs : List Res} {A : Option Addr} {l : List TrV} (h : Trs w0 A l) (S : St w0 w hs) : Trs w A l := h.below S.bel

/-! '==' -/
theorem info5s : (Try.prog.info? 5).isSome = true := by kernel_rfl
theorem info5 : ∃ i, Try.prog.info? 5 = some i := Option.isSome_iff_exists.1 info5s
theorem cellsOf5 : Try.prog.cellsOf 5 = 1 := by kernel_rfl
theorem eqD (x y : Dig) (d : Nat) (w : World) : (Op.equalIn (d + 2) 32 (.agg (encD x).toArray) (.agg (encD y).toArray)).run Try.prog w = .ok (decide (x = y)) w := by
  obtain ⟨i, hi⟩ := info5
  have := eqArr (P := Try.prog) Try.underlying32 hi cellsOf5 Try.isAgg5 Try.underlying5 x.1 y.1 x.2 y.2 d w
  rw [show encD x = x.1.map (Value.int .u8) from rfl, show encD y = y.1.map (Value.int .u8) from rfl, this]
  exact congrArg (fun b => Result.ok b w) (decide_eq_decide.2 ⟨Subtype.ext, fun h => congrArg _ h⟩)
theorem eqRd (x y : Rd) (d : Nat) (w : World) : (Op.equalIn (d + 3) 37 (.agg (encRd x).toArray) (.agg (encRd y).toArray)).run Try.prog w = .ok (decide (x = y)) w := by
  have hS : Try.prog.underlying 37 = some (.struct (Try.prog.fieldsOf 37)) := by kernel_rfl
  have hp : Try.prog.stoodInHeld 37 = false := by kernel_rfl
  rw [show d + 3 = (d + 2) + 1 from rfl, run_equalIn_agg w (d + 2) 37 _ _ hS hp]
  simp only [Program.fieldsOf, Try.underlying37, Op.eqFields]
  simp only [ne_eq, String.reduceEq, not_false_eq_true, if_true, Sem.run_bind]
  rw [run_part1 Try.isAgg9 (v := .string x.path) rfl, Result.andThen_ok, run_part1 Try.isAgg9 (v := .string y.path) rfl, Result.andThen_ok, run_equalIn_string w _ 9 _ _ Try.underlying9, Result.andThen_ok, toList_eq]
  have e : (x = y) ↔ (x.path = y.path ∧ x.is = y.is ∧ x.sum = y.sum) := by cases x; cases y; simp
  by_cases h1 : x.path = y.path
  · simp only [h1, decide_true, Bool.not_true, Bool.false_eq_true, if_false, Sem.run_bind]
    rw [run_part1 Try.isAgg4 (v := .bool x.is) rfl, Result.andThen_ok, run_part1 Try.isAgg4 (v := .bool y.is) rfl, Result.andThen_ok, run_equalIn_bool w _ 4 _ _ Try.underlying4, Result.andThen_ok]
    by_cases h2 : x.is = y.is
    · simp only [h2, beq_self_eq_true, Bool.not_true, Bool.false_eq_true, if_false, Sem.run_bind]
      rw [run_parta Try.isAgg32 Try.sizeOf32 (vs := encD x.sum) (by simp [encRd, List.take_of_length_le, len32]), Result.andThen_ok, run_parta Try.isAgg32 Try.sizeOf32 (vs := encD y.sum) (by simp [encRd, List.take_of_length_le, len32]), Result.andThen_ok, eqD x.sum y.sum d, Result.andThen_ok]
      by_cases h3 : x.sum = y.sum
      · simp [e, h1, h2, h3]
      · simp [e, h3]
    · have : (x.is == y.is) = false := by simp [h2]
      simp [this, e, h2]
  · simp [h1, e]
section
variable {Q : Exit → Act → World → Prop} {w : World} {n : Nat} {l : List (Nat × Value)} {o : Oper}
theorem y_ne37 {s : Nat} {x y : Operand} {p q : Rd} (ho : o.op = .binOp .neq 37 x y s) (hx : evl l x = some (.agg (encRd p).toArray)) (hy : evl l y = some (.agg (encRd q).toArray)) : Yl Try.prog o l w (.bool (!decide (p = q))) w := fun n a F => by
  simp only [execOp, ho, F.ev hx, F.ev hy, Sem.run_bind, Sem.run_pure]
  rw [run_eqGuard_agg w _ _ _ _ _ _ Try.eqGuardType37, Result.andThen_ok, run_neq_struct, eqRd p q 9997]
  rfl
theorem y_eq32 {s : Nat} {x y : Operand} {p q : Dig} (ho : o.op = .binOp .eql 32 x y s) (hx : evl l x = some (.agg (encD p).toArray)) (hy : evl l y = some (.agg (encD q).toArray)) : Yl Try.prog o l w (.bool (decide (p = q))) w := fun n a F => by
  simp only [execOp, ho, F.ev hx, F.ev hy, Sem.run_bind, Sem.run_pure]
  rw [run_eqGuard_agg w _ _ _ _ _ _ Try.eqGuardType32, Result.andThen_ok, run_eql_struct, eqD p q 9998]
  rfl
end
end Go.Proofs.Ytpnhinbhhpeklaa
