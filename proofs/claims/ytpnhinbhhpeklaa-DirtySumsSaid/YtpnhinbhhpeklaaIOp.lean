/- Operations on integers of any kind, on arrays, conversions of bytes: one lemma each. -/
import Derived.Test.YtpnhinbhhpeklaaApp
import Derived.Laws.IdiomStrings
import Derived.Laws.BytesString
set_option linter.unusedVariables false
set_option linter.unusedSimpArgs false
namespace Go.Eng
open Go.RowKit

def andI (k : IntKind) (x y : Int) : Int := k.wrap ((BitVec.ofInt k.bits x &&& BitVec.ofInt k.bits y).toNat : Int)
def orI (k : IntKind) (x y : Int) : Int := k.wrap ((BitVec.ofInt k.bits x ||| BitVec.ofInt k.bits y).toNat : Int)
def xorI (k : IntKind) (x y : Int) : Int := k.wrap ((BitVec.ofInt k.bits x ^^^ BitVec.ofInt k.bits y).toNat : Int)
def shlI (k : IntKind) (x : Int) (n : Nat) : Int := k.wrap (x * 2 ^ (min n k.bits))
def shrI (k : IntKind) (x : Int) (n : Nat) : Int := x.fdiv (2 ^ (min n k.bits))

section
variable {P : Program} {w : World} {l : List (Nat × Value)} {o : Oper} {t s : Nat} {x y : Operand} {k : IntKind} {i j : Int}
theorem y_wa (ho : o.op = .binOp .add t x y s) (hx : evl l x = some (.int k i)) (hy : evl l y = some (.int k j)) : Yl P o l w (.int k (k.wrap (i + j))) w := fun n a F => by
  simp [execOp, ho, F.ev hx, F.ev hy, eqGuard, binOp, Op.intArith]
theorem y_ws (ho : o.op = .binOp .sub t x y s) (hx : evl l x = some (.int k i)) (hy : evl l y = some (.int k j)) : Yl P o l w (.int k (k.wrap (i - j))) w := fun n a F => by
  simp [execOp, ho, F.ev hx, F.ev hy, eqGuard, binOp, Op.intArith]
theorem y_wm (ho : o.op = .binOp .mul t x y s) (hx : evl l x = some (.int k i)) (hy : evl l y = some (.int k j)) : Yl P o l w (.int k (k.wrap (i * j))) w := fun n a F => by
  simp [execOp, ho, F.ev hx, F.ev hy, eqGuard, binOp, Op.intArith]
theorem y_mul (ho : o.op = .binOp .mul t x y s) (hx : evl l x = some (.int .i64 i)) (hy : evl l y = some (.int .i64 j)) (h : -9223372036854775808 ≤ i * j ∧ i * j ≤ 9223372036854775807) : Yl P o l w (.int .i64 (i * j)) w := fun n a F => by
  simp [execOp, ho, F.ev hx, F.ev hy, eqGuard, binOp, Op.intArith]
  exact IntWalk.i64_in _ (by omega)
theorem y_quo (ho : o.op = .binOp .quo t x y s) (hx : evl l x = some (.int .i64 i)) (hy : evl l y = some (.int .i64 j)) (h : 0 ≤ i ∧ i ≤ 9223372036854775807 ∧ 1 ≤ j) : Yl P o l w (.int .i64 (i / j)) w := fun n a F => by
  have hj : ¬ j = 0 := by omega
  simp [execOp, ho, F.ev hx, F.ev hy, eqGuard, binOp, Op.intDiv, hj]
  exact IntWalk.i64_quo _ _ h
theorem y_rem (ho : o.op = .binOp .rem t x y s) (hx : evl l x = some (.int .i64 i)) (hy : evl l y = some (.int .i64 j)) (h : 0 ≤ i ∧ 1 ≤ j) : Yl P o l w (.int .i64 (i % j)) w := fun n a F => by
  have hj : ¬ j = 0 := by omega
  simp [execOp, ho, F.ev hx, F.ev hy, eqGuard, binOp, Op.intDiv, hj]
  exact Int.tmod_eq_emod_of_nonneg h.1
theorem y_and (ho : o.op = .binOp .and t x y s) (hx : evl l x = some (.int k i)) (hy : evl l y = some (.int k j)) : Yl P o l w (.int k (andI k i j)) w := fun n a F => by
  simp [execOp, ho, F.ev hx, F.ev hy, eqGuard, binOp, Op.intBits, andI]
theorem y_or (ho : o.op = .binOp .or t x y s) (hx : evl l x = some (.int k i)) (hy : evl l y = some (.int k j)) : Yl P o l w (.int k (orI k i j)) w := fun n a F => by
  simp [execOp, ho, F.ev hx, F.ev hy, eqGuard, binOp, Op.intBits, orI]
theorem y_xor (ho : o.op = .binOp .xor t x y s) (hx : evl l x = some (.int k i)) (hy : evl l y = some (.int k j)) : Yl P o l w (.int k (xorI k i j)) w := fun n a F => by
  simp [execOp, ho, F.ev hx, F.ev hy, eqGuard, binOp, Op.intBits, xorI]
theorem y_com (ho : o.op = .unOp .xor t x) (hx : evl l x = some (.int .u32 i)) : Yl P o l w (.int .u32 (xorI .u32 4294967295 i)) w := fun n a F => by
  simp [execOp, ho, F.ev hx, Op.unary, Op.intBits, xorI, IntKind.signed, IntKind.max, IntKind.bits]
theorem y_shl {k2 : IntKind} {m : Nat} (ho : o.op = .binOp .shl t x y s) (hx : evl l x = some (.int k i)) (hy : evl l y = some (.int k2 j)) (hj : j = (m : Int)) : Yl P o l w (.int k (shlI k i m)) w := fun n a F => by
  subst hj
  have h0 : ¬ ((m : Int) < 0) := by omega
  simp [execOp, ho, F.ev hx, F.ev hy, eqGuard, binOp, Op.shift, shlI, h0]
theorem y_shr {k2 : IntKind} {m : Nat} (ho : o.op = .binOp .shr t x y s) (hx : evl l x = some (.int k i)) (hy : evl l y = some (.int k2 j)) (hj : j = (m : Int)) : Yl P o l w (.int k (shrI k i m)) w := fun n a F => by
  subst hj
  have h0 : ¬ ((m : Int) < 0) := by omega
  simp [execOp, ho, F.ev hx, F.ev hy, eqGuard, binOp, Op.shift, shrI, h0]
theorem y_cvt {sr ds : Nat} {k' : IntKind} (ho : o.op = .convert sr ds x) (hx : evl l x = some (.int k i)) (hs : ∃ d, P.underlying sr = some d) (hd : P.underlying ds = some (.int k')) : Yl P o l w (.int k' (k'.wrap i)) w := fun n a F => by
  obtain ⟨d, hs⟩ := hs
  simp [execOp, ho, F.ev hx, convert, run_underlying hs, run_underlying hd, Conv.intToInt]
/-- a pointer to an array: its j-th element's place -/
theorem y_ip {e z m : Nat} {ix : Operand} {b off : Nat} (ho : o.op = .indexAddr t x ix) (hx : evl l x = some (.pointer (some ⟨b, off, none⟩))) (hi : evl l ix = some (.int k i))
    (hu : P.underlying t = some (.array m e)) (hz : ∀ w, (Go.sizeOf e).run P w = .ok z w) (j : Nat) (hj : i = (j : Int)) (hm : j < m) : Yl P o l w (.pointer (some ⟨b, off + j * z, none⟩)) w := fun n a F => by
  subst hj
  have e1 := add_mk b off (j * z)
  simp [execOp, ho, F.ev hx, F.ev hi, Instr.indexAt, Instr.sureAddr, asIntOf, underlying, hu, hz, program, Sem.run, hm, e1]
/-- an array value: its j-th element, one cell -/
theorem y_ix {e m : Nat} {ix : Operand} {cs : List Value} {v : Value} (ho : o.op = .index t x ix) (hx : evl l x = some (.agg cs.toArray)) (hi : evl l ix = some (.int k i))
    (hu : P.underlying t = some (.array m e)) (hz : ∀ w, (Go.sizeOf e).run P w = .ok 1 w) (hA : ∀ w, (isAgg e).run P w = .ok false w) (j : Nat) (hj : i = (j : Int)) (hm : j < m) (hv : cs[j]? = some v) : Yl P o l w v w := fun n a F => by
  subst hj
  simp [execOp, ho, F.ev hx, F.ev hi, Instr.index, asIntOf, underlying, hu, hz, program, Sem.run, hm, part, hA, hv]
/-- a pointer that is some, against nil -/
theorem y_pn {b off : Nat} (ho : o.op = .binOp .eql t x y s) (hx : evl l x = some (.pointer (some ⟨b, off, none⟩))) (hy : evl l y = some (.pointer none)) (ht : P.underlying t = some (.pointer (P.pointee t))) : Yl P o l w (.bool false) w := fun n a F => by
  have := run_eql_pointer_nil w t (some ⟨b, off, none⟩) ht
  simp [execOp, ho, F.ev hx, F.ev hy, eqGuard, this]
end

/-! bytes -/
def bI (s : ByteArray) : List Int := s.data.toList.map fun b => (b.toNat : Int)
def encU8 (n : Int) : List Value := [.int .u8 n]
theorem lenU8 (n : Int) : (encU8 n).length = 1 := rfl
theorem one_U8 (n : Int) : ∀ u ∈ encU8 n, u.oneCell' = true := one1
theorem flatU8 (xs : List Int) : xs.flatMap encU8 = xs.map (Value.int .u8) := by
  induction xs with
  | nil => rfl
  | cons x xs ih => rw [List.flatMap_cons, ih]; rfl
theorem bI_len (s : ByteArray) : (bI s).length = s.size := by simp [bI]
theorem bI_byte (s : ByteArray) : byteCells s = (bI s).flatMap encU8 := by
  rw [flatU8, bI, byteCells, List.map_map]; rfl
theorem bI_range (s : ByteArray) : ∀ b ∈ bI s, 0 ≤ b ∧ b < 256 := fun b hb => by
  obtain ⟨u, _, rfl⟩ := List.mem_map.1 hb
  have := u.toNat_lt
  omega

section
variable {P : Program} {Q : Exit → Act → World → Prop} {w w0 : World} {n0 : Nat} {l : List (Nat × Value)} {o : Oper} {rest : List Oper} {ops : Array Oper} {a : Act} {hs : List Res}
theorem St.addOw {w' : World} (S : St w0 w hs) (hb : Below w.heap.size w w') {e z : Nat} {v : Value} {n : Nat} {xs : List Value} {A : Option Addr} {c : Nat} (hv : v = .slice A n c) (ho : OwOk w' e z A c n xs) (hn : ∀ k, v.ownBlock = some k → w.heap.size ≤ k) : St w0 w' (hs ++ [ow e z v n xs]) :=
  S.callAdd hb _ ⟨A, c, hv, ho⟩ fun k hk => by
    refine ⟨hn k hk, ?_⟩
    subst hv
    rcases ho.2.2.2 with ⟨rfl, _⟩ | ⟨g, off, cur, fr, rfl, hg, _⟩
    · cases hk
    · have hk' : some g = some k := hk
      injection hk' with hk'
      rw [← hk']
      exact (Array.getElem?_eq_some_iff.1 hg).1
/-- []byte(s) -/
theorem dcb (F : Fr n0 a l) (S : St w0 w hs) {sr ds e : Nat} {x : Operand} {s : ByteArray} (ho : o.op = .convert sr ds x) (hx : evl l x = some (.string s)) (hs1 : P.underlying sr = some .string) (hd1 : P.underlying ds = some (.slice e)) (he : P.underlying e = some (.int .u8)) (h63 : s.size ≤ 9223372036854775807)
    (hg : o.guard = none) {d : Nat} (hd : o.dst = some d) (hn : Nat.blt d n0 = true)
    (k : ∀ a w' A' c', Fr n0 a ((d, .slice A' (bI s).length c') :: l) → St w0 w' (hs ++ [ow e 1 (.slice A' (bI s).length c') (bI s).length ((bI s).flatMap encU8)]) → wpList P ops Q rest a w') : wpList P ops Q (o :: rest) a w := by
  have hr := run_bytes_of_string (P := P) w sr ds e s hs1 hd1 he
  have hge := grownCap_ge w s.size 0 e
  have hcm := grownCap_le_maxLen w s.size 0 e (by simpa [maxLen] using h63)
  have hsz : (bytesRow s (grownCap w s.size 0 e)).size = grownCap w s.size 0 e := by
    simp only [bytesRow, Array.size_append, Array.size_map, Array.size_replicate]
    have : s.data.size = s.size := rfl
    omega
  rw [hsz] at hr
  refine dv F (fun n a F => ?_) hg hd hn fun a F => k a _ (some ⟨w.heap.size, 0, none⟩) (grownCap w s.size 0 e) (by rw [bI_len]; exact F) (S.addOw (w' := w.drew.alloc (.cells (bytesRow s (grownCap w s.size 0 e)) e (grownCap w s.size 0 e, grownCap w s.size 0 e + 1))) ?_ rfl ?_ ?_)
  · simp [execOp, ho, F.ev hx, hr]
  · exact (Below.refl w.heap.size w).drew.alloc (Nat.le_refl _) _
  · rw [bI_len]
    refine ⟨by rw [flat_len lenU8, bI_len, Nat.mul_one], hge, hcm, .inr ⟨w.heap.size, 0, _, (grownCap w s.size 0 e, grownCap w s.size 0 e + 1), rfl, ?_, .inr (Nat.le_of_eq hsz), by rw [hsz]; omega, fun j u hj => ?_⟩⟩
    · show (w.heap.push _)[w.heap.size]? = _
      simp
    · rw [Nat.zero_add, bytesRow]
      have hjl := (List.getElem?_eq_some_iff.1 hj).1
      rw [flat_len lenU8, bI_len, Nat.mul_one] at hjl
      rw [Array.getElem?_append_left (by simpa using hjl)]
      rw [flatU8, bI, List.map_map] at hj
      simpa using hj
  · intro k hk
    have hk' : some w.heap.size = some k := hk
    injection hk' with hk'
    omega
end
end Go.Eng
