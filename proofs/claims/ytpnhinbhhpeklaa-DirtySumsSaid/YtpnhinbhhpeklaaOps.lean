/- The walking engine, second part: one lemma an operation. -/
import Derived.Test.YtpnhinbhhpeklaaEng
namespace Go.Eng
open Go.RowKit

/-- The operation yields v and leaves w'. -/
def Yl (P : Program) (o : Oper) (l : List (Nat × Value)) (w : World) (v : Value) (w' : World) : Prop :=
  ∀ n a, Fr n a l → (execOp a.eval o).run P w = .ok (.value v) w'
/-- The operation yields nothing and leaves w'. -/
def Sk (P : Program) (o : Oper) (l : List (Nat × Value)) (w w' : World) : Prop :=
  ∀ n a, Fr n a l → (execOp a.eval o).run P w = .ok .skip w'
/-- The operation calls g. -/
def Cl (P : Program) (o : Oper) (l : List (Nat × Value)) (w : World) (g : Nat) (vs : List Value) : Prop :=
  ∀ n a, Fr n a l → (execOp a.eval o).run P w = .ok (.enter g vs.toArray) w

section
variable {P : Program} {Q : Exit → Act → World → Prop} {a : Act} {w w' : World} {n : Nat} {l : List (Nat × Value)} {o : Oper} {rest : List Oper} {ops : Array Oper}

theorem wanted_none (hg : o.guard = none) (t : Array Value) : Region.wanted o (yielded ops t) = true := by simp [Region.wanted, hg]

/-! ### a region in order -/
theorem dv (F : Fr n a l) {v : Value} (y : Yl P o l w v w') (hg : o.guard = none) {d : Nat} (hd : o.dst = some d) (hn : Nat.blt d n = true)
    (k : ∀ a, Fr n a ((d, v) :: l) → wpList P ops Q rest a w') : wpList P ops Q (o :: rest) a w := by
  refine wpList_plain hg fun K hK => ?_
  unfold Oper.wp
  rw [y n a F, Oper.upon_value, hd]
  exact hK _ _ (k _ (F.put hn v))
theorem dk (F : Fr n a l) (y : Sk P o l w w') (hg : o.guard = none) (hd : o.dst = none)
    (k : ∀ a, Fr n a l → wpList P ops Q rest a w') : wpList P ops Q (o :: rest) a w := by
  refine wpList_plain hg fun K hK => ?_
  unfold Oper.wp
  rw [y n a F, Oper.upon_skip, hd]
  exact hK _ _ (k _ F)
theorem dc (F : Fr n a l) {g : Nat} {vs : List Value} (y : Cl P o l w g vs) (hg : o.guard = none) {d : Nat} (hd : o.dst = some d) (hn : Nat.blt d n = true)
    {R : Value → World → Prop} (hc : Calls P g vs.toArray w (Ret R))
    (k : ∀ a v w', R v w' → Fr n a ((d, v) :: l) → wpList P ops Q rest a w') : wpList P ops Q (o :: rest) a w := by
  refine wpList_plain hg fun K hK => ?_
  unfold Oper.wp
  rw [y n a F, Oper.upon_enter]
  refine hc.mono fun e w' hr => ?_
  cases e with
  | returned v => rw [hd]; exact hK _ _ (k _ v w' hr (F.put hn v))
  | panicked c => exact hr.elim
  | outgrown => exact hr.elim
/-- a call whose result is thrown away -/
theorem dc0 (F : Fr n a l) {g : Nat} {vs : List Value} (y : Cl P o l w g vs) (hg : o.guard = none) (hd : o.dst = none)
    {R : Value → World → Prop} (hc : Calls P g vs.toArray w (Ret R))
    (k : ∀ a v w', R v w' → Fr n a l → wpList P ops Q rest a w') : wpList P ops Q (o :: rest) a w := by
  refine wpList_plain hg fun K hK => ?_
  unfold Oper.wp
  rw [y n a F, Oper.upon_enter]
  refine hc.mono fun e w' hr => ?_
  cases e with
  | returned v => rw [hd]; exact hK _ _ (k _ v w' hr F)
  | panicked c => exact hr.elim
  | outgrown => exact hr.elim
/-- the region's end -/
theorem dn (h : Q .normal a w) : wpList P ops Q [] a w := h

/-- a guarded operation: its guard says yes: as if it had none -/
def Oper.bare (o : Oper) : Oper := { o with guard := none }
theorem wanted_some (F : Fr n a l) {j dj : Nat} {b want : Bool} (hg : o.guard = some (j, want)) (hj : (ops[j]?).bind (·.dst) = some dj) (hb : look l dj = some (.bool b)) :
    Region.wanted o (yielded ops a.tmps) = (b == want) := by
  have := F.get dj _ hb
  simp [Region.wanted, hg, yielded, hj, this]
theorem gv (F : Fr n a l) {j dj : Nat} {b want : Bool} (hg : o.guard = some (j, want)) (hj : (ops[j]?).bind (·.dst) = some dj) (hb : look l dj = some (.bool b)) (he : b = want)
    {v : Value} (y : Yl P o l w v w') {d : Nat} (hd : o.dst = some d) (hn : Nat.blt d n = true)
    (k : ∀ a, Fr n a ((d, v) :: l) → wpList P ops Q rest a w') : wpList P ops Q (o :: rest) a w := by
  refine wpList_step fun K hK => ?_
  rw [wanted_some F hg hj hb, he]
  simp only [beq_self_eq_true, if_true]
  unfold Oper.wp
  rw [y n a F, Oper.upon_value, hd]
  exact hK _ _ (k _ (F.put hn v))
theorem gc (F : Fr n a l) {j dj : Nat} {b want : Bool} (hg : o.guard = some (j, want)) (hj : (ops[j]?).bind (·.dst) = some dj) (hb : look l dj = some (.bool b)) (he : b = want)
    {g : Nat} {vs : List Value} (y : Cl P o l w g vs) {d : Nat} (hd : o.dst = some d) (hn : Nat.blt d n = true)
    {R : Value → World → Prop} (hc : Calls P g vs.toArray w (Ret R))
    (k : ∀ a v w', R v w' → Fr n a ((d, v) :: l) → wpList P ops Q rest a w') : wpList P ops Q (o :: rest) a w := by
  refine wpList_step fun K hK => ?_
  rw [wanted_some F hg hj hb, he]
  simp only [beq_self_eq_true, if_true]
  unfold Oper.wp
  rw [y n a F, Oper.upon_enter]
  refine hc.mono fun e w' hr => ?_
  cases e with
  | returned v => rw [hd]; exact hK _ _ (k _ v w' hr (F.put hn v))
  | panicked c => exact hr.elim
  | outgrown => exact hr.elim
theorem gs (F : Fr n a l) {j dj : Nat} {b want : Bool} (hg : o.guard = some (j, want)) (hj : (ops[j]?).bind (·.dst) = some dj) (hb : look l dj = some (.bool b)) (he : b = !want)
    {d : Nat} (hd : o.dst = some d) (hn : Nat.blt d n = true)
    (k : ∀ a, Fr n a ((d, undef) :: l) → wpList P ops Q rest a w) : wpList P ops Q (o :: rest) a w := by
  refine wpList_step fun K hK => ?_
  rw [wanted_some F hg hj hb, he]
  rw [if_neg (by cases want <;> simp), hd]
  exact hK _ _ (k _ (F.put hn _))
/-- an operation guarded by a skipped one is skipped -/
theorem wanted_undef (F : Fr n a l) {j dj : Nat} {want : Bool} (hg : o.guard = some (j, want)) (hj : (ops[j]?).bind (·.dst) = some dj) (hb : look l dj = some undef) :
    Region.wanted o (yielded ops a.tmps) = false := by
  have := F.get dj _ hb
  simp [Region.wanted, hg, yielded, hj, this, undef]
theorem gu (F : Fr n a l) {j dj : Nat} {want : Bool} (hg : o.guard = some (j, want)) (hj : (ops[j]?).bind (·.dst) = some dj) (hb : look l dj = some undef)
    {d : Nat} (hd : o.dst = some d) (hn : Nat.blt d n = true)
    (k : ∀ a, Fr n a ((d, undef) :: l) → wpList P ops Q rest a w) : wpList P ops Q (o :: rest) a w := by
  refine wpList_step fun K hK => ?_
  rw [wanted_undef F hg hj hb, hd]
  exact hK _ _ (k _ (F.put hn _))

/-! ### a region in any order, all of whose operations are quiet in a class C of worlds -/
variable {C : World → Prop} {Q' : Act → Prop}
theorem qv (F : Fr n a l) {v : Value} (y : ∀ w, C w → Yl P o l w v w) (hg : o.guard = none) {d : Nat} (hd : o.dst = some d) (hn : Nat.blt d n = true)
    (k : ∀ a, Fr n a ((d, v) :: l) → wpQuiet P ops C Q' rest a) : wpQuiet P ops C Q' (o :: rest) a := by
  refine wpQuiet_step fun K hK => ?_
  rw [wanted_none hg, if_pos rfl]
  refine ⟨v, fun w hw => ?_, by rw [hd]; exact hK _ (k _ (F.put hn v))⟩
  unfold Oper.quietAt
  rw [y w hw n a F]
  exact ⟨rfl, rfl⟩
theorem qc (F : Fr n a l) {g : Nat} {vs : List Value} (v : Value) (y : ∀ w, C w → Cl P o l w g vs) (hg : o.guard = none) {d : Nat} (hd : o.dst = some d) (hn : Nat.blt d n = true)
    (hc : ∀ w, C w → Calls P g vs.toArray w (Ret fun u w' => u = v ∧ C w'))
    (k : ∀ a, Fr n a ((d, v) :: l) → wpQuiet P ops C Q' rest a) : wpQuiet P ops C Q' (o :: rest) a := by
  refine wpQuiet_step fun K hK => ?_
  rw [wanted_none hg, if_pos rfl]
  refine ⟨v, fun w hw => ?_, by rw [hd]; exact hK _ (k _ (F.put hn v))⟩
  unfold Oper.quietAt
  rw [y w hw n a F]
  refine ⟨rfl, (hc w hw).mono fun e w' hr => ?_⟩
  cases e with
  | returned u => exact ⟨by rw [hr.1], hr.2⟩
  | panicked c => exact hr.elim
  | outgrown => exact hr.elim
theorem qgv (F : Fr n a l) {j dj : Nat} {b want : Bool} (hg : o.guard = some (j, want)) (hj : (ops[j]?).bind (·.dst) = some dj) (hb : look l dj = some (.bool b)) (he : b = want)
    {v : Value} (y : ∀ w, C w → Yl P o l w v w) {d : Nat} (hd : o.dst = some d) (hn : Nat.blt d n = true)
    (k : ∀ a, Fr n a ((d, v) :: l) → wpQuiet P ops C Q' rest a) : wpQuiet P ops C Q' (o :: rest) a := by
  refine wpQuiet_step fun K hK => ?_
  rw [wanted_some F hg hj hb, he]
  simp only [beq_self_eq_true, if_true]
  refine ⟨v, fun w hw => ?_, by rw [hd]; exact hK _ (k _ (F.put hn v))⟩
  unfold Oper.quietAt
  rw [y w hw n a F]
  exact ⟨rfl, rfl⟩
theorem qgc (F : Fr n a l) {j dj : Nat} {b want : Bool} (hg : o.guard = some (j, want)) (hj : (ops[j]?).bind (·.dst) = some dj) (hb : look l dj = some (.bool b)) (he : b = want)
    {g : Nat} {vs : List Value} (v : Value) (y : ∀ w, C w → Cl P o l w g vs) {d : Nat} (hd : o.dst = some d) (hn : Nat.blt d n = true)
    (hc : ∀ w, C w → Calls P g vs.toArray w (Ret fun u w' => u = v ∧ C w'))
    (k : ∀ a, Fr n a ((d, v) :: l) → wpQuiet P ops C Q' rest a) : wpQuiet P ops C Q' (o :: rest) a := by
  refine wpQuiet_step fun K hK => ?_
  rw [wanted_some F hg hj hb, he]
  simp only [beq_self_eq_true, if_true]
  refine ⟨v, fun w hw => ?_, by rw [hd]; exact hK _ (k _ (F.put hn v))⟩
  unfold Oper.quietAt
  rw [y w hw n a F]
  refine ⟨rfl, (hc w hw).mono fun e w' hr => ?_⟩
  cases e with
  | returned u => exact ⟨by rw [hr.1], hr.2⟩
  | panicked c => exact hr.elim
  | outgrown => exact hr.elim
theorem qgs (F : Fr n a l) {j dj : Nat} {b want : Bool} (hg : o.guard = some (j, want)) (hj : (ops[j]?).bind (·.dst) = some dj) (hb : look l dj = some (.bool b)) (he : b = !want)
    {d : Nat} (hd : o.dst = some d) (hn : Nat.blt d n = true)
    (k : ∀ a, Fr n a ((d, undef) :: l) → wpQuiet P ops C Q' rest a) : wpQuiet P ops C Q' (o :: rest) a := by
  refine wpQuiet_step fun K hK => ?_
  rw [wanted_some F hg hj hb, he]
  rw [if_neg (by cases want <;> simp), hd]
  exact hK _ (k _ (F.put hn _))
theorem qgu (F : Fr n a l) {j dj : Nat} {want : Bool} (hg : o.guard = some (j, want)) (hj : (ops[j]?).bind (·.dst) = some dj) (hb : look l dj = some undef)
    {d : Nat} (hd : o.dst = some d) (hn : Nat.blt d n = true)
    (k : ∀ a, Fr n a ((d, undef) :: l) → wpQuiet P ops C Q' rest a) : wpQuiet P ops C Q' (o :: rest) a := by
  refine wpQuiet_step fun K hK => ?_
  rw [wanted_undef F hg hj hb, hd]
  exact hK _ (k _ (F.put hn _))
theorem qn (h : Q' a) : wpQuiet P ops C Q' [] a := h

/-- a drawing region that only reads -/
theorem rq {id : Nat} {l' : List Oper} (C : World → Prop) (hm : P.follows .mixedOrders = true) (hB : Region.lexB .any l'.toArray = true) (hC : C (w.drewN 1))
    (h : wpQuiet P l'.toArray C (fun a' => ∀ w', C w' → Q .normal a' w') l' a) : (Code.region id l'.toArray true).wp P Q a w :=
  wp_region_quiet (C := C) hm hB hC (by simpa using h)

/-! ### the operations -/
theorem y_mv {x : Operand} {v : Value} (ho : o.op = .move x) (h : evl l x = some v) : Yl P o l w v w := fun n a F => by
  simp only [execOp, ho]; rw [F.ev h]; rfl
theorem y_as {x : Operand} {v : Value} (ho : o.op = .assign x) (h : evl l x = some v) : Yl P o l w v w := fun n a F => by
  simp only [execOp, ho]; rw [F.ev h]; rfl
theorem y_pk {c x y : Operand} {b : Bool} {u v : Value} (ho : o.op = .pick c x y) (hc : evl l c = some (.bool b)) (hx : evl l x = some u) (hy : evl l y = some v) : Yl P o l w (cond b u v) w := fun n a F => by
  simp only [execOp, ho]; rw [F.ev hc, F.ev hx, F.ev hy]; cases b <;> rfl

/-- a variable's content -/
def Ld (P : Program) (w : World) (t : Nat) (p : Addr) (v : Value) : Prop := (loadVar t p).run P w = .ok v w

theorem y_ld {t : Nat} {x : Operand} {p : Addr} {v : Value} (ho : o.op = .load t x) (hx : evl l x = some (.pointer (some p))) (h : Ld P w t p v) : Yl P o l w v w := fun n a F => by
  unfold Ld at h
  simp [execOp, ho, F.ev hx, Instr.loadAt, Instr.sureAddr, h]

theorem y_nc {x : Operand} {p : Addr} (ho : o.op = .nilCheck x) (hx : evl l x = some (.pointer (some p))) : Yl P o l w (.pointer (some p)) w := fun n a F => by
  simp [execOp, ho, F.ev hx]

theorem y_nf {x : Operand} {g : Nat} {b c : Array Value} (ho : o.op = .nilCheck x) (hx : evl l x = some (.func (.func g) b c)) : Yl P o l w (.func (.func g) b c) w := fun n a F => by
  simp [execOp, ho, F.ev hx]

/-- the place of a field -/
structure FieldIs (P : Program) (s i off : Nat) : Prop where
  run : ∀ (b o : Nat) (w : World), (do
    let .struct fields ← underlying s | stuck "fieldAddr: struct type expected"
    let some f := fields[i]? | stuck "fieldAddr: no such field"
    fieldPlace ⟨b, o, none⟩ f : Sem Addr).run P w = .ok ⟨b, o + off, none⟩ w

theorem fieldIs {s i off ft z : Nat} {fs : Array Field} {f : Field} (hu : P.underlying s = some (.struct fs)) (hf : fs[i]? = some f) (ho : f.offset = off) (ht : f.type = ft)
    (hz : ∀ w, (Go.sizeOf ft).run P w = .ok (z + 1) w) : FieldIs P s i off := ⟨fun b o w => by
  subst ho ht
  have e : (⟨b, o, none⟩ : Addr).add f.offset = ⟨b, o + f.offset, none⟩ := by
    unfold Addr.add
    by_cases h0 : f.offset = 0 <;> simp [h0]
  simp [underlying, hu, hf, fieldPlace, hz, e, program, Sem.run]⟩

theorem y_fa {s i off : Nat} {x : Operand} {b o' : Nat} (ho : o.op = .fieldAddr s x i) (hx : evl l x = some (.pointer (some ⟨b, o', none⟩))) (h : FieldIs P s i off) : Yl P o l w (.pointer (some ⟨b, o' + off, none⟩)) w := fun n a F => by
  have := h.run b o' w
  simp [execOp, ho, F.ev hx, Instr.fieldAt, Instr.sureAddr, underlying, program, Sem.run] at this ⊢
  cases hu : P.underlying s with
  | none => simp [hu] at this
  | some d =>
    cases d <;> simp [hu] at this ⊢
    rename_i fields
    cases hf : fields[i]? with
    | none => simp [hf] at this
    | some f => simp [hf] at this ⊢; simp [this]

theorem y_ia {t e z : Nat} {x ix : Operand} {A : Option Addr} {b o' m c : Nat} {k : IntKind} {i : Int} (ho : o.op = .indexAddr t x ix) (hx : evl l x = some (.slice A m c)) (hA : A = some ⟨b, o', none⟩) (hi : evl l ix = some (.int k i))
    (hu : P.underlying t = some (.slice e)) (hz : ∀ w, (Go.sizeOf e).run P w = .ok z w) (j : Nat) (hj : i = (j : Int)) (hm : j < m) : Yl P o l w (.pointer (some ⟨b, o' + j * z, none⟩)) w := fun n a F => by
  subst hj hA
  have e1 : (⟨b, o', none⟩ : Addr).add (j * z) = ⟨b, o' + j * z, none⟩ := by
    unfold Addr.add
    by_cases h0 : j * z = 0 <;> simp [h0]
  simp [execOp, ho, F.ev hx, F.ev hi, Instr.indexAt, Instr.sureAddr, asIntOf, underlying, hu, hz, program, Sem.run, hm, e1]

theorem y_ln {t e : Nat} {x : Operand} {A : Option Addr} {m c : Nat} (ho : o.op = .call { callee := .builtin .len, args := #[x], argTypes := #[t] }) (hx : evl l x = some (.slice A m c)) (hu : P.underlying t = some (.slice e)) :
    Yl P o l w (.int .i64 (m : Int)) w := fun n a F => by
  simp [execOp, ho, F.ev hx, resolve, invoke, builtin, Builtin.len_, underlying, hu, program, Sem.run, goInt]
theorem y_ls {t : Nat} {x : Operand} {s : ByteArray} (ho : o.op = .call { callee := .builtin .len, args := #[x], argTypes := #[t] }) (hx : evl l x = some (.string s)) (hu : P.underlying t = some .string) :
    Yl P o l w (.int .i64 (s.size : Int)) w := fun n a F => by
  simp [execOp, ho, F.ev hx, resolve, invoke, builtin, Builtin.len_, underlying, hu, program, Sem.run, goInt]

theorem y_nt {x : Operand} {t : Nat} {b : Bool} (ho : o.op = .unOp .not t x) (hx : evl l x = some (.bool b)) : Yl P o l w (.bool !b) w := fun n a F => by
  simp [execOp, ho, F.ev hx, Op.unary]
theorem y_ex {x : Operand} {i : Nat} {vs : List Value} {v : Value} (ho : o.op = .extract x i) (hx : evl l x = some (.tuple vs.toArray)) (hv : nth vs i = some v) : Yl P o l w v w := fun n a F => by
  rw [nth_eq] at hv
  simp [execOp, ho, F.ev hx, Instr.extract, hv]
theorem y_mf {fn : Fn} {cap : List Operand} {vs : List Value} (ho : o.op = .makeFunc fn #[] cap.toArray) (hx : evls l cap = some vs) : Yl P o l w (.func fn #[] vs.toArray) w := fun n a F => by
  simp [execOp, ho, Instr.makeFunc, F.evs hx]

/-! integers -/
section
variable {t s : Nat} {x y : Operand} {k : IntKind} {i j : Int}
theorem y_add (ho : o.op = .binOp .add t x y s) (hx : evl l x = some (.int .i64 i)) (hy : evl l y = some (.int .i64 j)) (h : -9223372036854775808 ≤ i + j ∧ i + j ≤ 9223372036854775807) : Yl P o l w (.int .i64 (i + j)) w := fun n a F => by
  simp [execOp, ho, F.ev hx, F.ev hy, eqGuard, binOp, Op.intArith]
  exact IntWalk.i64_in _ (by omega)
theorem y_sub (ho : o.op = .binOp .sub t x y s) (hx : evl l x = some (.int .i64 i)) (hy : evl l y = some (.int .i64 j)) (h : -9223372036854775808 ≤ i - j ∧ i - j ≤ 9223372036854775807) : Yl P o l w (.int .i64 (i - j)) w := fun n a F => by
  simp [execOp, ho, F.ev hx, F.ev hy, eqGuard, binOp, Op.intArith]
  exact IntWalk.i64_in _ (by omega)
theorem y_lt (ho : o.op = .binOp .lss t x y s) (hx : evl l x = some (.int k i)) (hy : evl l y = some (.int k j)) : Yl P o l w (.bool (decide (i < j))) w := fun n a F => by
  simp [execOp, ho, F.ev hx, F.ev hy, eqGuard, binOp, Op.intCmp]
theorem y_le (ho : o.op = .binOp .leq t x y s) (hx : evl l x = some (.int k i)) (hy : evl l y = some (.int k j)) : Yl P o l w (.bool (decide (i ≤ j))) w := fun n a F => by
  simp [execOp, ho, F.ev hx, F.ev hy, eqGuard, binOp, Op.intCmp]
theorem y_gt (ho : o.op = .binOp .gtr t x y s) (hx : evl l x = some (.int k i)) (hy : evl l y = some (.int k j)) : Yl P o l w (.bool (decide (j < i))) w := fun n a F => by
  simp [execOp, ho, F.ev hx, F.ev hy, eqGuard, binOp, Op.intCmp]
theorem y_ge (ho : o.op = .binOp .geq t x y s) (hx : evl l x = some (.int k i)) (hy : evl l y = some (.int k j)) : Yl P o l w (.bool (decide (j ≤ i))) w := fun n a F => by
  simp [execOp, ho, F.ev hx, F.ev hy, eqGuard, binOp, Op.intCmp]
theorem y_ie (ho : o.op = .binOp .eql t x y s) (hx : evl l x = some (.int k i)) (hy : evl l y = some (.int k j)) : Yl P o l w (.bool (decide (i = j))) w := fun n a F => by
  simp [execOp, ho, F.ev hx, F.ev hy, eqGuard, binOp, Op.intCmp]
  rfl
theorem y_in (ho : o.op = .binOp .neq t x y s) (hx : evl l x = some (.int k i)) (hy : evl l y = some (.int k j)) : Yl P o l w (.bool (!decide (i = j))) w := fun n a F => by
  simp [execOp, ho, F.ev hx, F.ev hy, eqGuard, binOp, Op.intCmp]
  rfl
end

/-! strings -/
section
variable {t s : Nat} {x y : Operand} {p q : ByteArray}
theorem toList_eq (p q : ByteArray) : (p.toList == q.toList) = decide (p = q) := by
  have h : p.toList = q.toList ↔ p = q := by
    constructor
    · intro h
      rw [ByteArray.toList_eq, ByteArray.toList_eq] at h
      cases p; cases q
      simpa using h
    · rintro rfl; rfl
  by_cases e : p = q
  · simp [e]
  · simp [e, h]
theorem y_se (ho : o.op = .binOp .eql t x y s) (hx : evl l x = some (.string p)) (hy : evl l y = some (.string q)) : Yl P o l w (.bool (decide (p = q))) w := fun n a F => by
  simp only [execOp, ho, F.ev hx, F.ev hy]
  simp [eqGuard, binOp, Op.stringOp, toList_eq]
theorem y_sn (ho : o.op = .binOp .neq t x y s) (hx : evl l x = some (.string p)) (hy : evl l y = some (.string q)) : Yl P o l w (.bool (!decide (p = q))) w := fun n a F => by
  simp only [execOp, ho, F.ev hx, F.ev hy]
  simp [eqGuard, binOp, Op.stringOp, toList_eq]
end

/-- min of two -/
theorem y_mn {x y : Operand} {ts : Array Nat} {k : IntKind} {i j : Int} (ho : o.op = .call { callee := .builtin .min, args := #[x, y], argTypes := ts }) (hx : evl l x = some (.int k i)) (hy : evl l y = some (.int k j)) : Yl P o l w (.int k (min i j)) w := fun n a F => by
  have e : (if j < i then j else i) = min i j := by omega
  simp [execOp, ho, F.ev hx, F.ev hy, resolve, invoke, builtin, Builtin.min_, Builtin.min2, e]
theorem y_pkt {c x y : Operand} {b : Bool} {u : Value} (hb : b = true) (ho : o.op = .pick c x y) (hc : evl l c = some (.bool b)) (hx : evl l x = some u) : Yl P o l w u w := fun n a F => by
  subst hb
  simp only [execOp, ho]; rw [F.ev hc, F.ev hx]; rfl
theorem y_pkf {c x y : Operand} {b : Bool} {u : Value} (hb : b = false) (ho : o.op = .pick c x y) (hc : evl l c = some (.bool b)) (hy : evl l y = some u) : Yl P o l w u w := fun n a F => by
  subst hb
  simp only [execOp, ho]; rw [F.ev hc, F.ev hy]; rfl
/-- 'xs[:m]' -/
theorem y_slh {t e z : Nat} {x hi : Operand} {A : Option Addr} {n' c m : Nat} {k : IntKind} {i : Int} (ho : o.op = .slice t x none (some hi) none) (hx : evl l x = some (.slice A n' c)) (hh : evl l hi = some (.int k i)) (hu : P.underlying t = some (.slice e)) (hz : ∀ w, (Go.sizeOf e).run P w = .ok z w)
    (hm : i = (m : Int)) (hc : m ≤ c) : Yl P o l w (.slice A m c) w := fun n a F => by
  subst hm
  have e1 : (if c = 0 then A else A.map (fun x => x.add 0)) = A := by
    have : ∀ q : Addr, q.add 0 = q := fun q => by simp [Addr.add]
    by_cases h0 : c = 0 <;> cases A <;> simp [h0, this]
  have e2 : (0 : Int) ≤ (m : Int) ∧ (m : Int) ≤ (c : Int) := by omega
  simp [execOp, ho, F.ev hx, F.ev hh, Instr.sliceAt, Instr.slice, Instr.sliceBounds, Instr.sliceBound, asIntOf, underlying, hu, hz, program, Sem.run, hc]
  simpa using e1

/-! calls -/
theorem c_f {f : Operand} {args : List Operand} {ats : Array Nat} {g : Nat} {cap : List Value} {vs : List Value} (ho : o.op = .call { callee := .value f, args := args.toArray, argTypes := ats })
    (hf : evl l f = some (.func (.func g) #[] cap.toArray)) (hx : evls l args = some vs) (he : ∀ (args : Array Value) (w : World), (callFunc g args).run P w = .ok (.enter g args) w) : Cl P o l w g (vs ++ cap) := fun n a F => by
  simp [execOp, ho, resolve, F.ev hf, Deferred.ofValue, invoke, F.evs hx, he]
end
end Go.Eng
