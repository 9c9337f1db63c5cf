/- The walking engine, third part: what lays and writes memory. -/
import Derived.Test.YtpnhinbhhpeklaaOps
set_option linter.unusedVariables false
set_option linter.unusedSimpArgs false
namespace Go.Eng
open Go.RowKit

def cellsOf : Value → List Value
  | .agg cs => cs.toList
  | v => [v]

theorem cellsOf_eq (v : Value) : v.cells.toList = cellsOf v := by cases v <;> rfl

/-- what a store of some cells at a place leaves -/
def putl : List Value → Nat → List Value → List Value
  | cs, _, [] => cs
  | cs, i, v :: vs => putl (upd cs i v) (i + 1) vs

theorem length_upd {α : Type} : ∀ (l : List α) (i : Nat) (y : α), (upd l i y).length = l.length
  | [], _, _ => rfl
  | _ :: _, 0, _ => rfl
  | x :: l, i + 1, y => by simp [upd, length_upd l i y]

theorem upd_eq_set {α : Type} : ∀ (l : List α) (i : Nat) (y : α), upd l i y = l.set i y
  | [], _, _ => rfl
  | _ :: _, 0, _ => rfl
  | x :: l, i + 1, y => by simp [upd, upd_eq_set l i y]

theorem length_putl : ∀ (vs cs : List Value) (i : Nat), (putl cs i vs).length = cs.length
  | [], _, _ => rfl
  | v :: vs, cs, i => by simp [putl, length_putl vs, length_upd]

theorem putl_whole : ∀ (vs pre post : List Value), putl (pre ++ post) pre.length vs = pre ++ vs ++ post.drop vs.length ∨ post.length < vs.length
  | [], pre, post => .inl (by simp [putl])
  | v :: vs, pre, [] => .inr (by simp)
  | v :: vs, pre, x :: post => by
    have h := putl_whole vs (pre ++ [v]) post
    have e : upd (pre ++ x :: post) pre.length v = (pre ++ [v]) ++ post := by rw [upd_eq_set]; simp
    simp only [putl, e]
    rcases h with h | h
    · left
      simp only [List.length_append, List.length_cons, List.length_nil] at h
      rw [h]; simp
    · right; simpa using h

theorem putl_all (cs vs : List Value) (h : vs.length = cs.length) : putl cs 0 vs = vs := by
  rcases putl_whole vs [] cs with e | e
  · simpa [h] using e
  · omega

section
variable {P : Program} {Q : Exit → Act → World → Prop} {a : Act} {w w' : World} {n : Nat} {l : List (Nat × Value)} {o : Oper} {rest : List Oper} {ops : Array Oper}
variable {w0 : World} {hs : List Res}

theorem run_storeCells {P : Program} {b : Nat} {e : TypeId} : ∀ (vs cs : List Value) (off i : Nat) (w : World), w.heap[b]? = some (.cells cs.toArray e (0, 0)) → off + i + vs.length ≤ cs.length → (∀ v ∈ vs, v.oneCell' = true) →
    ∃ w', (storeCells ⟨b, off, none⟩ vs i).run P w = .ok () w' ∧ w'.heap[b]? = some (.cells (putl cs (off + i) vs).toArray e (0, 0)) ∧ Keeps (fun k => k = b) w w'
  | [], cs, off, i, w, hb, _, _ => ⟨w, rfl, hb, Keeps.refl _ _⟩
  | v :: vs, cs, off, i, w, hb, hl, h1 => by
    have ea : (⟨b, off, none⟩ : Addr).add i = ⟨b, off + i, none⟩ := by
      unfold Addr.add
      by_cases h0 : i = 0 <;> simp [h0]
    have hc : w.cell? ⟨b, off + i, none⟩ = some (cs[off + i]'(by simp at hl; omega)) := by
      simp [World.cell?, hb]
    have hf : w.frozen? ⟨b, off + i, none⟩ = false := by simp [World.frozen?, hb]
    have hv := h1 v (List.mem_cons_self ..)
    have hb' : (w.setCell ⟨b, off + i, none⟩ v).heap[b]? = some (.cells (upd cs (off + i) v).toArray e (0, 0)) := by
      simp [World.setCell, Array.getElem?_modify, hb, upd_eq_set]
    obtain ⟨w', h2, h3, h4⟩ := run_storeCells (P := P) (e := e) vs (upd cs (off + i) v) off (i + 1) (w.setCell ⟨b, off + i, none⟩ v) hb' (by rw [length_upd]; simp at hl; omega) (fun u hu => h1 u (List.mem_cons_of_mem _ hu))
    refine ⟨w', ?_, ?_, ?_⟩
    · unfold storeCells
      rw [Sem.run_bind]
      have : (store ((⟨b, off, none⟩ : Addr).add i) v).run P w = .ok () (w.setCell ⟨b, off + i, none⟩ v) := by
        rw [ea]
        simp only [store]
        cases v <;> simp [Value.oneCell'] at hv <;> simp [Sem.run, hc, hf]
      rw [this]
      exact h2
    · rw [h3]; simp [putl, Nat.add_assoc]
    · exact Keeps.trans (b := w.setCell ⟨b, off + i, none⟩ v) ⟨rfl, rfl, rfl, by simp, fun k _ hk => Below.heap_setCell _ _ _ _ hk⟩ h4

/-- a store into an own row -/
theorem dst (F : Fr n a l) (S : St w0 w hs) {t z : Nat} {p x : Operand} {b off : Nat} {v : Value} (ho : o.op = .store t p x) (hp : evl l p = some (.pointer (some ⟨b, off, none⟩))) (hx : evl l x = some v)
    (hz : ∀ w, (Go.sizeOf t).run P w = .ok z w) {i e : Nat} {cs : List Value} (hi : nth hs i = some (bk b e cs)) (hlv : (cellsOf v).length = z) (hl : off + z ≤ cs.length) (h1 : ∀ u ∈ cellsOf v, u.oneCell' = true) (hg : o.guard = none) (hd : o.dst = none)
    (k : ∀ a w', Fr n a l → St w0 w' (upd hs i (bk b e (putl cs off (cellsOf v)))) → wpList P ops Q rest a w') : wpList P ops Q (o :: rest) a w := by
  have hb := S.ok hi
  obtain ⟨w', h2, h3, h4⟩ := run_storeCells (P := P) (cellsOf v) cs off 0 w hb (by omega) h1
  refine dk (w' := w') F (fun n a F => ?_) hg hd fun a F => k a w' F (S.turn hi h4 _ (by rw [Nat.add_zero] at h3; exact h3) fun j hj => ⟨.inl hj, by
    have : j = b := hj
    subst this
    exact (Array.getElem?_eq_some_iff.1 (show w'.heap[j]? = _ from h3)).1⟩)
  have hsz : v.cells.size = z := by rw [← Array.length_toList, cellsOf_eq]; exact hlv
  simp [execOp, ho, F.ev hp, F.ev hx, Instr.storeAt, Instr.sureAddr, storeVar, hz, hsz, cellsOf_eq, h2]

/-- a store of a whole variable -/
theorem dsw (F : Fr n a l) (S : St w0 w hs) {t z : Nat} {p x : Operand} {b : Nat} {v : Value} (ho : o.op = .store t p x) (hp : evl l p = some (.pointer (some ⟨b, 0, none⟩))) (hx : evl l x = some v)
    (hz : ∀ w, (Go.sizeOf t).run P w = .ok z w) {i e : Nat} {cs vs : List Value} (hi : nth hs i = some (bk b e cs)) (hv : cellsOf v = vs) (hlv : vs.length = z) (hl : cs.length = z) (h1 : ∀ u ∈ vs, u.oneCell' = true) (hg : o.guard = none) (hd : o.dst = none)
    (k : ∀ a w', Fr n a l → St w0 w' (upd hs i (bk b e vs)) → wpList P ops Q rest a w') : wpList P ops Q (o :: rest) a w := by
  subst hv
  refine dst F S ho hp hx hz hi hlv (by omega) h1 hg hd fun a w' F S => k a w' F ?_
  rwa [putl_all _ _ (by omega)] at S

theorem St.row (S : St w0 w hs) (e : TypeId) (cs : List Value) : St w0 (w.alloc (.cells cs.toArray e)) (hs ++ [bk w.heap.size e cs]) := S.alloc _

theorem dbx (F : Fr n a l) (S : St w0 w hs) {t : Nat} {x : Operand} {v : Value} {cs : List Value} (ho : o.op = .box t x) (hx : evl l x = some v) (hv : cellsOf v = cs) (hg : o.guard = none) {d : Nat} (hd : o.dst = some d) (hn : Nat.blt d n = true)
    (k : ∀ a w' b, Fr n a ((d, .pointer (some ⟨b, 0, none⟩)) :: l) → St w0 w' (hs ++ [bk b t cs]) → wpList P ops Q rest a w') : wpList P ops Q (o :: rest) a w := by
  subst hv
  refine dv (v := .pointer (some ⟨w.heap.size, 0, none⟩)) (w' := w.alloc (.cells (cellsOf v).toArray t)) F (fun n a F => ?_) hg hd hn fun a F => k a _ _ F (S.row t _)
  simp [execOp, ho, F.ev hx, Instr.box, newVar, newRow, newObj, Sem.run, ← cellsOf_eq]

theorem dal (F : Fr n a l) (S : St w0 w hs) {t : Nat} {z : Value} {cs : List Value} (ho : o.op = .alloc t) (hz : ∀ w, (zeroValue t).run P w = .ok z w) (hv : cellsOf z = cs) (hg : o.guard = none) {d : Nat} (hd : o.dst = some d) (hn : Nat.blt d n = true)
    (k : ∀ a w' b, Fr n a ((d, .pointer (some ⟨b, 0, none⟩)) :: l) → St w0 w' (hs ++ [bk b t cs]) → wpList P ops Q rest a w') : wpList P ops Q (o :: rest) a w := by
  subst hv
  refine dv (v := .pointer (some ⟨w.heap.size, 0, none⟩)) (w' := w.alloc (.cells (cellsOf z).toArray t)) F (fun n a F => ?_) hg hd hn fun a F => k a _ _ F (S.row t _)
  simp [execOp, ho, Instr.alloc, hz, newVar, newRow, newObj, Sem.run, ← cellsOf_eq]

/-! loads -/
theorem ld1 {t : Nat} {p : Addr} {v : Value} (hA : ∀ w, (isAgg t).run P w = .ok false w) (h : w.cell? p = some v) : Ld P w t p v := by
  simp [Ld, loadVar, hA, load, Sem.run, h]

theorem run_loadCells {P : Program} {b : Nat} : ∀ (vs : List Value) (off i : Nat) (acc : Array Value) (w : World), (∀ j v, vs[j]? = some v → w.cell? ⟨b, off + (i + j), none⟩ = some v) →
    (loadCellsFrom ⟨b, off, none⟩ i vs.length acc).run P w = .ok (acc ++ vs.toArray) w
  | [], off, i, acc, w, _ => by simp [loadCellsFrom]
  | v :: vs, off, i, acc, w, h => by
    have ea : (⟨b, off, none⟩ : Addr).add i = ⟨b, off + i, none⟩ := by
      unfold Addr.add
      by_cases h0 : i = 0 <;> simp [h0]
    have hc := h 0 v rfl
    simp only [Nat.add_zero] at hc
    simp only [List.length_cons, loadCellsFrom, Sem.run_bind, ea, load]
    simp only [Sem.run, hc, Result.andThen_ok]
    rw [run_loadCells vs off (i + 1) (acc.push v) w (fun j u hu => by rw [show i + 1 + j = i + (j + 1) by omega]; exact h (j + 1) u hu)]
    simp

theorem lda {t z : Nat} {b off : Nat} {vs : List Value} (hA : ∀ w, (isAgg t).run P w = .ok true w) (hz : ∀ w, (Go.sizeOf t).run P w = .ok z w) (hl : vs.length = z) (h : ∀ j v, vs[j]? = some v → w.cell? ⟨b, off + j, none⟩ = some v) : Ld P w t ⟨b, off, none⟩ (.agg vs.toArray) := by
  subst hl
  have := run_loadCells (P := P) vs off 0 #[] w (by simpa using h)
  simp [Ld, loadVar, hA, hz, loadCells, this]

theorem St.ld (S : St w0 w hs) {i b e j : Nat} {cs : List Value} (h : nth hs i = some (bk b e cs)) {t : Nat} {v : Value} (hv : nth cs j = some v) (hA : ∀ w, (isAgg t).run P w = .ok false w) : Ld P w t ⟨b, j, none⟩ v := ld1 hA (S.cell h hv)
theorem St.lda (S : St w0 w hs) {i b e : Nat} {cs : List Value} (h : nth hs i = some (bk b e cs)) {t z : Nat} (hA : ∀ w, (isAgg t).run P w = .ok true w) (hz : ∀ w, (Go.sizeOf t).run P w = .ok z w) (hl : cs.length = z) : Ld P w t ⟨b, 0, none⟩ (.agg cs.toArray) :=
  Eng.lda hA hz hl fun j v hv => by rw [Nat.zero_add]; exact S.cell h (by rw [nth_eq]; exact hv)

theorem all1 {vs : List Value} (h : vs.all Value.oneCell' = true) : ∀ u ∈ vs, u.oneCell' = true := fun u hu => List.all_eq_true.1 h u hu

/-- a result that lies in a variable -/
theorem rc1 {fn : Func} {R : Ending → World → Prop} {t ty : Nat} {p : Addr} {v : Value} (F : Fr n a l) (hr : fn.results = #[.cell t ty]) (hp : look l t = some (.pointer (some p))) (hl : Ld P w ty p v) (h : R (.returned v) w) : bodyPost P fn R .ret a w := by
  refine bodyPost_ret (v := v) ?_ F.defers h
  unfold Ld at hl
  simp [results, hr, Array.getD_eq_getD_getElem?, F.get t _ hp, asAddr, hl]

theorem y_bd {t : Nat} {parts : List (Nat × Operand)} {vs : List Value} {v : Value} (ho : o.op = .build t parts.toArray) (hx : evls l (parts.map Prod.snd) = some vs)
    (hr : ∀ w, (Instr.build t ((parts.map Prod.fst).zip vs).toArray).run P w = .ok v w) : Yl P o l w v w := fun n a F => by
  have : (parts.toArray.map fun (x : Nat × Operand) => (x.1, a.eval x.2)) = ((parts.map Prod.fst).zip vs).toArray := by
    rw [← F.evs hx]
    simp [List.zip_map']
  simp only [execOp, ho]
  rw [show (parts.toArray.map fun x => match x with | (i, x) => (i, a.eval x)) = ((parts.map Prod.fst).zip vs).toArray from this]
  simp [hr]
end
end Go.Eng
