/- append onto a slice that the call owns; slices that grow as a resource. -/
import Derived.Test.YtgmnlakddapkgaaData
import Derived.Maps.AppendAt
import Derived.Laws.OwnMore
import Derived.Great.BuildSlice
set_option linter.unusedVariables false
set_option linter.unusedSimpArgs false
namespace Go.Eng
open Go.RowKit

/-- The call owns the slice value v: n elements of z cells of type e; their cells are xs. -/
def ow (e z : Nat) (v : Value) (n : Nat) (xs : List Value) : Res := ⟨fun k => v.ownBlock = some k, fun w => w.ownsRow 0 e z v n xs, fun w w' h ho => by
  refine ⟨ho.1, ?_⟩
  rcases ho.2 with h0 | ⟨g, cap, cur, rfl, hb, hg, h1, h2, h3, h4⟩
  · exact .inl h0
  · exact .inr ⟨g, cap, cur, rfl, hb, (h g rfl).trans hg, h1, h2, h3, h4⟩⟩

/-- what append asks of the element's type -/
def AI (P : Program) (e z b : Nat) : Bool := (P.info? e).any fun i => Nat.beq i.size z && Nat.beq i.bytes b && i.zero.any fun v => Nat.beq v.cells.size z
theorem AI.ex {P : Program} {e z b : Nat} (h : AI P e z b = true) : ∃ i v, P.info? e = some i ∧ i.zero = some v ∧ i.size = z ∧ i.bytes = b ∧ v.cells.size = z := by
  unfold AI at h
  cases hi : P.info? e with
  | none => simp [hi] at h
  | some i =>
    simp only [hi, Option.any_some, Bool.and_eq_true] at h
    cases hz : i.zero with
    | none => simp [hz] at h
    | some v =>
      simp only [hz, Option.any_some] at h
      exact ⟨i, v, rfl, hz, Nat.eq_of_beq_eq_true h.1.1, Nat.eq_of_beq_eq_true h.1.2, Nat.eq_of_beq_eq_true h.2⟩

/-- the slice value's cells, one behind the other -/
def Fl (w : World) (Y : Option Addr) (news : List Value) : Prop := (Y = none ∧ news = []) ∨ ∃ a, Y = some a ∧ ∀ j u, news[j]? = some u → w.cell? (a.add j) = some u

section
variable {P : Program} {w0 w : World} {hs : List Res}
theorem run_app {t ty e z by_ : Nat} {A Y : Option Addr} {c n m c2 : Nat} {xs news : List Value} (S : St w0 w hs) {i : Nat} (hi : nth hs i = some (ow e z (.slice A n c) n xs))
    (hY : Fl w Y news) (hl : news.length = m * z) (h1 : ∀ u ∈ news, u.oneCell' = true) (ht : P.underlying t = some (.slice e)) (hI : AI P e z by_ = true) (hz : Nat.blt 0 z = true) (hb : (n + m) * by_ ≤ 140737488355328) (h63 : n + m ≤ maxLen) :
    ∃ A' c' w', (Builtin.append_ #[t, t] ty #[.slice A n c, .slice Y m c2]).run P w = .ok (.slice A' (n + m) c') w' ∧ St w0 w' (upd hs i (ow e z (.slice A' (n + m) c') (n + m) (xs ++ news))) := by
  obtain ⟨inf, zv, h2, h3, h4, h5, h6⟩ := AI.ex hI
  have hz' : 0 < z := by simpa [Nat.blt_eq] using hz
  have ho : w.ownsRow 0 e z (.slice A n c) n xs := S.ok hi
  rcases hY with ⟨rfl, rfl⟩ | ⟨a, rfl, hc⟩
  · have hm : m = 0 := by
      rcases Nat.eq_zero_or_pos m with h | h
      · exact h
      · have := Nat.mul_pos h hz'
        simp at hl; omega
    subst hm
    refine ⟨A, c, w, ?_, ?_⟩
    · subst h4
      rcases ho.2 with ⟨h, rfl⟩ | ⟨g, cap, cur, h, _, _, hnc, _⟩
      · cases h
        simp [Builtin.append_, run_underlying ht, sizeOf, typeInfo, h2, Builtin.lenOf, Builtin.firstCells]
      · cases h
        simp [Builtin.append_, run_underlying ht, sizeOf, typeInfo, h2, Builtin.lenOf, Builtin.firstCells, hnc, storeCells]
    · refine S.turn hi (keeps_of_below (Below.refl _ _)) _ (by simp only [Nat.add_zero, List.append_nil]; exact ho) fun k hk => ⟨.inl hk, ?_⟩
      exact ((S.own i _ hi).2 k hk).2
  · obtain ⟨v', w', hr, hown, hg, _, hwh⟩ := run_append_own_at w 0 t ty e inf zv z by_ ht h2 h3 h4 h5 h6 hz' (.slice A n c) n xs ho a m c2 news hl hc h1 h63 hb (Nat.zero_le _)
    have hsh : ∃ A' c', v' = .slice A' (n + m) c' := by
      rcases hown.2 with ⟨h, h0⟩ | ⟨g, cap, cur, h, _⟩
      · rw [h0]; exact ⟨none, 0, h⟩
      · exact ⟨_, _, h⟩
    obtain ⟨A', c', rfl⟩ := hsh
    refine ⟨A', c', w', hr, ?_⟩
    obtain ⟨g1, g2, g3, g4, g5⟩ := hg
    have hK : Keeps (fun k => Value.ownBlock (.slice A n c) = some k) w w' := ⟨g1, g2, g3, g4, fun k hk hnk => g5 k hk fun e => hnk e.symm⟩
    refine S.turn hi hK _ hown fun k hk => ?_
    have hk' : Value.ownBlock (.slice A' (n + m) c') = some k := hk
    have hlt : k < w'.heap.size := by
      rcases hown.2 with ⟨h, h0⟩ | ⟨g, cap, cur, h, _, hgs, _⟩
      · rw [h] at hk'; cases hk'
      · rw [h] at hk'
        injection hk' with hk'
        rw [← hk']
        exact (Array.getElem?_eq_some_iff.1 hgs).1
    refine ⟨?_, hlt⟩
    rcases hwh with h | h
    · left; show Value.ownBlock (.slice A n c) = some k; rw [← h]; exact hk'
    · right; rw [h] at hk'; injection hk' with hk'; omega

theorem ow_nil (S : St w0 w hs) (e z : Nat) : St w0 w (hs ++ [ow e z (.slice none 0 0) 0 []]) :=
  S.add _ ⟨by simp, .inl ⟨rfl, rfl⟩⟩ (fun k hk => by cases hk) fun i s h k hk => by cases hk
theorem ow_of_bk {i b e n z : Nat} {cs : List Value} (S : St w0 w hs) (h : nth hs i = some (bk b e cs)) (hl : cs.length = n * z) (hm : n ≤ maxLen) : St w0 w (upd hs i (ow e z (.slice (some ⟨b, 0, none⟩) n n) n cs)) := by
  have hb : w.heap[b]? = some (.cells cs.toArray e (0, 0)) := S.ok h
  refine S.turn h (keeps_of_below (Below.refl _ _)) _ ⟨hl, .inr ⟨b, n, cs.toArray, rfl, Nat.zero_le _, hb, Nat.le_refl _, hm, by simpa using hl, ?_⟩⟩ fun k hk => ?_
  · simp only [List.take_of_length_le (Nat.le_of_eq hl)]
  · have : b = k := by
      have hk' : some b = some k := hk
      injection hk'
    subst this
    exact ⟨.inl rfl, (Array.getElem?_eq_some_iff.1 hb).1⟩

variable {α : Type} {z : Nat} {enc : α → List Value} {A : Option Addr} {ys : List α}
theorem flat_get (hz : ∀ x, (enc x).length = z) : ∀ (ys : List α) (k : Nat) (u : Value), (ys.flatMap enc)[k]? = some u → ∃ j x i, ys[j]? = some x ∧ (enc x)[i]? = some u ∧ k = j * z + i
  | [], k, u, h => by simp at h
  | y :: ys, k, u, h => by
    rw [List.flatMap_cons] at h
    by_cases hk : k < z
    · rw [List.getElem?_append_left (by rw [hz]; exact hk)] at h
      exact ⟨0, y, k, rfl, h, by simp⟩
    · rw [List.getElem?_append_right (by rw [hz]; omega), hz] at h
      obtain ⟨j, x, i, h1, h2, h3⟩ := flat_get hz ys _ u h
      exact ⟨j + 1, x, i, by simpa using h1, h2, by have := Nat.add_one_mul j z; omega⟩
theorem get_flat (hz : ∀ x, (enc x).length = z) : ∀ (ys : List α) (j : Nat) (x : α) (i : Nat) (u : Value), ys[j]? = some x → (enc x)[i]? = some u → (ys.flatMap enc)[j * z + i]? = some u
  | [], j, x, i, u, h, _ => by simp at h
  | y :: ys, 0, x, i, u, h, h2 => by
    simp at h; subst h
    rw [List.flatMap_cons, Nat.zero_mul, Nat.zero_add, List.getElem?_append_left (List.getElem?_eq_some_iff.1 h2).1]
    exact h2
  | y :: ys, j + 1, x, i, u, h, h2 => by
    rw [List.flatMap_cons, List.getElem?_append_right (by rw [hz]; have := Nat.add_one_mul j z; omega), hz]
    rw [show (j + 1) * z + i - z = j * z + i by have := Nat.add_one_mul j z; omega]
    exact get_flat hz ys j x i u (by simpa using h) h2
theorem flat_len (hz : ∀ x, (enc x).length = z) (ys : List α) : (ys.flatMap enc).length = ys.length * z := by
  induction ys with
  | nil => simp
  | cons y ys ih => rw [List.flatMap_cons, List.length_append, ih, hz, List.length_cons, Nat.add_one_mul]; omega
theorem add_mk (b o n : Nat) : (⟨b, o, none⟩ : Addr).add n = ⟨b, o + n, none⟩ := by
  unfold Addr.add
  by_cases h : n = 0 <;> simp [h]
theorem Sl.fl (h : Sl w z enc A ys) (hz : ∀ x, (enc x).length = z) : Fl w A (ys.flatMap enc) := by
  by_cases hne : ys = []
  · subst hne
    cases A with
    | none => exact .inl ⟨rfl, rfl⟩
    | some a => exact .inr ⟨a, rfl, fun j u hu => by simp at hu⟩
  · obtain ⟨b, o, rfl, hb, hc⟩ := h hne
    refine .inr ⟨_, rfl, fun k u hu => ?_⟩
    obtain ⟨j, x, i, h1, h2, rfl⟩ := flat_get hz ys k u hu
    rw [add_mk, ← Nat.add_assoc]
    exact hc j x h1 i u h2
/-- an own slice reads as a list -/
theorem St.ows {i e c n : Nat} (S : St w0 w hs) (h : nth hs i = some (ow e z (.slice A n c) n (ys.flatMap enc))) (hz : ∀ x, (enc x).length = z) (hzp : 0 < z) : Sl w z enc A ys := fun hne => by
  have ho : w.ownsRow 0 e z (.slice A n c) n (ys.flatMap enc) := S.ok h
  rcases ho.2 with ⟨h1, h2⟩ | ⟨g, cap, cur, h1, _, h3, h4, h5, h6, h7⟩
  · subst h2
    have := ho.1
    rw [flat_len hz, Nat.zero_mul] at this
    have h0 : ys.length = 0 := by
      rcases Nat.eq_zero_or_pos ys.length with h | h
      · exact h
      · have := Nat.mul_pos h hzp; omega
    exact absurd (List.eq_nil_of_length_eq_zero h0) hne
  · cases h1
    refine ⟨g, 0, rfl, (Array.getElem?_eq_some_iff.1 h3).1, fun j x hj i u hu => ?_⟩
    rw [Nat.zero_add]
    have := get_flat hz ys j x i u hj hu
    rw [← h7, List.getElem?_take] at this
    split at this
    · simp only [World.cell?, h3]
      simpa using this
    · cases this
end

section
variable {P : Program} {Q : Exit → Act → World → Prop} {w w0 : World} {n0 : Nat} {l : List (Nat × Value)} {o : Oper} {rest : List Oper} {ops : Array Oper} {a : Act} {hs : List Res}
theorem dap (F : Fr n0 a l) (S : St w0 w hs) {t e z by_ : Nat} {x y : Operand} {A Y : Option Addr} {c n m c2 : Nat} {xs news : List Value}
    (ho : o.op = .call { callee := .builtin .append, args := #[x, y], argTypes := #[t, t] }) (hx : evl l x = some (.slice A n c)) (hy : evl l y = some (.slice Y m c2)) {i : Nat} (hi : nth hs i = some (ow e z (.slice A n c) n xs))
    (hY : Fl w Y news) (hl : news.length = m * z) (h1 : ∀ u ∈ news, u.oneCell' = true) (ht : P.underlying t = some (.slice e)) (hI : AI P e z by_ = true) (hz : Nat.blt 0 z = true) {N : Nat} {XS : List Value} (hN : n + m = N) (hX : xs ++ news = XS) (hb : N * by_ ≤ 140737488355328) (h63 : N ≤ 9223372036854775807)
    (hg : o.guard = none) {d : Nat} (hd : o.dst = some d) (hn : Nat.blt d n0 = true)
    (k : ∀ a w' A' c', Fr n0 a ((d, .slice A' N c') :: l) → St w0 w' (upd hs i (ow e z (.slice A' N c') N XS)) → wpList P ops Q rest a w') : wpList P ops Q (o :: rest) a w := by
  subst hN hX
  obtain ⟨A', c', w', hr, hS⟩ := run_app (ty := o.type) (c2 := c2) S hi hY hl h1 ht hI hz hb h63
  refine dv (v := .slice A' (n + m) c') (w' := w') F (fun n a F => ?_) hg hd hn fun a F => k a w' A' c' F hS
  simp [execOp, ho, F.ev hx, F.ev hy, resolve, invoke, builtin, hr]
theorem allflat {α : Type} {enc : α → List Value} (h : ∀ x, ∀ u ∈ enc x, u.oneCell' = true) (ys : List α) : ∀ u ∈ ys.flatMap enc, u.oneCell' = true := fun u hu => by
  obtain ⟨x, _, hx⟩ := List.mem_flatMap.1 hu
  exact h x u hx
end

theorem fold_set : ∀ (l : List Value) (k : Nat) (cells : Array Value), k + l.length ≤ cells.size →
    ((l.zipIdx k).foldl (fun cs (x : Value × Nat) => cs.setIfInBounds (0 + x.2) x.1) cells).size = cells.size ∧
    ∀ i : Nat, ((l.zipIdx k).foldl (fun cs (x : Value × Nat) => cs.setIfInBounds (0 + x.2) x.1) cells)[i]? = if k ≤ i ∧ i < k + l.length then l[i - k]? else cells[i]?
  | [], k, cells, h => ⟨by simp, fun i => by simp; omega⟩
  | v :: l, k, cells, h => by
    simp only [List.length_cons] at h
    simp only [List.zipIdx_cons, List.foldl_cons]
    obtain ⟨h1, h2⟩ := fold_set l (k + 1) (cells.setIfInBounds (0 + k) v) (by simp; omega)
    refine ⟨by rw [h1]; simp, fun i => ?_⟩
    rw [h2 i]
    by_cases h3 : k + 1 ≤ i ∧ i < k + 1 + l.length
    · rw [if_pos h3, if_pos (by simp; omega)]
      rw [show i - k = (i - (k + 1)) + 1 by omega]
      simp
    · rw [if_neg h3]
      by_cases h4 : i = k
      · subst h4
        have h5 : i < cells.size := by omega
        rw [if_pos (by simp)]
        simp [h5]
      · rw [if_neg (by simp; omega), Array.getElem?_setIfInBounds_ne (by omega)]
theorem fold_all (vs cells : Array Value) (h : cells.size = vs.size) : vs.zipIdx.foldl (fun cs (x : Value × Nat) => cs.setIfInBounds (0 + x.2) x.1) cells = vs := by
  obtain ⟨h1, h2⟩ := fold_set vs.toList 0 cells (by simp [h])
  have e : vs.zipIdx.foldl (fun cs (x : Value × Nat) => cs.setIfInBounds (0 + x.2) x.1) cells = (vs.toList.zipIdx 0).foldl (fun cs (x : Value × Nat) => cs.setIfInBounds (0 + x.2) x.1) cells := by
    rw [← Array.foldl_toList]; simp
  rw [e]
  refine Array.ext_getElem? fun i => ?_
  rw [h2 i]
  by_cases hi : i < vs.size
  · rw [if_pos (by simp [hi])]; simp
  · rw [if_neg (by simp; omega), Array.getElem?_eq_none (by omega), Array.getElem?_eq_none (by omega)]

/-- a slice of one element -/
theorem bsOne {P : Program} {t e z b : Nat} {vs : List Value} (ht : P.underlying t = some (.slice e)) (hI : AI P e z b = true) (hl : vs.length = z) (hz : Nat.blt 0 z = true) (hs : Nat.ble z 16777216 = true) (w : World) :
    (Instr.buildSlice t 1 [(0, .agg vs.toArray)].toArray).run P w = .ok (.slice (some ⟨w.heap.size, 0, none⟩) 1 1) (w.alloc (.cells vs.toArray e)) := by
  obtain ⟨inf, zv, h2, h3, h4, h5, h6⟩ := AI.ex hI
  subst h4
  have hz' : 0 < inf.size := by simpa [Nat.blt_eq] using hz
  have hs' : inf.size ≤ 16777216 := Nat.le_of_ble_eq_true hs
  refine run_buildSlice w t e 1 _ vs.toArray inf zv ht h2 h3 (by omega) (by omega) ?_
  have hc : (Value.agg vs.toArray).cells = vs.toArray := rfl
  simp only [Instr.fill, hc]
  rw [if_neg (by simp; omega)]
  congr 1
  simp only [Nat.zero_mul]
  exact fold_all vs.toArray _ (by simp; omega)

theorem St.fl {w0 w : World} {hs : List Res} (S : St w0 w hs) {i b e : Nat} {cs : List Value} (h : nth hs i = some (bk b e cs)) : Fl w (some ⟨b, 0, none⟩) cs := .inr ⟨_, rfl, fun j u hu => by
  rw [add_mk, Nat.zero_add]
  exact S.cell h (by rw [nth_eq]; exact hu)⟩
end Go.Eng
