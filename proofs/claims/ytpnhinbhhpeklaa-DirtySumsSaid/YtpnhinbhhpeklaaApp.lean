/- append onto a slice that the call owns; slices that grow as a resource. -/
import Derived.Test.YtpnhinbhhpeklaaData
import Derived.Maps.AppendAt
import Derived.Laws.OwnMore
import Derived.ArgAppend
import Derived.Deep.AppendSrc
import Derived.Great.BuildSlice
set_option linter.unusedVariables false
set_option linter.unusedSimpArgs false
namespace Go.Eng
open Go.RowKit

theorem add_mk (b o n : Nat) : (⟨b, o, none⟩ : Addr).add n = ⟨b, o + n, none⟩ := by
  unfold Addr.add
  by_cases h : n = 0 <;> simp [h]
/-- A slice of the call's own: n elements of z cells of type e; their cells are xs. -/
def OwOk (w : World) (e z : Nat) (A : Option Addr) (c n : Nat) (xs : List Value) : Prop :=
  xs.length = n * z ∧ n ≤ c ∧ c ≤ maxLen ∧ ((A = none ∧ c = 0) ∨ ∃ g off cur fr, A = some ⟨g, off, none⟩ ∧ w.heap[g]? = some (.cells cur e fr) ∧ (fr.2 = 0 ∨ cur.size ≤ fr.1) ∧ off + c * z ≤ cur.size ∧ ∀ j u, xs[j]? = some u → cur[off + j]? = some u)
def ow (e z : Nat) (v : Value) (n : Nat) (xs : List Value) : Res := ⟨fun k => v.ownBlock = some k, fun w => ∃ A c, v = .slice A n c ∧ OwOk w e z A c n xs, fun w w' h ⟨A, c, hv, h1, h2, h3, h4⟩ => by
  refine ⟨A, c, hv, h1, h2, h3, ?_⟩
  rcases h4 with h0 | ⟨g, off, cur, fr, rfl, hg, h5⟩
  · exact .inl h0
  · exact .inr ⟨g, off, cur, fr, rfl, (h g (by rw [hv]; rfl)).trans hg, h5⟩⟩
theorem OwOk.of_own {w : World} {b e z n : Nat} {v : Value} {xs : List Value} (h : w.ownsRow b e z v n xs) : ∃ A c, v = .slice A n c ∧ OwOk w e z A c n xs := by
  rcases h.2 with ⟨rfl, rfl⟩ | ⟨g, cap, cur, rfl, _, hg, h1, h2, h3, h4⟩
  · exact ⟨none, 0, rfl, h.1, Nat.le_refl _, Nat.zero_le _, .inl ⟨rfl, rfl⟩⟩
  · refine ⟨_, _, rfl, h.1, h1, h2, .inr ⟨g, 0, cur, (0, 0), rfl, hg, .inl rfl, by omega, fun j u hj => ?_⟩⟩
    rw [← h4, List.getElem?_take] at hj
    split at hj
    · rw [Nat.zero_add]; simpa using hj
    · cases hj

theorem putl_get : ∀ (vs cs : List Value) (i : Nat), i + vs.length ≤ cs.length → (putl cs i vs).length = cs.length ∧ ∀ k, (putl cs i vs)[k]? = if i ≤ k ∧ k < i + vs.length then vs[k - i]? else cs[k]?
  | [], cs, i, _ => ⟨rfl, fun k => by simp [putl]; omega⟩
  | v :: vs, cs, i, h => by
    simp only [List.length_cons] at h
    obtain ⟨h1, h2⟩ := putl_get vs (upd cs i v) (i + 1) (by rw [length_upd]; omega)
    refine ⟨by rw [putl, h1, length_upd], fun k => ?_⟩
    rw [putl, h2 k]
    by_cases h3 : i + 1 ≤ k ∧ k < i + 1 + vs.length
    · rw [if_pos h3, if_pos (by simp; omega), show k - i = (k - (i + 1)) + 1 by omega]
      simp
    · rw [if_neg h3]
      by_cases h4 : k = i
      · subst h4
        rw [if_pos (by simp), Nat.sub_self, ← nth_eq]
        have h5 : k < cs.length := by omega
        rw [nth_upd_eq cs k cs[k] v (by rw [nth_eq, List.getElem?_eq_getElem h5])]
        rfl
      · rw [if_neg (by simp; omega), ← nth_eq, nth_upd_ne _ _ _ _ (by omega), nth_eq]

theorem run_storeCellsF {P : Program} {b : Nat} {e : TypeId} {fr : Nat × Nat} : ∀ (vs cs : List Value) (off i : Nat) (w : World), w.heap[b]? = some (.cells cs.toArray e fr) → (fr.2 = 0 ∨ cs.length ≤ fr.1) → off + i + vs.length ≤ cs.length → (∀ v ∈ vs, v.oneCell' = true) →
    ∃ w', (storeCells ⟨b, off, none⟩ vs i).run P w = .ok () w' ∧ w'.heap[b]? = some (.cells (putl cs (off + i) vs).toArray e fr) ∧ Keeps (fun k => k = b) w w'
  | [], cs, off, i, w, hb, _, _, _ => ⟨w, rfl, hb, Keeps.refl _ _⟩
  | v :: vs, cs, off, i, w, hb, hfr, hl, h1 => by
    have ea : (⟨b, off, none⟩ : Addr).add i = ⟨b, off + i, none⟩ := add_mk b off i
    have hlt : off + i < cs.length := by simp at hl; omega
    have hc : w.cell? ⟨b, off + i, none⟩ = some (cs[off + i]'hlt) := by
      simp [World.cell?, hb]
    have hf : w.frozen? ⟨b, off + i, none⟩ = false := by
      simp only [World.frozen?, hb]
      have : ¬ (fr.1 ≤ off + i ∧ off + i < fr.2) := by omega
      simpa using this
    have hv := h1 v (List.mem_cons_self ..)
    have hb' : (w.setCell ⟨b, off + i, none⟩ v).heap[b]? = some (.cells (upd cs (off + i) v).toArray e fr) := by
      simp [World.setCell, Array.getElem?_modify, hb, upd_eq_set]
    obtain ⟨w', h2, h3, h4⟩ := run_storeCellsF (P := P) (e := e) (fr := fr) vs (upd cs (off + i) v) off (i + 1) (w.setCell ⟨b, off + i, none⟩ v) hb' (by rw [length_upd]; exact hfr) (by rw [length_upd]; simp at hl; omega) (fun u hu => h1 u (List.mem_cons_of_mem _ hu))
    refine ⟨w', ?_, ?_, ?_⟩
    · unfold storeCells
      rw [Sem.run_bind]
      have : (store ((⟨b, off, none⟩ : Addr).add i) v).run P w = .ok () (w.setCell ⟨b, off + i, none⟩ v) := by
        rw [ea]
        simp only [store]
        cases v <;> simp [Value.oneCell'] at hv <;> simp [Sem.run, hc, hf]
      rw [this]
      exact h2
    · rw [h3]; simp [putl, Nat.add_assoc]
    · exact Keeps.trans (b := w.setCell ⟨b, off + i, none⟩ v) ⟨rfl, rfl, rfl, by simp, fun k _ hk => Below.heap_setCell _ _ _ _ hk⟩ h4

/-- what append asks of the element's type -/
def AI (P : Program) (e z b : Nat) : Bool := (P.info? e).any fun i => Nat.beq i.size z && Nat.beq i.bytes b && i.zero.any fun v => Nat.beq v.cells.size z
theorem AI.ex {P : Program} {e z b : Nat} (h : AI P e z b = true) : ∃ i v, P.info? e = some i ∧ i.zero = some v ∧ i.size = z ∧ i.bytes = b ∧ v.cells.size = z := by
  unfold AI at h
  cases hi : P.info? e with
  | none => simp [hi] at h
  | some i =>
    simp only [hi, Option.any_some, Bool.and_eq_true] at h
    cases hz : i.zero with
    | none => simp [hz] at h
    | some v =>
      simp only [hz, Option.any_some] at h
      exact ⟨i, v, rfl, hz, Nat.eq_of_beq_eq_true h.1.1, Nat.eq_of_beq_eq_true h.1.2, Nat.eq_of_beq_eq_true h.2⟩

/-- the slice value's cells, one behind the other -/
def Fl (w : World) (Y : Option Addr) (news : List Value) : Prop := (Y = none ∧ news = []) ∨ ∃ a, Y = some a ∧ ∀ j u, news[j]? = some u → w.cell? (a.add j) = some u

section
variable {P : Program} {w0 w : World} {hs : List Res}
theorem run_appx {t tx ty e z by_ : Nat} {A : Option Addr} {c n m : Nat} {x : Value} {xs news : List Value} (S : St w0 w hs) {i : Nat} (hi : nth hs i = some (ow e z (.slice A n c) n xs))
    (hs' : Src P z tx x m news w) (ht : P.underlying t = some (.slice e)) (hI : AI P e z by_ = true) (hz : Nat.blt 0 z = true) (hb : (n + m) * by_ ≤ 140737488355328) (h63 : n + m ≤ maxLen) :
    ∃ A' c' w', (Builtin.append_ #[t, tx] ty #[.slice A n c, x]).run P w = .ok (.slice A' (n + m) c') w' ∧ St w0 w' (upd hs i (ow e z (.slice A' (n + m) c') (n + m) (xs ++ news))) := by
  obtain ⟨inf, zv, h2, h3, h4, h5, h6⟩ := AI.ex hI
  have hz' : 0 < z := by simpa [Nat.blt_eq] using hz
  obtain ⟨A_, c_, hv, ho⟩ := S.ok hi
  cases hv
  obtain ⟨ho1, ho2, ho3, ho4⟩ := ho
  subst h4 h5
  have hl := hs'.newsLen
  have hlen : (xs ++ news).length = (n + m) * inf.size := by rw [List.length_append, ho1, hl, Nat.add_mul]
  -- what a new or an own row leaves
  have fin : ∀ v' w', (Builtin.append_ #[t, tx] ty #[.slice A n c, x]).run P w = .ok v' w' → (∃ A' c', v' = .slice A' (n + m) c' ∧ OwOk w' e inf.size A' c' (n + m) (xs ++ news)) → Keeps (fun k => Value.ownBlock (.slice A n c) = some k) w w' → (∀ k, v'.ownBlock = some k → Value.ownBlock (.slice A n c) = some k ∨ w.heap.size ≤ k) →
      ∃ A' c' w', (Builtin.append_ #[t, tx] ty #[.slice A n c, x]).run P w = .ok (.slice A' (n + m) c') w' ∧ St w0 w' (upd hs i (ow e inf.size (.slice A' (n + m) c') (n + m) (xs ++ news))) := by
    rintro v' w' hr ⟨A', c', rfl, hok⟩ hK hfp
    refine ⟨A', c', w', hr, S.turn hi hK _ ⟨A', c', rfl, hok⟩ fun k hk => ⟨hfp k hk, ?_⟩⟩
    rcases hok.2.2.2 with ⟨rfl, _⟩ | ⟨g, off, cur, fr, rfl, hg, _⟩
    · cases hk
    · have hk' : some g = some k := hk
      injection hk' with hk'
      rw [← hk']
      exact (Array.getElem?_eq_some_iff.1 hg).1
  -- the growing arm
  have grow : c < n + m → (Builtin.firstCells inf.size n (.slice A n c)).run P w.drew = .ok xs.toArray w.drew →
      ∃ A' c' w', (Builtin.append_ #[t, tx] ty #[.slice A n c, x]).run P w = .ok (.slice A' (n + m) c') w' ∧ St w0 w' (upd hs i (ow e inf.size (.slice A' (n + m) c') (n + m) (xs ++ news))) := by
    intro hg hold
    have h63' := h63
    simp only [maxLen] at h63'
    have hr := run_append_grow_src (P := P) w t tx ty e inf zv ht h2 h3 A n c xs hold x m news hs' hg (by omega) (growslice_fits hg hb)
    have hge := grownCap_ge w (n + m) c e
    have hcm := grownCap_le_maxLen w (n + m) c e h63
    refine fin _ _ hr ⟨_, _, rfl, hlen, hge, hcm, .inr ⟨w.heap.size, 0, _, (0, 0), rfl, heap_alloc_new w.drew _, .inl rfl, ?_, fun j u hj => ?_⟩⟩ ⟨rfl, rfl, rfl, by simp, fun k hk _ => (by show (w.heap.push _)[k]? = _; rw [Array.getElem?_push_lt hk, Array.getElem?_eq_getElem hk])⟩ fun k hk => .inr ?_
    · simp only [Array.size_append, List.size_toArray, size_zeroCells, h6, hlen, ← Nat.add_mul, Nat.zero_add]
      exact Nat.le_of_eq (by congr 1; omega)
    · rw [Nat.zero_add, Array.getElem?_append_left (by simpa using (List.getElem?_eq_some_iff.1 hj).1)]
      simpa using hj
    · have hk' : some w.heap.size = some k := hk
      injection hk' with hk'
      omega
  rcases ho4 with ⟨rfl, rfl⟩ | ⟨g, off, cur, fr, rfl, hg, hfr, hcur, hxs⟩
  · have hn0 : n = 0 := by omega
    subst hn0
    have hx0 : xs = [] := List.eq_nil_of_length_eq_zero (by simpa using ho1)
    subst hx0
    by_cases hm : m = 0
    · subst hm
      have hn : news = [] := List.eq_nil_of_length_eq_zero (by simpa using hl)
      subst hn
      refine fin (.slice none 0 0) w ?_ ⟨none, 0, rfl, by simp, Nat.le_refl _, Nat.zero_le _, .inl ⟨rfl, rfl⟩⟩ (keeps_of_below (Below.refl _ _)) fun k hk => by cases hk
      rcases hs'.kind with ⟨e', hk⟩ | hk <;> simp [Builtin.append_, run_underlying ht, run_underlying hk, sizeOf, typeInfo, h2, hs'.len, hs'.cells]
    · exact grow (by omega) (run_firstCells_none w.drew inf.size 0 0 0)
  · have hcell : ∀ j u, xs[j]? = some u → w.drew.cell? ((⟨g, off, none⟩ : Addr).add j) = some u := fun j u hj => by
      have := hxs j u hj
      rw [add_mk]
      have hg' : w.drew.heap[g]? = some (.cells cur e fr) := hg
      simp only [World.cell?, hg']
      simpa using this
    by_cases hroom : n + m ≤ c
    · have hnm : (n + m) * inf.size ≤ c * inf.size := Nat.mul_le_mul_right _ hroom
      rw [Nat.add_mul] at hnm
      have hL : off + n * inf.size + 0 + news.length ≤ cur.toList.length := by
        have := Array.length_toList (xs := cur)
        omega
      obtain ⟨w', r1, r2, r3⟩ := run_storeCellsF (P := P) (b := g) (e := e) (fr := fr) news cur.toList (off + n * inf.size) 0 w (by simpa using hg) (by simpa using hfr) hL hs'.one
      refine fin (.slice (some ⟨g, off, none⟩) (n + m) c) w' ?_ ⟨_, _, rfl, hlen, hroom, ho3, .inr ⟨g, off, _, fr, rfl, r2, ?_, ?_, ?_⟩⟩ ?_ fun k hk => .inl hk
      · rcases hs'.kind with ⟨e', hk⟩ | hk <;> simp [Builtin.append_, run_underlying ht, run_underlying hk, sizeOf, typeInfo, h2, hs'.len, hroom, hs'.cells, Addr.add_lit, r1]
      · have := (putl_get news cur.toList (off + n * inf.size + 0) hL).1
        simp only [List.size_toArray, this, Array.length_toList]
        exact hfr
      · have := (putl_get news cur.toList (off + n * inf.size + 0) hL).1
        simp only [List.size_toArray, this, Array.length_toList]
        exact hcur
      · intro j u hj
        have hg2 := (putl_get news cur.toList (off + n * inf.size + 0) hL).2 (off + j)
        rw [List.getElem?_toArray, hg2]
        by_cases hjn : j < n * inf.size
        · rw [if_neg (by omega)]
          rw [List.getElem?_append_left (by omega)] at hj
          simpa using hxs j u hj
        · rw [List.getElem?_append_right (by omega), ho1] at hj
          have := (List.getElem?_eq_some_iff.1 hj).1
          rw [if_pos (by omega), show off + j - (off + n * inf.size + 0) = j - n * inf.size by omega]
          exact hj
      · exact ⟨r3.os, r3.tape, r3.output, r3.size, fun k hk hnk => r3.block k hk fun e => hnk (by rw [e]; rfl)⟩
    · exact grow (by omega) (run_firstCells_some w.drew inf.size n ⟨g, off, none⟩ n c xs ho1 hcell)
theorem Fl.src {t e z m c2 : Nat} {Y : Option Addr} {news : List Value} (hY : Fl w Y news) (hl : news.length = m * z) (hz : Nat.blt 0 z = true) (h1 : ∀ u ∈ news, u.oneCell' = true) (ht : P.underlying t = some (.slice e)) : Src P z t (.slice Y m c2) m news w := by
  have hz' : 0 < z := by simpa [Nat.blt_eq] using hz
  rcases hY with ⟨rfl, rfl⟩ | ⟨a, rfl, hc⟩
  · have hm : m = 0 := by
      rcases Nat.eq_zero_or_pos m with h | h
      · exact h
      · have := Nat.mul_pos h hz'
        simp at hl; omega
    subst hm
    exact Src.ofNil w ht c2
  · exact Src.ofSlice w ht a m c2 news hl hc h1
theorem run_app {t ty e z by_ : Nat} {A Y : Option Addr} {c n m c2 : Nat} {xs news : List Value} (S : St w0 w hs) {i : Nat} (hi : nth hs i = some (ow e z (.slice A n c) n xs))
    (hY : Fl w Y news) (hl : news.length = m * z) (h1 : ∀ u ∈ news, u.oneCell' = true) (ht : P.underlying t = some (.slice e)) (hI : AI P e z by_ = true) (hz : Nat.blt 0 z = true) (hb : (n + m) * by_ ≤ 140737488355328) (h63 : n + m ≤ maxLen) :
    ∃ A' c' w', (Builtin.append_ #[t, t] ty #[.slice A n c, .slice Y m c2]).run P w = .ok (.slice A' (n + m) c') w' ∧ St w0 w' (upd hs i (ow e z (.slice A' (n + m) c') (n + m) (xs ++ news))) :=
  run_appx S hi (hY.src hl hz h1 ht) ht hI hz hb h63

theorem ow_nil (S : St w0 w hs) (e z : Nat) : St w0 w (hs ++ [ow e z (.slice none 0 0) 0 []]) :=
  S.add _ ⟨none, 0, rfl, by simp, Nat.le_refl _, Nat.zero_le _, .inl ⟨rfl, rfl⟩⟩ (fun k hk => by cases hk) fun i s h k hk => by cases hk
theorem ow_of_bk {i b e n z : Nat} {cs : List Value} (S : St w0 w hs) (h : nth hs i = some (bk b e cs)) (hl : cs.length = n * z) (hm : n ≤ maxLen) : St w0 w (upd hs i (ow e z (.slice (some ⟨b, 0, none⟩) n n) n cs)) := by
  have hb : w.heap[b]? = some (.cells cs.toArray e (0, 0)) := S.ok h
  refine S.turn h (keeps_of_below (Below.refl _ _)) _ ⟨_, _, rfl, hl, Nat.le_refl _, hm, .inr ⟨b, 0, cs.toArray, (0, 0), rfl, hb, .inl rfl, by simp; omega, fun j u hj => by rw [Nat.zero_add]; simpa using hj⟩⟩ fun k hk => ?_
  have : b = k := by
    have hk' : some b = some k := hk
    injection hk'
  subst this
  exact ⟨.inl rfl, (Array.getElem?_eq_some_iff.1 hb).1⟩
/-- the first m elements fall away -/
theorem ow_drop {i e z n c m : Nat} {A : Option Addr} {xs : List Value} (S : St w0 w hs) (h : nth hs i = some (ow e z (.slice A n c) n xs)) (hm : m ≤ n) :
    St w0 w (upd hs i (ow e z (.slice (if c = m then A else A.map (·.add (m * z))) (n - m) (c - m)) (n - m) (xs.drop (m * z)))) := by
  obtain ⟨A_, c_, hv, h1, h2, h3, h4⟩ := S.ok h
  cases hv
  have hmn : m * z ≤ n * z := Nat.mul_le_mul_right _ hm
  have hlen : (xs.drop (m * z)).length = (n - m) * z := by rw [List.length_drop, h1, Nat.sub_mul]
  refine S.turn h (keeps_of_below (Below.refl _ _)) _ ⟨_, _, rfl, hlen, by omega, by omega, ?_⟩ fun k hk => ?_
  · rcases h4 with ⟨rfl, rfl⟩ | ⟨g, off, cur, fr, rfl, hg, hfr, hcur, hxs⟩
    · exact .inl ⟨by split <;> rfl, by omega⟩
    · by_cases hcm : c = m
      · subst hcm
        refine .inr ⟨g, off, cur, fr, by simp, hg, hfr, by simp; omega, fun j u hj => ?_⟩
        have : n - c = 0 := by omega
        rw [this, Nat.zero_mul] at hlen
        rw [List.eq_nil_of_length_eq_zero hlen] at hj
        simp at hj
      · refine .inr ⟨g, off + m * z, cur, fr, by simp [hcm, add_mk], hg, hfr, ?_, fun j u hj => ?_⟩
        · have : (c - m) * z = c * z - m * z := Nat.sub_mul ..
          have : m * z ≤ c * z := Nat.mul_le_mul_right _ (by omega)
          omega
        · rw [List.getElem?_drop] at hj
          rw [Nat.add_assoc]
          exact hxs _ _ hj
  · have hk' : Value.ownBlock (.slice A n c) = some k := by
      have hk0 : Value.ownBlock (.slice (if c = m then A else A.map (·.add (m * z))) (n - m) (c - m)) = some k := hk
      rcases h4 with ⟨rfl, rfl⟩ | ⟨g, off, cur, fr, rfl, hg, hfr, hcur, hxs⟩
      · split at hk0 <;> cases hk0
      · split at hk0
        · exact hk0
        · simp only [Option.map_some, add_mk] at hk0; exact hk0
    exact ⟨.inl hk', ((S.own i _ h).2 k hk').2⟩

variable {α : Type} {z : Nat} {enc : α → List Value} {A : Option Addr} {ys : List α}
theorem flat_get (hz : ∀ x, (enc x).length = z) : ∀ (ys : List α) (k : Nat) (u : Value), (ys.flatMap enc)[k]? = some u → ∃ j x i, ys[j]? = some x ∧ (enc x)[i]? = some u ∧ k = j * z + i
  | [], k, u, h => by simp at h
  | y :: ys, k, u, h => by
    rw [List.flatMap_cons] at h
    by_cases hk : k < z
    · rw [List.getElem?_append_left (by rw [hz]; exact hk)] at h
      exact ⟨0, y, k, rfl, h, by simp⟩
    · rw [List.getElem?_append_right (by rw [hz]; omega), hz] at h
      obtain ⟨j, x, i, h1, h2, h3⟩ := flat_get hz ys _ u h
      exact ⟨j + 1, x, i, by simpa using h1, h2, by have := Nat.add_one_mul j z; omega⟩
theorem get_flat (hz : ∀ x, (enc x).length = z) : ∀ (ys : List α) (j : Nat) (x : α) (i : Nat) (u : Value), ys[j]? = some x → (enc x)[i]? = some u → (ys.flatMap enc)[j * z + i]? = some u
  | [], j, x, i, u, h, _ => by simp at h
  | y :: ys, 0, x, i, u, h, h2 => by
    simp at h; subst h
    rw [List.flatMap_cons, Nat.zero_mul, Nat.zero_add, List.getElem?_append_left (List.getElem?_eq_some_iff.1 h2).1]
    exact h2
  | y :: ys, j + 1, x, i, u, h, h2 => by
    rw [List.flatMap_cons, List.getElem?_append_right (by rw [hz]; have := Nat.add_one_mul j z; omega), hz]
    rw [show (j + 1) * z + i - z = j * z + i by have := Nat.add_one_mul j z; omega]
    exact get_flat hz ys j x i u (by simpa using h) h2
theorem flat_len (hz : ∀ x, (enc x).length = z) (ys : List α) : (ys.flatMap enc).length = ys.length * z := by
  induction ys with
  | nil => simp
  | cons y ys ih => rw [List.flatMap_cons, List.length_append, ih, hz, List.length_cons, Nat.add_one_mul]; omega
theorem Sl.fl (h : Sl w z enc A ys) (hz : ∀ x, (enc x).length = z) : Fl w A (ys.flatMap enc) := by
  by_cases hne : ys = []
  · subst hne
    cases A with
    | none => exact .inl ⟨rfl, rfl⟩
    | some a => exact .inr ⟨a, rfl, fun j u hu => by simp at hu⟩
  · obtain ⟨b, o, rfl, hb, hc⟩ := h hne
    refine .inr ⟨_, rfl, fun k u hu => ?_⟩
    obtain ⟨j, x, i, h1, h2, rfl⟩ := flat_get hz ys k u hu
    rw [add_mk, ← Nat.add_assoc]
    exact hc j x h1 i u h2
/-- an own slice reads as a list -/
theorem St.ows {i e c n : Nat} (S : St w0 w hs) (h : nth hs i = some (ow e z (.slice A n c) n (ys.flatMap enc))) (hz : ∀ x, (enc x).length = z) (hzp : 0 < z) : Sl w z enc A ys := fun hne => by
  obtain ⟨A_, c_, hv, h1, h2, h3, h4⟩ := S.ok h
  cases hv
  rcases h4 with ⟨rfl, rfl⟩ | ⟨g, off, cur, fr, rfl, hg, hfr, hcur, hxs⟩
  · have hn0 : n = 0 := by omega
    subst hn0
    rw [flat_len hz, Nat.zero_mul] at h1
    have h0 : ys.length = 0 := by
      rcases Nat.eq_zero_or_pos ys.length with h | h
      · exact h
      · have := Nat.mul_pos h hzp; omega
    exact absurd (List.eq_nil_of_length_eq_zero h0) hne
  · refine ⟨g, off, rfl, (Array.getElem?_eq_some_iff.1 hg).1, fun j x hj i u hu => ?_⟩
    have := hxs _ _ (get_flat hz ys j x i u hj hu)
    rw [← Nat.add_assoc] at this
    simp only [World.cell?, hg]
    simpa using this
end

section
variable {P : Program} {Q : Exit → Act → World → Prop} {w w0 : World} {n0 : Nat} {l : List (Nat × Value)} {o : Oper} {rest : List Oper} {ops : Array Oper} {a : Act} {hs : List Res}
theorem dap (F : Fr n0 a l) (S : St w0 w hs) {t e z by_ : Nat} {x y : Operand} {A Y : Option Addr} {c n m c2 : Nat} {xs news : List Value}
    (ho : o.op = .call { callee := .builtin .append, args := #[x, y], argTypes := #[t, t] }) (hx : evl l x = some (.slice A n c)) (hy : evl l y = some (.slice Y m c2)) {i : Nat} (hi : nth hs i = some (ow e z (.slice A n c) n xs))
    (hY : Fl w Y news) (hl : news.length = m * z) (h1 : ∀ u ∈ news, u.oneCell' = true) (ht : P.underlying t = some (.slice e)) (hI : AI P e z by_ = true) (hz : Nat.blt 0 z = true) {N : Nat} {XS : List Value} (hN : n + m = N) (hX : xs ++ news = XS) (hb : N * by_ ≤ 140737488355328) (h63 : N ≤ 9223372036854775807)
    (hg : o.guard = none) {d : Nat} (hd : o.dst = some d) (hn : Nat.blt d n0 = true)
    (k : ∀ a w' A' c', Fr n0 a ((d, .slice A' N c') :: l) → St w0 w' (upd hs i (ow e z (.slice A' N c') N XS)) → wpList P ops Q rest a w') : wpList P ops Q (o :: rest) a w := by
  subst hN hX
  obtain ⟨A', c', w', hr, hS⟩ := run_app (ty := o.type) (c2 := c2) S hi hY hl h1 ht hI hz hb h63
  refine dv (v := .slice A' (n + m) c') (w' := w') F (fun n a F => ?_) hg hd hn fun a F => k a w' A' c' F hS
  simp [execOp, ho, F.ev hx, F.ev hy, resolve, invoke, builtin, hr]
/-- a string's bytes behind them -/
theorem das (F : Fr n0 a l) (S : St w0 w hs) {t u e by_ : Nat} {x y : Operand} {A : Option Addr} {c n : Nat} {s : ByteArray} {xs : List Value}
    (ho : o.op = .call { callee := .builtin .append, args := #[x, y], argTypes := #[t, u] }) (hx : evl l x = some (.slice A n c)) (hy : evl l y = some (.string s)) {i : Nat} (hi : nth hs i = some (ow e 1 (.slice A n c) n xs))
    (ht : P.underlying t = some (.slice e)) (hu : P.underlying u = some .string) (hI : AI P e 1 by_ = true) {N : Nat} {XS : List Value} (hN : n + s.size = N) (hX : xs ++ byteCells s = XS) (hb : N * by_ ≤ 140737488355328) (h63 : N ≤ 9223372036854775807)
    (hg : o.guard = none) {d : Nat} (hd : o.dst = some d) (hn : Nat.blt d n0 = true)
    (k : ∀ a w' A' c', Fr n0 a ((d, .slice A' N c') :: l) → St w0 w' (upd hs i (ow e 1 (.slice A' N c') N XS)) → wpList P ops Q rest a w') : wpList P ops Q (o :: rest) a w := by
  subst hN hX
  obtain ⟨A', c', w', hr, hS⟩ := run_appx (ty := o.type) S hi (Src.ofString w hu s) ht hI rfl hb h63
  refine dv (v := .slice A' (n + s.size) c') (w' := w') F (fun n a F => ?_) hg hd hn fun a F => k a w' A' c' F hS
  simp [execOp, ho, F.ev hx, F.ev hy, resolve, invoke, builtin, hr]
theorem allflat {α : Type} {enc : α → List Value} (h : ∀ x, ∀ u ∈ enc x, u.oneCell' = true) (ys : List α) : ∀ u ∈ ys.flatMap enc, u.oneCell' = true := fun u hu => by
  obtain ⟨x, _, hx⟩ := List.mem_flatMap.1 hu
  exact h x u hx
end

theorem fold_set : ∀ (l : List Value) (k : Nat) (cells : Array Value), k + l.length ≤ cells.size →
    ((l.zipIdx k).foldl (fun cs (x : Value × Nat) => cs.setIfInBounds (0 + x.2) x.1) cells).size = cells.size ∧
    ∀ i : Nat, ((l.zipIdx k).foldl (fun cs (x : Value × Nat) => cs.setIfInBounds (0 + x.2) x.1) cells)[i]? = if k ≤ i ∧ i < k + l.length then l[i - k]? else cells[i]?
  | [], k, cells, h => ⟨by simp, fun i => by simp; omega⟩
  | v :: l, k, cells, h => by
    simp only [List.length_cons] at h
    simp only [List.zipIdx_cons, List.foldl_cons]
    obtain ⟨h1, h2⟩ := fold_set l (k + 1) (cells.setIfInBounds (0 + k) v) (by simp; omega)
    refine ⟨by rw [h1]; simp, fun i => ?_⟩
    rw [h2 i]
    by_cases h3 : k + 1 ≤ i ∧ i < k + 1 + l.length
    · rw [if_pos h3, if_pos (by simp; omega)]
      rw [show i - k = (i - (k + 1)) + 1 by omega]
      simp
    · rw [if_neg h3]
      by_cases h4 : i = k
      · subst h4
        have h5 : i < cells.size := by omega
        rw [if_pos (by simp)]
        simp [h5]
      · rw [if_neg (by simp; omega), Array.getElem?_setIfInBounds_ne (by omega)]
theorem fold_all (vs cells : Array Value) (h : cells.size = vs.size) : vs.zipIdx.foldl (fun cs (x : Value × Nat) => cs.setIfInBounds (0 + x.2) x.1) cells = vs := by
  obtain ⟨h1, h2⟩ := fold_set vs.toList 0 cells (by simp [h])
  have e : vs.zipIdx.foldl (fun cs (x : Value × Nat) => cs.setIfInBounds (0 + x.2) x.1) cells = (vs.toList.zipIdx 0).foldl (fun cs (x : Value × Nat) => cs.setIfInBounds (0 + x.2) x.1) cells := by
    rw [← Array.foldl_toList]; simp
  rw [e]
  refine Array.ext_getElem? fun i => ?_
  rw [h2 i]
  by_cases hi : i < vs.size
  · rw [if_pos (by simp [hi])]; simp
  · rw [if_neg (by simp; omega), Array.getElem?_eq_none (by omega), Array.getElem?_eq_none (by omega)]

/-- a slice of one element -/
theorem bsOne {P : Program} {t e z b : Nat} {vs : List Value} (ht : P.underlying t = some (.slice e)) (hI : AI P e z b = true) (hl : vs.length = z) (hz : Nat.blt 0 z = true) (hs : Nat.ble z 16777216 = true) (w : World) :
    (Instr.buildSlice t 1 [(0, .agg vs.toArray)].toArray).run P w = .ok (.slice (some ⟨w.heap.size, 0, none⟩) 1 1) (w.alloc (.cells vs.toArray e)) := by
  obtain ⟨inf, zv, h2, h3, h4, h5, h6⟩ := AI.ex hI
  subst h4
  have hz' : 0 < inf.size := by simpa [Nat.blt_eq] using hz
  have hs' : inf.size ≤ 16777216 := Nat.le_of_ble_eq_true hs
  refine run_buildSlice w t e 1 _ vs.toArray inf zv ht h2 h3 (by omega) (by omega) ?_
  have hc : (Value.agg vs.toArray).cells = vs.toArray := rfl
  simp only [Instr.fill, hc]
  rw [if_neg (by simp; omega)]
  congr 1
  simp only [Nat.zero_mul]
  exact fold_all vs.toArray _ (by simp; omega)

theorem St.fl {w0 w : World} {hs : List Res} (S : St w0 w hs) {i b e : Nat} {cs : List Value} (h : nth hs i = some (bk b e cs)) : Fl w (some ⟨b, 0, none⟩) cs := .inr ⟨_, rfl, fun j u hu => by
  rw [add_mk, Nat.zero_add]
  exact S.cell h (by rw [nth_eq]; exact hu)⟩
end Go.Eng
