/- Data in memory: slices that read as lists. -/
import Derived.Test.YtpnhinbhhpeklaaMem
set_option linter.unusedVariables false
set_option linter.unusedSimpArgs false
namespace Go.Eng
open Go.RowKit

/-- The slice value at A reads as xs: each element's cells (z of them) lie one behind the other. -/
def Sl {α : Type} (w : World) (z : Nat) (enc : α → List Value) (A : Option Addr) (xs : List α) : Prop :=
  xs ≠ [] → ∃ b o, A = some ⟨b, o, none⟩ ∧ b < w.heap.size ∧ ∀ j x, xs[j]? = some x → ∀ i u, (enc x)[i]? = some u → w.cell? ⟨b, o + j * z + i, none⟩ = some u

section
variable {α : Type} {w w' w0 : World} {z : Nat} {enc : α → List Value} {A : Option Addr} {xs : List α}
theorem Sl.at_ (h : Sl w z enc A xs) {j : Nat} (hj : j < xs.length) : ∃ b o, A = some ⟨b, o, none⟩ ∧ b < w.heap.size ∧ ∀ i u, (enc xs[j])[i]? = some u → w.cell? ⟨b, o + j * z + i, none⟩ = some u := by
  obtain ⟨b, o, h1, h2, h3⟩ := h (by rintro rfl; simp at hj)
  exact ⟨b, o, h1, h2, h3 j _ (List.getElem?_eq_getElem hj)⟩
theorem Sl.below (h : Sl w z enc A xs) (hb : Below w.heap.size w w') : Sl w' z enc A xs := fun hne => by
  obtain ⟨b, o, h1, h2, h3⟩ := h hne
  exact ⟨b, o, h1, Nat.lt_of_lt_of_le h2 hb.size, fun j x hj i u hu => (hb.cell (p := ⟨b, o + j * z + i, none⟩) h2).trans (h3 j x hj i u hu)⟩
theorem Sl.nil : Sl w z enc A ([] : List α) := fun h => absurd rfl h
theorem Sl.st {hs : List Res} (h : Sl w0 z enc A xs) (S : St w0 w hs) : Sl w z enc A xs := h.below S.bel
theorem Sl.take (h : Sl w z enc A xs) (n : Nat) : Sl w z enc A (xs.take n) := fun hne => by
  obtain ⟨b, o, h1, h2, h3⟩ := h (by rintro rfl; simp at hne)
  refine ⟨b, o, h1, h2, fun j x hj => h3 j x ?_⟩
  rw [List.getElem?_take] at hj
  split at hj
  · exact hj
  · cases hj

/-- an own row of elements -/
theorem St.sl {i b e : Nat} {hs : List Res} (S : St w0 w hs) (h : nth hs i = some (bk b e (xs.flatMap enc))) (hz : ∀ x, (enc x).length = z) : Sl w z enc (some ⟨b, 0, none⟩) xs := fun hne => by
  clear hne
  refine ⟨b, 0, rfl, ((S.own i _ h).2 b rfl).2, fun j x hj k u hu => ?_⟩
  rw [Nat.zero_add]
  refine S.cell h ?_
  rw [nth_eq]
  clear h
  induction xs generalizing j with
  | nil => simp at hj
  | cons y ys ih =>
    have hk : k < z := by rw [← hz x]; exact (List.getElem?_eq_some_iff.1 hu).1
    cases j with
    | zero =>
      simp at hj
      subst hj
      rw [Nat.zero_mul, Nat.zero_add, List.flatMap_cons, List.getElem?_append_left (by rw [hz]; exact hk)]
      exact hu
    | succ j =>
      rw [List.flatMap_cons, List.getElem?_append_right (by rw [hz]; have := Nat.add_one_mul j z; omega), hz]
      have := ih j (by simpa using hj)
      rw [← this]
      congr 1
      have := Nat.add_one_mul j z
      omega
theorem Sl.ofRow {b e : Nat} (h : w.heap[b]? = some (.cells (xs.flatMap enc).toArray e (0, 0))) (hz : ∀ x, (enc x).length = z) : Sl w z enc (some ⟨b, 0, none⟩) xs := fun hne => by
  clear hne
  refine ⟨b, 0, rfl, (Array.getElem?_eq_some_iff.1 h).1, fun j x hj k u hu => ?_⟩
  rw [Nat.zero_add]
  have h2 : ∀ m u, (xs.flatMap enc)[m]? = some u → w.cell? ⟨b, m, none⟩ = some u := fun m u hu => by simp only [World.cell?, h]; simpa using hu
  refine h2 _ _ ?_
  clear h h2
  induction xs generalizing j with
  | nil => simp at hj
  | cons y ys ih =>
    have hk : k < z := by rw [← hz x]; exact (List.getElem?_eq_some_iff.1 hu).1
    cases j with
    | zero =>
      simp at hj
      subst hj
      rw [Nat.zero_mul, Nat.zero_add, List.flatMap_cons, List.getElem?_append_left (by rw [hz]; exact hk)]
      exact hu
    | succ j =>
      rw [List.flatMap_cons, List.getElem?_append_right (by rw [hz]; have := Nat.add_one_mul j z; omega), hz]
      have := ih j (by simpa using hj)
      rw [← this]
      congr 1
      have := Nat.add_one_mul j z
      omega
end

theorem allto {n i : Nat} {p : (j : Nat) → j < n → Prop} (hno : ∀ (j : Nat) (hj : j < n), j < i → p j hj) (hi : i < n) (h : p i hi) : ∀ (j : Nat) (hj : j < n), j < i + 1 → p j hj := fun j hj hlt => by
  by_cases e : j = i
  · subst e; exact h
  · exact hno j hj (by omega)
theorem allmem {α : Type} {l : List α} {p : α → Prop} (h : ∀ (j : Nat) (hj : j < l.length), p l[j]) : ∀ x ∈ l, p x := fun x hx => by
  obtain ⟨j, hj, rfl⟩ := List.getElem_of_mem hx
  exact h j hj

theorem one1 {v : Value} (h : v.oneCell' = true := by rfl) : ∀ u ∈ [v], u.oneCell' = true := fun u hu => by
  simp at hu; subst hu; exact h
end Go.Eng
