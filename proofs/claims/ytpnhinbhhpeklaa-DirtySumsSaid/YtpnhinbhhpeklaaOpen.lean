/- What a row's reading of its arguments tells of memory: slices, structs and arrays of numbers as lists. -/
import Derived.Test.YtpnhinbhhpeklaaData
import Derived.ProofKit
import Derived.SizedLaws
import Derived.Deep.Slices
import Derived.OpenShut
set_option linter.unusedVariables false
set_option linter.unusedSimpArgs false
namespace Go.Eng
open Go.RowKit Go.ChangeShapes Go.WideShapes

section
variable {H : Type} {he : TypeId × Value → H} {P : Program} {w : World} {base : Nat} {spare : Nat → Bool} {held : Bool}

/-- what a reading weighs -/
def Wt (P : Program) (t : TypeId) (d : DataW H) : Prop := ∀ m ∈ d.weights P t, m ≤ reachBytes

theorem mem_weightsAll {e : TypeId} : ∀ {l : List (DataW H)} {d : DataW H}, d ∈ l → ∀ m ∈ d.weights P e, m ∈ DataW.weightsAll P e l
  | x :: l, d, h, m, hm => by
    simp only [DataW.weightsAll, List.mem_append]
    rcases List.mem_cons.1 h with rfl | h
    · exact .inl hm
    · exact .inr (mem_weightsAll h m hm)

theorem st_field {t : TypeId} {fs : Array Field} {fuel : Nat} {cs : List Value} {x : DataW H × List MemPlace} (ht : P.underlying t = some (.struct fs)) (h : DataW.trod he P w base spare held fuel t cs = some x) (hw : Wt P t x.1)
    (i : Nat) (ft off z : Nat) (f : Field) (hf : fs[i]? = some f) (h1 : f.type = ft) (h2 : f.offset = off) (h3 : P.cellsOf ft = z) : ∃ n y, DataW.trod he P w base spare held n ft ((cs.drop off).take z) = some y ∧ Wt P ft y.1 := by
  subst h1 h2 h3
  obtain ⟨xs, n, rfl, rfl, hl, hlen, hx⟩ := DataW.trod_struct ht h
  have hi : i < fs.size := (Array.getElem?_eq_some_iff.1 hf).1
  have h1 := hx i f hf
  rw [List.getElem?_eq_getElem (by omega)] at h1
  refine ⟨n, _, h1, fun m hm => hw m ?_⟩
  simp only [DataW.weights, ht]
  exact DataW.weights_mem_each (j := i) (by simp [hf]) (by simp [List.getElem?_eq_getElem (show i < xs.length by omega)]) m hm
theorem st_len {t : TypeId} {fs : Array Field} {fuel : Nat} {cs : List Value} {x : DataW H × List MemPlace} (ht : P.underlying t = some (.struct fs)) (h : DataW.trod he P w base spare held fuel t cs = some x) : cs.length = P.cellsOf t := by
  obtain ⟨xs, n, rfl, rfl, hl, hlen, hx⟩ := DataW.trod_struct ht h
  exact hl

theorem mapM_each {α β : Type} {f : α → Option β} : ∀ {l : List α} {r : List β}, l.mapM f = some r → ∀ a ∈ l, ∃ b, f a = some b
  | x :: l, r, h, a, ha => by
    simp only [List.mapM_cons, Option.pure_def, Option.bind_eq_bind, Option.bind_eq_some_iff] at h
    obtain ⟨b, hb, r', hr, _⟩ := h
    rcases List.mem_cons.1 ha with rfl | ha
    · exact ⟨b, hb⟩
    · exact mapM_each hr a ha

theorem op_arr {t e n : Nat} {k : IntKind} {fuel : Nat} {cs : List Value} {x : DataW H × List MemPlace} (ht : P.underlying t = some (.array n e)) (hk : P.underlying e = some (.int k)) (hc : P.cellsOf e = 1) (hn : P.cellsOf t = n)
    (h : DataW.trod he P w base spare held fuel t cs = some x) : ∃ l : List Int, l.length = n ∧ cs = l.map (Value.int k) ∧ ∀ m ∈ l, (Lit.int k m).wf = true := by
  obtain ⟨xs, m, _, _, hl, hxl, hp⟩ := DataW.trod_array ht h
  rw [hc] at hp
  have key : ∀ i, i < n → ∃ v, cs[i]? = some (.int k v) ∧ (Lit.int k v).wf = true := by
    intro i hi
    have hy := hp i hi
    rw [List.getElem?_eq_getElem (by omega)] at hy
    obtain ⟨v, hv, _, hwf⟩ := DataW.trod_int hk hy
    refine ⟨v, ?_, hwf⟩
    have : ((cs.drop (i * 1)).take 1)[0]? = some (.int k v) := by rw [hv]; rfl
    simpa [List.getElem?_take, List.getElem?_drop] using this
  obtain ⟨f, hf⟩ := Deep.choose_lt (α := Int) (p := fun i v => cs[i]? = some (.int k v) ∧ (Lit.int k v).wf = true) key
  refine ⟨(List.range n).map f, by simp, ?_, ?_⟩
  · refine List.ext_getElem? fun i => ?_
    by_cases hi : i < n
    · rw [(hf i hi).1]; simp [hi]
    · rw [List.getElem?_eq_none (by omega), List.getElem?_eq_none (by simp; omega)]
  · intro v hv
    obtain ⟨i, hi, rfl⟩ := List.mem_map.1 hv
    exact (hf i (List.mem_range.1 hi)).2

theorem addr_add {w : World} {a : Addr} {v : Value} {i : Nat} (h : ∃ u, w.cell? a = some u) : a = ⟨a.block, a.off, none⟩ ∧ a.block < w.heap.size := by
  obtain ⟨u, h⟩ := h
  unfold World.cell? at h
  split at h
  · rename_i c _ _ hb
    refine ⟨?_, (Array.getElem?_eq_some_iff.1 hb).1⟩
    obtain ⟨b, o, s⟩ := a
    cases s with
    | none => rfl
    | some s => simp at h
  · cases h

theorem add_none (b o n : Nat) : (⟨b, o, none⟩ : Addr).add n = ⟨b, o + n, none⟩ := by
  unfold Addr.add
  by_cases h : n = 0 <;> simp [h]

/-- A slice whose elements read: as a list. -/
theorem op_sl {α : Type} {enc : α → List Value} {z : Nat} {t e : TypeId} {fuel : Nat} {cs : List Value} {x : DataW H × List MemPlace} (G : α → Prop) (ht : P.underlying t = some (.slice e)) (hz : P.cellsOf e = z) (hzp : 0 < z)
    (hel : ∀ n cs y, DataW.trod he P w base spare held n e cs = some y → Wt P e y.1 → ∃ a, cs = enc a ∧ G a)
    (h : DataW.trod he P w base spare held fuel t cs = some x) (hw : Wt P t x.1) :
    ∃ A xs c, cs = [.slice A xs.length c] ∧ xs.length ≤ c ∧ Sl w z enc A xs ∧ (∀ a ∈ xs, G a) ∧ xs.length * P.bytesOf e ≤ reachBytes := by
  rcases Deep.open_slice ht h with ⟨rfl, rfl⟩ | ⟨a, len, cap, m, n, D, Pl, rfl, hb, hlc, hcm, rfl, rfl, hx⟩
  · exact ⟨none, [], 0, rfl, Nat.le_refl _, Sl.nil, by simp, by simp⟩
  have hmlen : len ≤ (if spare a.block = true then cap else len) := by split <;> omega
  have hW : ∀ i, i < len → Wt P e (D i) := by
    intro i hi m hm
    refine hw m ?_
    simp only [DataW.weights, ht, List.mem_cons, List.mem_append]
    exact .inr (.inl (mem_weightsAll (List.mem_map.2 ⟨i, List.mem_range.2 hi, rfl⟩) m hm))
  have hW0 : len * P.bytesOf e ≤ reachBytes := by
    have := hw ((((List.range len).map D).length + ((List.range ((if spare a.block = true then cap else len) - len)).map fun j => D (len + j)).length) * P.bytesOf e) (by simp [DataW.weights, ht])
    rw [List.length_map, List.length_range] at this
    exact Nat.le_trans (Nat.mul_le_mul_right _ (Nat.le_add_right _ _)) this
  have key : ∀ i, i < len → ∃ a', (∃ cs', w.cells? base (a.add (i * z)) z = some cs' ∧ cs' = enc a') ∧ G a' := by
    intro i hi
    obtain ⟨cs', h1, h2⟩ := hx i (by omega)
    rw [hz] at h1
    obtain ⟨a', h3, h4⟩ := hel _ _ _ h2 (hW i hi)
    exact ⟨a', ⟨cs', h1, h3⟩, h4⟩
  by_cases hl0 : len = 0
  · subst hl0
    exact ⟨some a, [], cap, rfl, Nat.zero_le _, Sl.nil, by simp, by simp⟩
  obtain ⟨a0, _⟩ := key 0 (by omega)
  haveI : Inhabited α := ⟨a0⟩
  obtain ⟨f, hf⟩ := Deep.choose_lt (α := α) (p := fun i a' => (∃ cs', w.cells? base (a.add (i * z)) z = some cs' ∧ cs' = enc a') ∧ G a') key
  have hlen : ((List.range len).map f).length = len := by simp
  obtain ⟨⟨cs0, hc0, e0⟩, _⟩ := hf 0 (by omega)
  obtain ⟨_, hl1, hcell0⟩ := World.cells?_some hc0
  have hcell00 := hcell0 0 (by omega)
  have hsome : ∃ u, w.cell? a = some u := by
    refine ⟨cs0[0]'(by omega), ?_⟩
    rw [show (a.add (0 * z)).add 0 = a by simp [Addr.add]] at hcell00
    rw [hcell00, List.getElem?_eq_getElem (by omega)]
  obtain ⟨ha, hab⟩ := addr_add (v := .bool true) (i := 0) hsome
  refine ⟨some a, (List.range len).map f, cap, by rw [hlen], by rw [hlen]; exact hlc, fun _ => ⟨a.block, a.off, congrArg some ha, hab, ?_⟩, ?_, by rw [hlen]; exact hW0⟩
  · intro j x hj i u hu
    have hjl : j < len := by
      have := (List.getElem?_eq_some_iff.1 hj).1
      simpa using this
    have hxj : x = f j := by
      simp [hjl] at hj
      exact hj.symm
    subst hxj
    obtain ⟨⟨cs', hc', e'⟩, _⟩ := hf j hjl
    obtain ⟨_, hl', hcell'⟩ := World.cells?_some hc'
    have hiz : i < z := by
      have := (List.getElem?_eq_some_iff.1 hu).1
      rw [← e', hl'] at this
      exact this
    have := hcell' i hiz
    rw [e', hu] at this
    rw [← this]
    congr 1
    rw [ha, add_none, add_none]
  · intro b hb
    obtain ⟨i, hi, rfl⟩ := List.mem_map.1 hb
    exact (hf i (List.mem_range.1 hi)).2
end
end Go.Eng
