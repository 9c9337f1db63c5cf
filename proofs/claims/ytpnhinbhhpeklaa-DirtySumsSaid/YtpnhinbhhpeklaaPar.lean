/- A region that draws its order and lays memory: every order at once. The first m operations lay new blocks at most; the others follow in order. -/
import Derived.Test.YtpnhinbhhpeklaaMem
import Derived.StillTail
set_option linter.unusedVariables false
set_option linter.unusedSimpArgs false
namespace Go.Eng
open Go.RowKit

/-- What is known of an operation that has run: the slots that it speaks of, the blocks that its value owns, the fact. -/
structure HOp where
  supp : List Nat
  own : Value → List Nat
  asn : Act → World → Prop

def depsOn (o : Oper) : List Nat := (o.after.toList.filter fun e => Region.binds .any e).map (·.on)

/-- the look over a region: m head operations; cl: those that an operation stands behind -/
def parB (ops : List Oper) (m n : Nat) (cl : List (List Nat)) (supp : List (List Nat)) (l0 : List Nat) : Bool :=
  (List.range m).all fun i => match ops[i]? with
    | none => false
    | some o => o.guard.isNone && (match o.dst with
        | none => false
        | some d => Nat.blt d n && !l0.contains d && (List.range m).all fun j => i == j || (match ops[j]? with
            | some oj => oj.dst != some d && (!(supp.getD j []).contains d || (cl.getD j []).contains i)
            | none => false)) &&
      (depsOn o).all (· < i) && (cl.getD i []).all fun j => (depsOn o).contains j || (depsOn o).any fun k => (cl.getD k []).contains j

section
variable {P : Program} {Q : Exit → Act → World → Prop} {w : World} {n : Nat} {l0 : List (Nat × Value)} {l' : List Oper} {m : Nat} {cl supp : List (List Nat)} {H : Nat → HOp}

theorem parB_spec (hB : parB l' m n cl supp (l0.map Prod.fst) = true) {i : Nat} (hi : i < m) : ∃ o d, l'[i]? = some o ∧ o.guard = none ∧ o.dst = some d ∧ (d ∉ l0.map Prod.fst ∧ d < n) ∧
    (∀ j, j < m → i ≠ j → ∃ oj, l'[j]? = some oj ∧ oj.dst ≠ some d ∧ (d ∈ supp.getD j [] → i ∈ cl.getD j [])) ∧ (∀ e ∈ o.after, Region.binds .any e = true → e.on < i) ∧
    (∀ j ∈ cl.getD i [], (∃ e ∈ o.after, Region.binds .any e = true ∧ e.on = j) ∨ ∃ e ∈ o.after, Region.binds .any e = true ∧ j ∈ cl.getD e.on []) := by
  have h := List.all_eq_true.1 hB i (List.mem_range.2 hi)
  cases ho : l'[i]? with
  | none => simp [ho] at h
  | some o =>
    simp only [ho] at h
    cases hd : o.dst with
    | none => simp [hd] at h
    | some d =>
      simp only [hd, Bool.and_eq_true, Option.isNone_iff_eq_none, Bool.not_eq_true', List.all_eq_true, List.mem_range] at h
      obtain ⟨⟨⟨hg, ⟨hdn, hl⟩, hj⟩, hdep⟩, hcl⟩ := h
      refine ⟨o, d, rfl, hg, hd, ⟨by simpa using hl, by simpa [Nat.blt_eq] using hdn⟩, fun j hjm hne => ?_, fun e he hb => ?_, fun j hjc => ?_⟩
      · have := hj j hjm
        have hne' : (i == j) = false := by simpa using hne
        cases hoj : l'[j]? with
        | none => simp [hne', hoj] at this
        | some oj =>
          simp only [hne', hoj, Bool.false_or, Bool.and_eq_true, bne_iff_ne, ne_eq, Bool.or_eq_true, Bool.not_eq_true'] at this
          refine ⟨oj, rfl, this.1, fun hs => ?_⟩
          rcases this.2 with h' | h'
          · simp at h'; exact absurd hs h'
          · simpa using h'
      · have := hdep e.on (by simp only [depsOn, List.mem_map, List.mem_filter]; exact ⟨e, ⟨Array.mem_toList_iff.2 he, hb⟩, rfl⟩)
        simpa using this
      · have := hcl j hjc
        simp only [Bool.or_eq_true, List.contains_iff_mem, List.any_eq_true] at this
        rcases this with h' | ⟨k, hk, hjk⟩
        · simp only [depsOn, List.mem_map, List.mem_filter] at h'
          obtain ⟨e, ⟨he, hb⟩, rfl⟩ := h'
          exact .inl ⟨e, Array.mem_toList_iff.1 he, hb, rfl⟩
        · simp only [depsOn, List.mem_map, List.mem_filter] at hk
          obtain ⟨e, ⟨he, hb⟩, rfl⟩ := hk
          exact .inr ⟨e, Array.mem_toList_iff.1 he, hb, hjk⟩

/-- the slot that an operation writes -/
def dsl (l' : List Oper) (i : Nat) : Nat := ((l'[i]?).bind (·.dst)).getD 0

structure PJ (P : Program) (w : World) (n : Nat) (l0 : List (Nat × Value)) (l' : List Oper) (m : Nat) (H : Nat → HOp) (listed : Array Bool) (a : Act) (w1 : World) : Prop where
  inv : HeadInv .any l'.toArray m listed
  bel : Below w.heap.size w w1
  fr : Fr n a l0
  asn : ∀ i, i < m → listed.getD i false = true → (H i).asn a w1
  own : ∀ i, i < m → listed.getD i false = true → ∀ b ∈ (H i).own (a.tmps.getD (dsl l' i) undef), w.heap.size ≤ b ∧ b < w1.heap.size
  sep : ∀ i j, i < m → j < m → listed.getD i false = true → listed.getD j false = true → i ≠ j → ∀ b ∈ (H i).own (a.tmps.getD (dsl l' i) undef), b ∉ (H j).own (a.tmps.getD (dsl l' j) undef)

theorem cl_listed (hB : parB l' m n cl supp (l0.map Prod.fst) = true) {listed : Array Bool} (inv : HeadInv .any l'.toArray m listed) :
    ∀ i, i < m → (∀ o, l'[i]? = some o → ∀ e ∈ o.after, Region.binds .any e = true → listed.getD e.on false = true) → ∀ j ∈ cl.getD i [], listed.getD j false = true := by
  intro i
  induction i using Nat.strongRecOn with
  | _ i ih =>
    intro hi hd j hj
    obtain ⟨o, d, ho, _, _, _, _, h5, h6⟩ := parB_spec hB hi
    rcases h6 j hj with ⟨e, he, hb, rfl⟩ | ⟨e, he, hb, hjk⟩
    · exact hd o ho e he hb
    · have hlt := h5 e he hb
      refine ih e.on hlt (by omega) (fun o' ho' e' he' hb' => ?_) j hjk
      exact inv.closed e.on o' (by simpa using ho') (hd o ho e he hb) e' he' hb'

theorem Fr.put_out {a : Act} (F : Fr n a l0) {d : Nat} (hd : d ∉ l0.map Prod.fst) (v : Value) : Fr n (a.put (some d) v) l0 := by
  refine ⟨by simp [Act.put, F.size], by simp [Act.put, F.defers], fun i u h => ?_⟩
  have hne : d ≠ i := by
    rintro rfl
    apply hd
    clear hd F
    induction l0 with
    | nil => cases h
    | cons x xs ih =>
      obtain ⟨k, y⟩ := x
      simp only [look] at h
      cases hb : Nat.beq k d with
      | true => simp [Nat.eq_of_beq_eq_true hb]
      | false => rw [hb] at h; simp [ih h]
  simp only [Act.put]
  rw [Array.getElem?_setIfInBounds_ne hne]
  exact F.get i u h

theorem par {id : Nat} (m : Nat) (cl supp : List (List Nat)) (l0 : List (Nat × Value)) (H : Nat → HOp) {a : Act} (F : Fr n a l0) (hm : P.follows .mixedOrders = true)
    (hB : parB l' m n cl supp (l0.map Prod.fst) = true)
    (hT : m = l'.length ∨ (m < l'.length ∧ Region.sinkB .any l'.toArray m = true ∧ Region.chainB .any l'.toArray m = true))
    (hS : Region.seqB .any l'.toArray (l'.drop m).length m ((Array.replicate m true) ++ Array.replicate (l'.length - m) false) = true)
    (hper : ∀ i, i < m → ∀ a w1 w2, Below w1.heap.size w1 w2 → (H i).asn a w1 → (H i).asn a w2)
    (hsup : ∀ i, i < m → ∀ a w d v, d ∉ supp.getD i [] → (H i).asn a w → (H i).asn (a.put (some d) v) w)
    (hrun : ∀ i, i < m → ∀ o, l'[i]? = some o → ∀ a w1, Below w.heap.size w w1 → Fr n a l0 → (∀ j ∈ cl.getD i [], (H j).asn a w1) →
      o.wp P a w1 (fun a' w2 => ∃ v, a' = a.put o.dst v ∧ Below w1.heap.size w1 w2 ∧ (H i).asn a' w2 ∧ ∀ b ∈ (H i).own v, w1.heap.size ≤ b ∧ b < w2.heap.size) Q)
    (hend : ∀ a w1, PJ P w n l0 l' m H (Array.replicate m true ++ Array.replicate (l'.length - m) false) a w1 → wpList P l'.toArray Q (l'.drop m) a w1) : (Code.region id l'.toArray true).wp P Q a w := by
  have hml : m ≤ l'.length := by rcases hT with h | h <;> omega
  refine wp_region_any hm ?_
  have key : ∀ (c : Nat) (listed : Array Bool) (a : Act) (w1 : World), ((List.range m).filter fun i => listed.getD i true == false).length = c → PJ P w n l0 l' m H listed a w1 → wpAny P .any l'.toArray Q (c + (l'.length - m)) listed a w1 := by
    intro c
    induction c with
    | zero =>
      intro listed a w1 hc J
      have hall : ∀ i, i < m → listed.getD i true = true := by
        intro i hi
        have := List.filter_eq_nil_iff.1 (List.eq_nil_of_length_eq_zero hc) i (List.mem_range.2 hi)
        simpa using this
      have hl : listed = Array.replicate m true ++ Array.replicate (l'.length - m) false := by
        refine Array.ext_getElem? fun i => ?_
        have hsz : listed.size = l'.length := by simpa using J.inv.size
        rcases Nat.lt_or_ge i m with h | h
        · have h1 := hall i h
          have hi : i < listed.size := by omega
          simp only [Array.getD_eq_getD_getElem?, Array.getElem?_eq_getElem hi] at h1 ⊢
          simp at h1
          rw [Array.getElem?_append_left (by simpa using h)]
          simp [h, h1]
        · rcases Nat.lt_or_ge i l'.length with h' | h'
          · have h1 := J.inv.tail i h (by simpa using h')
            have hi : i < listed.size := by omega
            simp only [Array.getD_eq_getD_getElem?, Array.getElem?_eq_getElem hi] at h1 ⊢
            simp at h1
            rw [Array.getElem?_append_right (by simpa using h)]
            have hlt : i - m < l'.length - m := by omega
            simp [h1, hlt]
          · rw [Array.getElem?_eq_none (by omega), Array.getElem?_eq_none (by simp; omega)]
      subst hl
      have hd := hend a w1 J
      rw [Nat.zero_add, show l'.length - m = (l'.drop m).length by simp]
      exact wpAny_of_seq (l'.drop m) m _ a w1 (fun j => by simp) (by simpa using hS) hd
    | succ c ih =>
      intro listed a w1 hc J
      have hsz : listed.size = l'.length := by simpa using J.inv.size
      -- there is an unlisted head operation
      have hex : ∃ i, i < m ∧ listed.getD i true = false := by
        have : 0 < ((List.range m).filter fun i => listed.getD i true == false).length := by omega
        obtain ⟨i, hi⟩ := List.exists_mem_of_length_pos this
        simp at hi
        exact ⟨i, hi.1, by simpa using hi.2⟩
      have hready : ∀ i, i ∈ Region.ready .any l'.toArray listed → i < m := by
        intro i hi
        obtain ⟨hun, oi, hoi, _⟩ := mem_ready.1 hi
        rcases Nat.lt_or_ge i m with h | h
        · exact h
        · rcases hT with h' | ⟨h', h1, h2⟩
          · have : i < l'.length := by
              have := (Array.getElem?_eq_some_iff.1 hoi).1
              simpa using this
            omega
          · obtain ⟨k, hk, hku⟩ := hex
            exact absurd hi (tail_waits h1 h2 (by simpa using h') J.inv (m - k) k rfl hk hku i h)
      have hne : Region.ready .any l'.toArray listed ≠ [] := by
        obtain ⟨i, hi, hu⟩ := hex
        -- the least one
        have : ∃ i, (i < m ∧ listed.getD i true = false) ∧ ∀ j, j < i → listed.getD j true = true := by
          induction i using Nat.strongRecOn with
          | _ i ihi =>
            by_cases hj : ∃ j, j < i ∧ listed.getD j true = false
            · obtain ⟨j, hji, hju⟩ := hj
              exact ihi j hji (by omega) hju
            · refine ⟨i, ⟨hi, hu⟩, fun j hji => ?_⟩
              cases hb : listed.getD j true with
              | true => rfl
              | false => exact absurd ⟨j, hji, hb⟩ hj
        obtain ⟨i, ⟨hi, hu⟩, hmin⟩ := this
        obtain ⟨o, d, ho, _, _, _, _, h5, _⟩ := parB_spec hB hi
        intro hnil
        have hmem : i ∈ Region.ready .any l'.toArray listed := by
          refine mem_ready.2 ⟨hu, o, by simpa using ho, fun e he hb => ?_⟩
          have hlt := h5 e he hb
          have := hmin e.on hlt
          have hi' : e.on < listed.size := by omega
          simp only [Array.getD_eq_getD_getElem?, Array.getElem?_eq_getElem hi'] at this ⊢
          simpa using this
        rw [hnil] at hmem; cases hmem
      rw [show c + 1 + (l'.length - m) = (c + (l'.length - m)) + 1 by omega]
      refine ⟨fun h => absurd h hne, fun i hi => ?_⟩
      have him := hready i hi
      obtain ⟨hun, oi, hoi, hdeps⟩ := mem_ready.1 hi
      obtain ⟨o, d, ho, hg, hd, ⟨hl0, hdn⟩, hoth, h5, h6⟩ := parB_spec hB him
      have hoo : oi = o := by
        have : l'[i]? = some oi := by simpa using hoi
        rw [ho] at this; exact (Option.some.inj this).symm
      subst hoo
      have hcl := cl_listed hB J.inv i him (fun o' ho' e he hb => by
        rw [ho] at ho'; cases ho'
        exact hdeps e he hb)
      have hclm : ∀ j ∈ cl.getD i [], j < m := by
        have : ∀ i, i < m → ∀ j ∈ cl.getD i [], j < m := by
          intro i
          induction i using Nat.strongRecOn with
          | _ i ihi =>
            intro hi j hj
            obtain ⟨o, d, ho, _, _, _, _, h5, h6⟩ := parB_spec hB hi
            rcases h6 j hj with ⟨e, he, hb, rfl⟩ | ⟨e, he, hb, hjk⟩
            · have := h5 e he hb; omega
            · have := h5 e he hb
              exact ihi e.on this (by omega) j hjk
        exact this i him
      have hw := hrun i him oi ho a w1 J.bel J.fr (fun j hj => J.asn j (hclm j hj) (hcl j hj))
      have hunF : listed.getD i false = false := getD_both hun
      have hstep : oi.wp P a w1 (wpAny P .any l'.toArray Q (c + (l'.length - m)) (listed.setIfInBounds i true)) Q := by
        refine Oper.wp_mono (fun a' w2 hh => ?_) hw
        obtain ⟨v, rfl, hb, hasn, hown⟩ := hh
        rw [hd] at hasn ⊢
        have hset : ∀ j, j ≠ i → (listed.setIfInBounds i true).getD j false = listed.getD j false := fun j hj => getD_set_ne false (Ne.symm hj)
        -- slots of the others
        have hslot : ∀ j, j < m → j ≠ i → (a.put (some d) v).tmps.getD (dsl l' j) undef = a.tmps.getD (dsl l' j) undef := by
          intro j hj hji
          obtain ⟨oj, hoj, hdj, _⟩ := hoth j hj (Ne.symm hji)
          obtain ⟨oj', dj, hoj', _, hdj', _⟩ := parB_spec hB hj
          rw [hoj] at hoj'; cases hoj'
          have hne' : d ≠ dj := by rintro rfl; exact hdj hdj'
          have hdsl : dsl l' j = dj := by simp [dsl, hoj, hdj']
          rw [hdsl]
          simp only [Act.put, Array.getD_eq_getD_getElem?]
          rw [Array.getElem?_setIfInBounds_ne hne']
        have hdsl : dsl l' i = d := by simp [dsl, ho, hd]
        have hslotI : ∀ x, x ∈ (H i).own ((a.put (some d) v).tmps.getD (dsl l' i) undef) → w1.heap.size ≤ x ∧ x < w2.heap.size := by
          intro x hx
          rw [hdsl] at hx
          simp only [Act.put, Array.getD_eq_getD_getElem?] at hx
          rw [Array.getElem?_setIfInBounds_self_of_lt (by rw [J.fr.size]; exact hdn)] at hx
          exact hown x hx
        have hcount : ((List.range m).filter fun k => (listed.setIfInBounds i true).getD k true == false).length = c := by
          have hsz' : i < listed.size := by omega
          have e : ∀ k, ((listed.setIfInBounds i true).getD k true == false) = ((listed.getD k true == false) && !(k == i)) := by
            intro k
            by_cases hk : k = i
            · subst hk; simp [hsz']
            · rw [getD_set_ne true (Ne.symm hk)]; simp [hk]
          have e2 : ((List.range m).filter fun k => (listed.setIfInBounds i true).getD k true == false) = ((List.range m).filter fun k => listed.getD k true == false).filter fun k => !(k == i) := by
            rw [List.filter_filter]
            congr 1
            funext k
            rw [e k, Bool.and_comm]
          rw [e2]
          have hmem : i ∈ (List.range m).filter fun k => listed.getD k true == false := List.mem_filter.2 ⟨List.mem_range.2 him, by rw [hun]; rfl⟩
          have hnd : ((List.range m).filter fun k => listed.getD k true == false).Nodup := List.Pairwise.filter _ List.nodup_range
          have h1 : (((List.range m).filter fun k => listed.getD k true == false).filter fun k => !(k == i)) = ((List.range m).filter fun k => listed.getD k true == false).erase i := by
            rw [hnd.erase_eq_filter]; rfl
          rw [h1, List.length_erase_of_mem hmem]; omega
        refine ih _ _ _ hcount ⟨J.inv.set hi him, J.bel.trans (hb.mono J.bel.size), J.fr.put_out hl0 v, ?_, ?_, ?_⟩
        · intro j hj hjl
          by_cases hji : j = i
          · subst hji; exact hasn
          · rw [hset j hji] at hjl
            refine hsup j hj _ _ d v ?_ (hper j hj _ _ _ hb (J.asn j hj hjl))
            intro hds
            obtain ⟨oj, hoj, _, hcj⟩ := hoth j hj (Ne.symm hji)
            have := cl_listed hB J.inv j hj (fun o' ho' e he hb' => J.inv.closed j o' (by simpa using ho') hjl e he hb') i (hcj hds)
            rw [hunF] at this; cases this
        · intro j hj hjl b hbm
          by_cases hji : j = i
          · subst hji
            have := hslotI b hbm
            exact ⟨Nat.le_trans J.bel.size this.1, this.2⟩
          · rw [hset j hji] at hjl
            rw [hslot j hj hji] at hbm
            have := J.own j hj hjl b hbm
            exact ⟨this.1, Nat.lt_of_lt_of_le this.2 hb.size⟩
        · intro j k hj hk hjl hkl hne' b hbj hbk
          by_cases hji : j = i
          · subst hji
            have h1 := hslotI b hbj
            rw [hset k (Ne.symm hne')] at hkl
            rw [hslot k hk (Ne.symm hne')] at hbk
            have := J.own k hk hkl b hbk
            omega
          · rw [hset j hji] at hjl
            rw [hslot j hj hji] at hbj
            by_cases hki : k = i
            · subst hki
              have h1 := hslotI b hbk
              have := J.own j hj hjl b hbj
              omega
            · rw [hset k hki] at hkl
              rw [hslot k hk hki] at hbk
              exact J.sep j k hj hk hjl hkl hne' b hbj hbk
      unfold wpOp
      simp only [hoi, wanted_none hg, if_true]
      exact .inl hstep
  have h0 := key m (Array.replicate l'.length false) a w.drew (by
    rw [List.filter_eq_self.2]
    · simp
    · intro i hi
      have : i < l'.length := by have := List.mem_range.1 hi; omega
      simp [this]) ⟨⟨by simp, fun j oj hj hl => (by rw [getD_replicate_false] at hl; cases hl), fun t _ ht => getD_in (by simpa using ht) (getD_replicate_false _ _)⟩, (Below.refl _ _).drew, F, fun i _ h => (by rw [getD_replicate_false] at h; cases h), fun i _ h => (by rw [getD_replicate_false] at h; cases h), fun i j _ _ h => (by rw [getD_replicate_false] at h; cases h)⟩
  rw [show m + (l'.length - m) = l'.length by omega] at h0
  simpa using h0

theorem PJ.get {a : Act} {w1 : World} (J : PJ P w n l0 l' m H (Array.replicate m true ++ Array.replicate (l'.length - m) false) a w1) {i : Nat} (hi : i < m) : (H i).asn a w1 := J.asn i hi (by simp [Array.getD_eq_getD_getElem?, Array.getElem?_append_left, hi])
end

/-! ### the specifications of head operations -/
structure HS where
  supp : List Nat
  own : Value → List Nat
  asn : Act → World → Prop
  per : ∀ a w1 w2, Below w1.heap.size w1 w2 → asn a w1 → asn a w2
  sup : ∀ a w d v, d ∉ supp → asn a w → asn (a.put (some d) v) w

def HS.h (x : HS) : HOp := ⟨x.supp, x.own, x.asn⟩
def hs0 : HS := ⟨[], fun _ => [], fun _ _ => True, fun _ _ _ _ _ => trivial, fun _ _ _ _ _ _ => trivial⟩

theorem put_getD {a : Act} {d e : Nat} {v : Value} (h : e ≠ d) : (a.put (some d) v).tmps.getD e undef = a.tmps.getD e undef := by
  simp only [Act.put, Array.getD_eq_getD_getElem?]
  rw [Array.getElem?_setIfInBounds_ne (Ne.symm h)]

def tmpsOf : List Operand → List Nat
  | [] => []
  | .tmp t :: l => t :: tmpsOf l
  | _ :: l => tmpsOf l
theorem mem_tmpsOf {t : Nat} : ∀ {l : List Operand}, .tmp t ∈ l → t ∈ tmpsOf l
  | x :: l, h => by
    rcases List.mem_cons.1 h with e | h'
    · subst e; simp [tmpsOf]
    · cases x <;> simp [tmpsOf, mem_tmpsOf h']
def notSel : Op → Bool
  | .select .. => false
  | _ => true
theorem exec_put {o : Oper} (hs : notSel o.op = true) {a : Act} {d : Nat} {v : Value} (h : d ∉ tmpsOf o.op.operands.toList) : execOp (a.put (some d) v).eval o = execOp a.eval o := by
  refine execOp_congr o (fun cs b e => by rw [e] at hs; cases hs) fun x hxm => ?_
  refine Act.eval_put fun d' hd' => ?_
  cases hd'
  rintro rfl
  exact h (mem_tmpsOf (Array.mem_toList_iff.2 hxm))

def dof (o : Oper) : Nat := o.dst.getD 0
/-- an operation that reads at most: its answer stays as memory grows -/
def hsP (P : Program) (o : Oper) : HS where
  supp := dof o :: tmpsOf o.op.operands.toList
  own := fun _ => []
  asn := fun a w => notSel o.op = true ∧ ∀ w2, Below w.heap.size w w2 → (execOp a.eval o).run P w2 = .ok (.value (a.tmps.getD (dof o) undef)) w2
  per := fun a w1 w2 hb h => ⟨h.1, fun w3 hb3 => h.2 w3 (hb.trans (hb3.mono hb.size))⟩
  sup := fun a w e v he h => by
    simp only [List.mem_cons, not_or] at he
    refine ⟨h.1, fun w2 hb => ?_⟩
    rw [exec_put h.1 he.2, put_getD (Ne.symm he.1)]
    exact h.2 w2 hb

def blkOf : Value → Nat
  | .pointer (some p) => p.block
  | .slice (some p) _ _ => p.block
  | _ => 0
/-- an operation that lays a row: mk: the value of its block; cs: its cells, off the operands xs -/
def hsB (o : Oper) (e : Nat) (mk : Nat → Value) (xs : List Operand) (cs : List Value → List Value) : HS where
  supp := dof o :: tmpsOf xs
  own := fun v => [blkOf v]
  asn := fun a w => ∃ b, a.tmps.getD (dof o) undef = mk b ∧ blkOf (mk b) = b ∧ w.heap[b]? = some (.cells (cs (xs.map a.eval)).toArray e (0, 0))
  per := fun a w1 w2 hb ⟨b, h1, h2, h3⟩ => ⟨b, h1, h2, (hb.block b (Array.getElem?_eq_some_iff.1 h3).1).trans h3⟩
  sup := fun a w f v he ⟨b, h1, h2, h3⟩ => by
    simp only [List.mem_cons, not_or] at he
    refine ⟨b, by rw [put_getD (Ne.symm he.1)]; exact h1, h2, ?_⟩
    have : xs.map (a.put (some f) v).eval = xs.map a.eval := List.map_congr_left fun x hx => Act.eval_put fun d' hd' => by
      cases hd'; rintro rfl; exact he.2 (mem_tmpsOf hx)
    rw [this]; exact h3

/-- a call, or another operation that lays memory: what it returns, and what is there then -/
def hsC (o : Oper) (own : Value → List Nat) (C : Value → World → Prop) (hC : ∀ v w1 w2, Below w1.heap.size w1 w2 → C v w1 → C v w2) : HS where
  supp := [dof o]
  own := own
  asn := fun a w => C (a.tmps.getD (dof o) undef) w
  per := fun a w1 w2 hb h => hC _ _ _ hb h
  sup := fun a w e v he h => by
    simp only [List.mem_cons, List.not_mem_nil, or_false] at he
    rw [put_getD (Ne.symm he)]; exact h

inductive HK where
  | p
  | b (e : Nat) (mk : Nat → Value) (xs : List Operand) (cs : List Value → List Value)
  | c (own : Value → List Nat) (C : Value → World → Prop) (hC : ∀ v w1 w2, Below w1.heap.size w1 w2 → C v w1 → C v w2)
def hsOf (P : Program) (o : Oper) : HK → HS
  | .p => hsP P o
  | .b e mk xs cs => hsB o e mk xs cs
  | .c own C hC => hsC o own C hC
/-- the value only -/
@[reducible] def HK.v (v : Value) : HK := .c (fun _ => []) (fun u _ => u = v) fun _ _ _ _ h => h
/-- the value by a property that speaks of no memory -/
@[reducible] def HK.q (p : Value → Prop) : HK := .c (fun _ => []) (fun u _ => p u) fun _ _ _ _ h => h

section
variable {P : Program} {Q : Exit → Act → World → Prop} {w : World} {n : Nat} {l0 : List (Nat × Value)} {l' : List Oper}

def Run1 (P : Program) (Q : Exit → Act → World → Prop) (w : World) (n : Nat) (l0 : List (Nat × Value)) (H : List HS) (cl : List Nat) (o : Oper) (h : HS) : Prop :=
  ∀ a w1, Below w.heap.size w w1 → Fr n a l0 → (∀ j ∈ cl, (H.getD j hs0).asn a w1) →
    o.wp P a w1 (fun a' w2 => ∃ v, a' = a.put o.dst v ∧ Below w1.heap.size w1 w2 ∧ h.asn a' w2 ∧ ∀ b ∈ h.own v, w1.heap.size ≤ b ∧ b < w2.heap.size) Q
def RunAll (P : Program) (Q : Exit → Act → World → Prop) (w : World) (n : Nat) (l0 : List (Nat × Value)) (H : List HS) : List (List Nat) → List Oper → List HK → Prop
  | c :: cs, o :: os, k :: ks => Run1 P Q w n l0 H c o (hsOf P o k) ∧ RunAll P Q w n l0 H cs os ks
  | _, _, [] => True
  | _, _, _ => False

theorem runAll_get {H : List HS} : ∀ {cl : List (List Nat)} {os : List Oper} {hs : List HK}, RunAll P Q w n l0 H cl os hs → ∀ i o h, os[i]? = some o → (List.zipWith (hsOf P) os hs)[i]? = some h → Run1 P Q w n l0 H (cl.getD i []) o h
  | c :: cs, o :: os, h :: hs, hr, 0, o', h', ho, hh => by
    simp at ho hh; subst ho hh; exact hr.1
  | c :: cs, o :: os, h :: hs, hr, i + 1, o', h', ho, hh => by
    have := runAll_get hr.2 i o' h' (by simpa using ho) (by simpa using hh)
    simpa using this
  | _, _, [], hr, i, o', h', ho, hh => by simp at hh
  | [], _, _ :: _, hr, _, _, _, _, _ => hr.elim
  | _ :: _, [], _ :: _, hr, _, _, _, _, _ => hr.elim

/-- A drawing region: its head operations each by themselves, the others in order. -/
theorem rp {id : Nat} (ks : List HK) (m : Nat) (cl : List (List Nat)) (l0 : List (Nat × Value)) {a : Act} {l : List (Nat × Value)} (F : Fr n a l) (hl : Eng.sub l l0) (hm : P.follows .mixedOrders = true)
    (hB : parB l' m n cl ((List.zipWith (hsOf P) l' ks).map HS.supp) (l0.map Prod.fst) = true) (hlen : (List.zipWith (hsOf P) l' ks).length = m)
    (hT : m = l'.length ∨ (m < l'.length ∧ Region.sinkB .any l'.toArray m = true ∧ Region.chainB .any l'.toArray m = true))
    (hS : Region.seqB .any l'.toArray (l'.drop m).length m ((Array.replicate m true) ++ Array.replicate (l'.length - m) false) = true)
    (hrun : RunAll P Q w n l0 (List.zipWith (hsOf P) l' ks) cl l' ks)
    (hend : ∀ a w1, PJ P w n l0 l' m (fun i => ((List.zipWith (hsOf P) l' ks).getD i hs0).h) (Array.replicate m true ++ Array.replicate (l'.length - m) false) a w1 → wpList P l'.toArray Q (l'.drop m) a w1) : (Code.region id l'.toArray true).wp P Q a w := by
  have hg : ∀ i, i < m → ∃ h, (List.zipWith (hsOf P) l' ks)[i]? = some h ∧ (List.zipWith (hsOf P) l' ks).getD i hs0 = h ∧ ((List.zipWith (hsOf P) l' ks).map HS.supp).getD i [] = h.supp := fun i hi => by
    have hi' : i < (List.zipWith (hsOf P) l' ks).length := by omega
    exact ⟨(List.zipWith (hsOf P) l' ks)[i], List.getElem?_eq_getElem hi', by rw [List.getD_eq_getElem?_getD, List.getElem?_eq_getElem hi']; rfl, by rw [List.getD_eq_getElem?_getD, List.getElem?_map, List.getElem?_eq_getElem hi']; rfl⟩
  refine par m cl ((List.zipWith (hsOf P) l' ks).map HS.supp) l0 (fun i => ((List.zipWith (hsOf P) l' ks).getD i hs0).h) (F.sub l0 hl) hm hB hT hS (fun i hi a w1 w2 hb h => ?_) (fun i hi a w d v hd h => ?_) (fun i hi o ho a w1 hb Fa hA => ?_) hend
  · exact ((List.zipWith (hsOf P) l' ks).getD i hs0).per a w1 w2 hb h
  · obtain ⟨h', _, h2, h3⟩ := hg i hi
    rw [h3] at hd
    refine ((List.zipWith (hsOf P) l' ks).getD i hs0).sup a w d v ?_ h
    rw [h2]; exact hd
  · obtain ⟨h', h1, h2, _⟩ := hg i hi
    have := runAll_get hrun i o h' ho h1 a w1 hb Fa hA
    simp only [HS.h, h2]
    exact this

/-! one head operation -/
variable {o : Oper} {a : Act} {w1 w2 : World} {l : List (Nat × Value)}
theorem put_self {a : Act} (F : Fr n a l) {d : Nat} (hn : Nat.blt d n = true) (v : Value) : (a.put (some d) v).tmps.getD d undef = v := by
  have hd' : d < n := by simpa [Nat.blt_eq] using hn
  simp only [Act.put, Array.getD_eq_getD_getElem?]
  rw [Array.getElem?_setIfInBounds_self_of_lt (by rw [F.size]; exact hd')]
  rfl
theorem pv (F : Fr n a l) {v : Value} (y : ∀ w2, Below w1.heap.size w1 w2 → Yl P o l w2 v w2) {d : Nat} (hd : o.dst = some d) (hn : Nat.blt d n = true) (hs : notSel o.op = true) (hdx : (tmpsOf o.op.operands.toList).contains d = false) :
    o.wp P a w1 (fun a' w2 => ∃ v, a' = a.put o.dst v ∧ Below w1.heap.size w1 w2 ∧ (hsOf P o .p).asn a' w2 ∧ ∀ b ∈ (hsOf P o .p).own v, w1.heap.size ≤ b ∧ b < w2.heap.size) Q := by
  unfold Oper.wp
  rw [y w1 (Below.refl _ _) n a F, Oper.upon_value, hd]
  refine ⟨v, rfl, Below.refl _ _, ⟨hs, fun w2 hb => ?_⟩, fun b hb => by cases hb⟩
  have hd' : dof o = d := by simp [dof, hd]
  rw [exec_put hs (by simpa using hdx), y w2 hb n a F, hd', put_self F hn]
theorem pb (F : Fr n a l) {vs : List Value} {e : Nat} {mk : Nat → Value} {xs : List Operand} {cs : List Value → List Value} (hxs : evls l xs = some vs) (y : Yl P o l w1 (mk w1.heap.size) (w1.alloc (.cells (cs vs).toArray e))) (hbo : ∀ b, blkOf (mk b) = b) {d : Nat} (hd : o.dst = some d) (hn : Nat.blt d n = true) (hdx : (tmpsOf xs).contains d = false) :
    o.wp P a w1 (fun a' w2 => ∃ v, a' = a.put o.dst v ∧ Below w1.heap.size w1 w2 ∧ (hsOf P o (.b e mk xs cs)).asn a' w2 ∧ ∀ b ∈ (hsOf P o (.b e mk xs cs)).own v, w1.heap.size ≤ b ∧ b < w2.heap.size) Q := by
  unfold Oper.wp
  rw [y n a F, Oper.upon_value, hd]
  have hdo : dof o = d := by simp [dof, hd]
  refine ⟨_, rfl, (Below.refl _ _).alloc (Nat.le_refl _) _, ⟨w1.heap.size, ?_, hbo _, ?_⟩, fun b hb => ?_⟩
  · rw [hdo, put_self F hn]
  · have : xs.map (a.put (some d) (mk w1.heap.size)).eval = vs := by
      rw [← F.evs hxs]
      refine List.map_congr_left fun x hx => Act.eval_put fun d' hd' => ?_
      cases hd'; rintro rfl
      have := mem_tmpsOf hx
      simp at hdx
      exact hdx this
    rw [this]
    show (w1.heap.push _)[w1.heap.size]? = _
    simp
  · have : b = blkOf (mk w1.heap.size) := by simpa [hsOf, hsB] using hb
    rw [this, hbo]; simp
theorem pc (F : Fr n a l) {g : Nat} {vs : List Value} (y : Cl P o l w1 g vs) {d : Nat} (hd : o.dst = some d) (hn : Nat.blt d n = true) {R : Value → World → Prop} (hc : Calls P g vs.toArray w1 (Ret R))
    {own : Value → List Nat} {C : Value → World → Prop} {hC : ∀ v w1 w2, Below w1.heap.size w1 w2 → C v w1 → C v w2} (h : ∀ v w2, R v w2 → Below w1.heap.size w1 w2 ∧ C v w2 ∧ ∀ b ∈ own v, w1.heap.size ≤ b ∧ b < w2.heap.size) :
    o.wp P a w1 (fun a' w2 => ∃ v, a' = a.put o.dst v ∧ Below w1.heap.size w1 w2 ∧ (hsOf P o (.c own C hC)).asn a' w2 ∧ ∀ b ∈ (hsOf P o (.c own C hC)).own v, w1.heap.size ≤ b ∧ b < w2.heap.size) Q := by
  unfold Oper.wp
  rw [y n a F, Oper.upon_enter]
  refine hc.mono fun e w2 hr => ?_
  cases e with
  | returned v =>
    obtain ⟨h1, h2, h3⟩ := h v w2 hr
    rw [hd]
    refine ⟨v, rfl, h1, ?_, h3⟩
    show C ((a.put (some d) v).tmps.getD (dof o) undef) w2
    rw [show dof o = d by simp [dof, hd], put_self F hn]
    exact h2
  | panicked c => exact hr.elim
  | outgrown => exact hr.elim
/-- a call whose value is known -/
theorem pcv (F : Fr n a l) {g : Nat} {vs : List Value} (y : Cl P o l w1 g vs) {d : Nat} (hd : o.dst = some d) (hn : Nat.blt d n = true) {r : Value} (hc : Calls P g vs.toArray w1 (Ret fun u w' => u = r ∧ Below w1.heap.size w1 w')) :
    o.wp P a w1 (fun a' w2 => ∃ v, a' = a.put o.dst v ∧ Below w1.heap.size w1 w2 ∧ (hsOf P o (HK.v r)).asn a' w2 ∧ ∀ b ∈ (hsOf P o (HK.v r)).own v, w1.heap.size ≤ b ∧ b < w2.heap.size) Q :=
  pc (own := fun _ => []) (C := fun u _ => u = r) (hC := fun _ _ _ _ h => h) F y hd hn hc fun u w2 h => ⟨h.2, h.1, fun b hb => by cases hb⟩
/-- an operation that lays memory in a way of its own -/
theorem pe (F : Fr n a l) {v : Value} (y : Yl P o l w1 v w2) {d : Nat} (hd : o.dst = some d) (hn : Nat.blt d n = true) (hb : Below w1.heap.size w1 w2)
    {own : Value → List Nat} {C : Value → World → Prop} {hC : ∀ v w1 w2, Below w1.heap.size w1 w2 → C v w1 → C v w2} (h : C v w2) (ho : ∀ b ∈ own v, w1.heap.size ≤ b ∧ b < w2.heap.size) :
    o.wp P a w1 (fun a' w2 => ∃ v, a' = a.put o.dst v ∧ Below w1.heap.size w1 w2 ∧ (hsOf P o (.c own C hC)).asn a' w2 ∧ ∀ b ∈ (hsOf P o (.c own C hC)).own v, w1.heap.size ≤ b ∧ b < w2.heap.size) Q := by
  unfold Oper.wp
  rw [y n a F, Oper.upon_value, hd]
  refine ⟨v, rfl, hb, ?_, ho⟩
  show C ((a.put (some d) v).tmps.getD (dof o) undef) w2
  rw [show dof o = d by simp [dof, hd], put_self F hn]
  exact h

/-! behind it: what each has left, in the order of the text -/
theorem Fr.learn (F : Fr n a l) {d : Nat} (hd : Nat.blt d n = true) {v : Value} (h : a.tmps.getD d undef = v) : Fr n a ((d, v) :: l) := by
  refine ⟨F.size, F.defers, fun i u hu => ?_⟩
  simp only [look] at hu
  cases hb : Nat.beq d i with
  | true =>
    rw [hb] at hu
    injection hu with hu
    subst hu
    obtain rfl := Nat.eq_of_beq_eq_true hb
    have hd' : d < a.tmps.size := by rw [F.size]; simpa [Nat.blt_eq] using hd
    simp only [Array.getD_eq_getD_getElem?, Array.getElem?_eq_getElem hd'] at h ⊢
    simpa using h
  | false => rw [hb] at hu; exact F.get i u hu
theorem Fr.eP (F : Fr n a l) {h : HS} (A : h.asn a w1) (e : h = hsOf P o .p) {d : Nat} (hd : dof o = d) (hn : Nat.blt d n = true) {v : Value} (y : Yl P o l w1 v w1) : Fr n a ((d, v) :: l) := by
  subst e hd
  refine F.learn hn ?_
  have h1 : (execOp a.eval o).run P w1 = .ok (.value (a.tmps.getD (dof o) undef)) w1 := A.2 w1 (Below.refl _ _)
  rw [y n a F] at h1
  injection h1 with h1
  injection h1 with h1
  exact h1.symm
theorem Fr.eC (F : Fr n a l) {h : HS} {own : Value → List Nat} {C : Value → World → Prop} {hC : ∀ v w1 w2, Below w1.heap.size w1 w2 → C v w1 → C v w2} (A : h.asn a w1) (e : h = hsOf P o (.c own C hC)) {d : Nat} (hd : dof o = d) (hn : Nat.blt d n = true) : ∃ v, Fr n a ((d, v) :: l) ∧ C v w1 ∧ h.own (a.tmps.getD d undef) = own v := by
  subst e hd
  exact ⟨_, F.learn hn rfl, A, rfl⟩
theorem Fr.eV (F : Fr n a l) {h : HS} {v : Value} (A : h.asn a w1) (e : h = hsOf P o (HK.v v)) {d : Nat} (hd : dof o = d) (hn : Nat.blt d n = true) : Fr n a ((d, v) :: l) := by
  subst e hd
  exact F.learn hn A
theorem Fr.eB (F : Fr n a l) {h : HS} {e : Nat} {mk : Nat → Value} {xs : List Operand} {cs : List Value → List Value} (A : h.asn a w1) (eh : h = hsOf P o (.b e mk xs cs)) {d : Nat} (hd : dof o = d) (hn : Nat.blt d n = true) {vs : List Value} (hxs : evls l xs = some vs) :
    ∃ b, Fr n a ((d, mk b) :: l) ∧ w1.heap[b]? = some (.cells (cs vs).toArray e (0, 0)) ∧ h.own (a.tmps.getD d undef) = [b] := by
  subst eh hd
  obtain ⟨b, h1, h2, h3⟩ := A
  refine ⟨b, F.learn hn h1, by rw [← F.evs hxs]; exact h3, ?_⟩
  show [blkOf (a.tmps.getD (dof o) undef)] = [b]
  rw [h1, h2]
end

/-- how far the resources have been gathered -/
structure EX (w0 w w1 : World) (l' : List Oper) (H : Nat → HOp) (a : Act) (ds : List Nat) (hs : List Res) : Prop where
  st : St w0 w1 hs
  of : ∀ i s, nth hs i = some s → ∀ k, s.fp k → k < w.heap.size ∨ ∃ j ∈ ds, k ∈ (H j).own (a.tmps.getD (dsl l' j) undef)
theorem EX.start {P : Program} {n m : Nat} {l0 : List (Nat × Value)} {w0 w w1 : World} {l' : List Oper} {H : Nat → HOp} {a : Act} {listed : Array Bool} {hs : List Res} (J : PJ P w n l0 l' m H listed a w1) (S : St w0 w hs) : EX w0 w w1 l' H a [] hs :=
  ⟨S.call J.bel, fun i s h k hk => .inl ((S.own i s h).2 k hk).2⟩
theorem EX.add {P : Program} {n m : Nat} {l0 : List (Nat × Value)} {w0 w w1 : World} {l' : List Oper} {H : Nat → HOp} {a : Act} {ds : List Nat} {hs : List Res} (J : PJ P w n l0 l' m H (Array.replicate m true ++ Array.replicate (l'.length - m) false) a w1) (hw : w0.heap.size ≤ w.heap.size) (E : EX w0 w w1 l' H a ds hs) (i : Nat) (hi : i < m) (hds : (ds.all fun j => !Nat.beq j i && Nat.blt j m) = true) (r : Res) (hr : r.ok w1)
    (hf : ∀ k, r.fp k → k ∈ (H i).own (a.tmps.getD (dsl l' i) undef)) : EX w0 w w1 l' H a (i :: ds) (hs ++ [r]) := by
  have hlis : ∀ j, j < m → (Array.replicate m true ++ Array.replicate (l'.length - m) false).getD j false = true := fun j hj => by simp [Array.getD_eq_getD_getElem?, Array.getElem?_append_left, hj]
  have hb : ∀ k, r.fp k → w.heap.size ≤ k ∧ k < w1.heap.size := fun k hk => J.own i hi (hlis i hi) k (hf k hk)
  refine ⟨E.st.add r hr (fun k hk => ⟨Nat.le_trans hw (hb k hk).1, (hb k hk).2⟩) fun i' s hs' k hk hks => ?_, fun i' s hs' k hk => ?_⟩
  · rcases E.of i' s hs' k hks with h | ⟨j, hj, hkj⟩
    · have := (hb k hk).1; omega
    · have := List.all_eq_true.1 hds j hj
      simp only [Bool.and_eq_true, Bool.not_eq_true', Nat.blt_eq] at this
      have hne : i ≠ j := by
        rintro rfl
        have h1 := this.1
        rw [Nat.beq_refl] at h1; cases h1
      exact J.sep i j hi this.2 (hlis i hi) (hlis j this.2) hne k (hf k hk) hkj
  · rcases nth_snoc _ _ _ _ hs' with h | ⟨_, rfl⟩
    · rcases E.of i' s h k hk with h' | ⟨j, hj, hkj⟩
      · exact .inl h'
      · exact .inr ⟨j, List.mem_cons_of_mem _ hj, hkj⟩
    · exact .inr ⟨i, List.mem_cons_self .., hf k hk⟩
section
variable {P : Program} {n m : Nat} {l0 : List (Nat × Value)} {w0 w w1 : World} {l' : List Oper} {L : List HS} {a : Act} {hs : List Res}
theorem PJ.at (J : PJ P w n l0 l' m (fun i => (L.getD i hs0).h) (Array.replicate m true ++ Array.replicate (l'.length - m) false) a w1) (i : Nat) (hi : Nat.blt i m = true) : (L.getD i hs0).asn a w1 := J.get (i := i) (by simpa [Nat.blt_eq] using hi)
/-- a new row gathered -/
theorem EX.row {ds : List Nat} (J : PJ P w n l0 l' m (fun i => (L.getD i hs0).h) (Array.replicate m true ++ Array.replicate (l'.length - m) false) a w1) (hw : w0.heap.size ≤ w.heap.size) (E : EX w0 w w1 l' (fun i => (L.getD i hs0).h) a ds hs) (i : Nat) (hi : Nat.blt i m = true) (hds : (ds.all fun j => !Nat.beq j i && Nat.blt j m) = true) {b e d : Nat} {cs : List Value}
    (hd : dsl l' i = d) (hb : w1.heap[b]? = some (.cells cs.toArray e (0, 0))) (ho : (L.getD i hs0).own (a.tmps.getD d undef) = [b]) : EX w0 w w1 l' (fun i => (L.getD i hs0).h) a (i :: ds) (hs ++ [bk b e cs]) :=
  EX.add J hw E i (by simpa [Nat.blt_eq] using hi) hds (bk b e cs) hb fun k hk => by
    have : k = b := hk
    subst this
    rw [hd]
    show k ∈ (L.getD i hs0).own _
    rw [ho]; simp
end
section
variable {P : Program} {Q : Exit → Act → World → Prop} {w w0 : World} {n : Nat} {l : List (Nat × Value)} {o : Oper} {rest : List Oper} {ops : Array Oper} {a : Act} {hs : List Res}
/-- a slice laid from its parts -/
theorem y_bs {t len e : Nat} {parts : List (Nat × Operand)} {vs cs : List Value} (ho : o.op = .buildSlice t len parts.toArray) (hx : evls l (parts.map Prod.snd) = some vs)
    (hr : ∀ w, (Instr.buildSlice t len ((parts.map Prod.fst).zip vs).toArray).run P w = .ok (.slice (some ⟨w.heap.size, 0, none⟩) len len) (w.alloc (.cells cs.toArray e))) : Yl P o l w (.slice (some ⟨w.heap.size, 0, none⟩) len len) (w.alloc (.cells cs.toArray e)) := fun n a F => by
  have : (parts.toArray.map fun (x : Nat × Operand) => (x.1, a.eval x.2)) = ((parts.map Prod.fst).zip vs).toArray := by
    rw [← F.evs hx]
    simp [List.zip_map']
  simp only [execOp, ho]
  rw [show (parts.toArray.map fun x => match x with | (i, x) => (i, a.eval x)) = ((parts.map Prod.fst).zip vs).toArray from this]
  simp [hr]
theorem dbs (F : Fr n a l) (S : St w0 w hs) {t len e : Nat} {parts : List (Nat × Operand)} {vs cs : List Value} (ho : o.op = .buildSlice t len parts.toArray) (hx : evls l (parts.map Prod.snd) = some vs)
    (hr : ∀ w, (Instr.buildSlice t len ((parts.map Prod.fst).zip vs).toArray).run P w = .ok (.slice (some ⟨w.heap.size, 0, none⟩) len len) (w.alloc (.cells cs.toArray e))) (hg : o.guard = none) {d : Nat} (hd : o.dst = some d) (hn : Nat.blt d n = true)
    (k : ∀ a w' b, Fr n a ((d, .slice (some ⟨b, 0, none⟩) len len) :: l) → St w0 w' (hs ++ [bk b e cs]) → wpList P ops Q rest a w') : wpList P ops Q (o :: rest) a w :=
  dv F (y_bs ho hx hr) hg hd hn fun a F => k a _ _ F (S.row e cs)
theorem y_al {t : Nat} {z : Value} {cs : List Value} (ho : o.op = .alloc t) (hz : ∀ w, (zeroValue t).run P w = .ok z w) (hv : cellsOf z = cs) : Yl P o l w (.pointer (some ⟨w.heap.size, 0, none⟩)) (w.alloc (.cells cs.toArray t)) := fun n a F => by
  subst hv
  simp [execOp, ho, Instr.alloc, hz, newVar, newRow, newObj, Sem.run, ← cellsOf_eq]
theorem y_bx {t : Nat} {x : Operand} {v : Value} {cs : List Value} (ho : o.op = .box t x) (hx : evl l x = some v) (hv : cellsOf v = cs) : Yl P o l w (.pointer (some ⟨w.heap.size, 0, none⟩)) (w.alloc (.cells cs.toArray t)) := fun n a F => by
  subst hv
  simp [execOp, ho, F.ev hx, Instr.box, newVar, newRow, newObj, Sem.run, ← cellsOf_eq]
end
def mkP (b : Nat) : Value := .pointer (some ⟨b, 0, none⟩)
def mkS (n : Nat) (b : Nat) : Value := .slice (some ⟨b, 0, none⟩) n n
end Go.Eng
