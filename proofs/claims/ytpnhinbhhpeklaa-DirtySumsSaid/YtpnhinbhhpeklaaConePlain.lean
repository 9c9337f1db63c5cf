/- The plain law of the cone: what a change reaches, as a least set; the rounds and the work list both come to it. -/
import Derived.Test.YtpnhinbhhpeklaaDirtyPlain
set_option linter.unusedVariables false
set_option linter.unusedSimpArgs false
namespace DirtyPlain

def rds (t : Tr) (p : ByteArray) : Bool := t.reads.any fun r => decide (r.path = p)
def base (T : List Tr) (C : List ByteArray) (i : Nat) : Bool := match T[i]? with
  | none => true
  | some t => decide (t.key = dig0) || C.any fun p => rds t p
def edge (S : List (List ByteArray)) (T : List Tr) (j i : Nat) : Bool := match T[i]?, S[j]? with
  | some t, some os => os.any fun p => rds t p
  | _, _ => false
inductive Reach (S : List (List ByteArray)) (T : List Tr) (C : List ByteArray) : Nat → Prop
  | base {i : Nat} : i < S.length → base T C i = true → Reach S T C i
  | step {j i : Nat} : Reach S T C j → i < S.length → edge S T j i = true → Reach S T C i
/-- what the reference's In says -/
def inn (S : List (List ByteArray)) (T : List Tr) (C : List ByteArray) (G : List Bool) (i : Nat) : Bool := base T C i || (List.range S.length).any fun j => G.getD j false && edge S T j i

section
variable {S : List (List ByteArray)} {T : List Tr} {C : List ByteArray}
theorem Reach.lt {i : Nat} (h : Reach S T C i) : i < S.length := by cases h <;> assumption
theorem Reach.mono {C' : List ByteArray} (hC : ∀ p ∈ C, p ∈ C') {i : Nat} (h : Reach S T C i) : Reach S T C' i := by
  induction h with
  | base hi hb =>
    refine .base hi ?_
    unfold DirtyPlain.base at hb ⊢
    split
    · rfl
    · rename_i t ht
      rw [ht] at hb
      simp only [Bool.or_eq_true] at hb ⊢
      rcases hb with hb | hb
      · exact .inl hb
      · obtain ⟨p, hp, hr⟩ := List.any_eq_true.1 hb
        exact .inr (List.any_eq_true.2 ⟨p, hC p hp, hr⟩)
  | step _ hi he ih => exact .step ih hi he

structure Sound (S : List (List ByteArray)) (T : List Tr) (C : List ByteArray) (G : List Bool) : Prop where
  len : G.length = S.length
  sound : ∀ i, G.getD i false = true → Reach S T C i
def Closed (S : List (List ByteArray)) (T : List Tr) (C : List ByteArray) (G : List Bool) : Prop := ∀ i, i < S.length → inn S T C G i = true → G.getD i false = true

theorem inn_reach {G : List Bool} (h : Sound S T C G) {i : Nat} (hi : i < S.length) (hin : inn S T C G i = true) : Reach S T C i := by
  simp only [inn, Bool.or_eq_true, List.any_eq_true, Bool.and_eq_true, List.mem_range] at hin
  rcases hin with hb | ⟨j, hj, hg, he⟩
  · exact .base hi hb
  · exact .step (h.sound j hg) hi he
/-- sound and closed: exactly what is reached -/
theorem exact_of {G : List Bool} (h : Sound S T C G) (hc : Closed S T C G) (i : Nat) : G.getD i false = true ↔ Reach S T C i := by
  refine ⟨h.sound i, fun hr => ?_⟩
  induction hr with
  | base hi hb => exact hc _ hi (by simp [inn, hb])
  | step hj hi he ih => exact hc _ hi (by simp only [inn, Bool.or_eq_true, List.any_eq_true, Bool.and_eq_true, List.mem_range]; exact .inr ⟨_, hj.lt, ih, he⟩)
theorem exact_eq {G G' : List Bool} (h : Sound S T C G) (hc : Closed S T C G) (h' : Sound S T C G') (hc' : Closed S T C G') : G = G' := by
  refine List.ext_getElem? fun i => ?_
  by_cases hi : i < S.length
  · have e1 := exact_of h hc i
    have e2 := exact_of h' hc' i
    rw [List.getElem?_eq_getElem (by rw [h.len]; exact hi), List.getElem?_eq_getElem (by rw [h'.len]; exact hi)]
    simp only [List.getD_eq_getElem?_getD, List.getElem?_eq_getElem (show i < G.length by rw [h.len]; exact hi), List.getElem?_eq_getElem (show i < G'.length by rw [h'.len]; exact hi), Option.getD_some] at e1 e2
    congr 1
    exact Bool.eq_iff_iff.2 (e1.trans e2.symm)
  · rw [List.getElem?_eq_none (by rw [h.len]; omega), List.getElem?_eq_none (by rw [h'.len]; omega)]

/-! the reference's rounds -/
def cnt (G : List Bool) : Nat := G.count true
theorem cnt_le (G : List Bool) : cnt G ≤ G.length := List.count_le_length
theorem getD_set (G : List Bool) (k : Nat) (b : Bool) (i : Nat) : (G.set k b).getD i false = if k = i ∧ k < G.length then b else G.getD i false := by
  simp only [List.getD_eq_getElem?_getD, List.getElem?_set]
  by_cases h : k = i
  · subst h
    by_cases h2 : k < G.length
    · simp [h2]
    · simp [h2]
  · simp [h]
theorem cnt_set : ∀ (G : List Bool) (k : Nat), k < G.length → cnt (G.set k true) = cnt G + if G.getD k false = true then 0 else 1
  | [], k, h => by simp at h
  | g :: G, 0, _ => by cases g <;> simp [cnt]
  | g :: G, k + 1, h => by
    have ih := cnt_set G k (by simpa using h)
    simp only [List.set_cons_succ, cnt, List.count_cons] at ih ⊢
    have e : (g :: G).getD (k + 1) false = G.getD k false := by simp
    rw [e]
    omega
theorem set_same (G : List Bool) (k : Nat) : G.set k (G.getD k false) = G := by
  refine List.ext_getElem? fun i => ?_
  rw [List.getElem?_set]
  by_cases h : k = i
  · subst h
    by_cases h2 : k < G.length
    · simp [h2]
    · simp [h2]
  · simp [h]

structure RI (S : List (List ByteArray)) (T : List Tr) (C : List ByteArray) (r : Nat) (G : List Bool) : Prop where
  sd : Sound S T C G
  pr : Closed S T C G ∨ r ≤ cnt G
structure RK (S : List (List ByteArray)) (T : List Tr) (C : List ByteArray) (r k : Nat) (F G : List Bool) : Prop where
  sd : Sound S T C G
  pr : (Closed S T C F ∧ G = F) ∨ (r ≤ cnt F ∧ ((G = F ∧ ∀ i, i < k → inn S T C F i = true → F.getD i false = true) ∨ cnt F < cnt G))
theorem RI.zero : RI S T C 0 (List.replicate S.length false) := ⟨⟨by simp, fun i h => by
  rw [List.getD_eq_getElem?_getD, List.getElem?_replicate] at h
  split at h <;> simp at h⟩, .inr (Nat.zero_le _)⟩
theorem RK.zero {r : Nat} {F : List Bool} (h : RI S T C r F) : RK S T C r 0 F F := ⟨h.sd, by
  rcases h.pr with h | h
  · exact .inl ⟨h, rfl⟩
  · exact .inr ⟨h, .inl ⟨rfl, fun i hi => absurd hi (Nat.not_lt_zero i)⟩⟩⟩
theorem RK.next {r k : Nat} {F G : List Bool} (h : RK S T C r k F G) (hk : k < S.length) : RK S T C r (k + 1) F (G.set k (G.getD k false || inn S T C G k)) := by
  have hkG : k < G.length := by rw [h.sd.len]; exact hk
  refine ⟨⟨by rw [List.length_set, h.sd.len], fun i hi => ?_⟩, ?_⟩
  · rw [getD_set] at hi
    split at hi
    · rename_i e
      obtain ⟨rfl, _⟩ := e
      rcases Bool.or_eq_true_iff.1 hi with hi | hi
      · exact h.sd.sound _ hi
      · exact inn_reach h.sd hk hi
    · exact h.sd.sound _ hi
  · have cm : ∀ G' : List Bool, k < G'.length → cnt G' ≤ cnt (G'.set k (G'.getD k false || inn S T C G' k)) := by
      intro G' hk'
      cases hb : (G'.getD k false || inn S T C G' k) with
      | true => rw [cnt_set G' k hk']; omega
      | false =>
        have : G'.getD k false = false := by simp at hb; simpa using hb.1
        rw [← this, set_same]; omega
    rcases h.pr with ⟨hc, rfl⟩ | ⟨hr, ⟨rfl, hno⟩ | hlt⟩
    · refine .inl ⟨hc, ?_⟩
      have : (G.getD k false || inn S T C G k) = G.getD k false := by
        cases hi : inn S T C G k with
        | true => rw [hc k hk hi]; rfl
        | false => simp
      rw [this, set_same]
    · refine .inr ⟨hr, ?_⟩
      cases hg : G.getD k false with
      | true =>
        left
        have e : G.set k true = G := by
          have := set_same G k
          rwa [hg] at this
        rw [Bool.true_or, e]
        refine ⟨rfl, fun i hi hin => ?_⟩
        by_cases e : i = k
        · subst e; exact hg
        · exact hno i (by omega) hin
      | false =>
        cases hi : inn S T C G k with
        | true => right; rw [Bool.or_true, cnt_set G k hkG, hg]; simp
        | false =>
          left
          have e : G.set k false = G := by
            have := set_same G k
            rwa [hg] at this
          rw [Bool.or_false, e]
          refine ⟨rfl, fun i hi' hin => ?_⟩
          by_cases e : i = k
          · subst e; rw [hi] at hin; cases hin
          · exact hno i (by omega) hin
    · exact .inr ⟨hr, .inr (Nat.lt_of_lt_of_le hlt (cm G hkG))⟩
theorem RK.done {r : Nat} {F G : List Bool} (h : RK S T C r S.length F G) : RI S T C (r + 1) G := ⟨h.sd, by
  rcases h.pr with ⟨hc, rfl⟩ | ⟨hr, ⟨rfl, hno⟩ | hlt⟩
  · exact .inl hc
  · exact .inl hno
  · exact .inr (by omega)⟩
theorem RI.closed {G : List Bool} (h : RI S T C (S.length + 1) G) : Closed S T C G := by
  rcases h.pr with h1 | h1
  · exact h1
  · have := cnt_le G
    rw [h.sd.len] at this
    omega

/-! the work list -/
/-- b: how many have been looked at at the start; Q: the work list; q: the one that is worked at, looked at up to k -/
structure WL (S : List (List ByteArray)) (T : List Tr) (C : List ByteArray) (G : List Bool) (Q : List Nat) (b : Nat) (ex : Nat → Prop) : Prop where
  sd : Sound S T C G
  qs : ∀ j ∈ Q, j < S.length ∧ G.getD j false = true
  base : ∀ i, i < b → i < S.length → DirtyPlain.base T C i = true → G.getD i false = true
  done : ∀ j, G.getD j false = true → j ∈ Q ∨ ex j ∨ ∀ i, i < S.length → edge S T j i = true → G.getD i false = true
theorem WL.zero : WL S T C (List.replicate S.length false) [] 0 (fun _ => False) := ⟨RI.zero.sd, fun j hj => (by cases hj), fun i hi => absurd hi (Nat.not_lt_zero i), fun j h => by
  rw [List.getD_eq_getElem?_getD, List.getElem?_replicate] at h
  split at h <;> simp at h⟩
theorem WL.mark {G : List Bool} {Q : List Nat} {b : Nat} {ex : Nat → Prop} (h : WL S T C G Q b ex) {i : Nat} (hi : i < S.length) (hr : Reach S T C i) : WL S T C (G.set i true) (Q ++ [i]) b ex := by
  have hg : ∀ j, (G.set i true).getD j false = true ↔ (j = i ∨ G.getD j false = true) := by
    intro j
    rw [getD_set]
    split
    · rename_i e; simp [e.1]
    · rename_i e
      constructor
      · exact .inr
      · rintro (rfl | h')
        · exact absurd ⟨rfl, by rw [h.sd.len]; exact hi⟩ e
        · exact h'
  refine ⟨⟨by rw [List.length_set, h.sd.len], fun j hj => ?_⟩, fun j hj => ?_, fun j hb hj hbs => (hg j).2 (.inr (h.base j hb hj hbs)), fun j hj => ?_⟩
  · rcases (hg j).1 hj with rfl | h'
    · exact hr
    · exact h.sd.sound j h'
  · rcases List.mem_append.1 hj with hj | hj
    · exact ⟨(h.qs j hj).1, (hg j).2 (.inr (h.qs j hj).2)⟩
    · simp at hj; subst hj
      exact ⟨hi, (hg j).2 (.inl rfl)⟩
  · rcases (hg j).1 hj with rfl | h'
    · exact .inl (by simp)
    · rcases h.done j h' with h1 | h1 | h1
      · exact .inl (List.mem_append_left _ h1)
      · exact .inr (.inl h1)
      · exact .inr (.inr fun i' hi' he => (hg i').2 (.inr (h1 i' hi' he)))
/-- the start: the i-th has been looked at -/
theorem WL.skip {G : List Bool} {Q : List Nat} {b : Nat} {ex : Nat → Prop} (h : WL S T C G Q b ex) (hb : DirtyPlain.base T C b = false) : WL S T C G Q (b + 1) ex :=
  ⟨h.sd, h.qs, fun i hi hl hbs => by
    by_cases e : i = b
    · subst e; rw [hb] at hbs; cases hbs
    · exact h.base i (by omega) hl hbs, h.done⟩
theorem WL.more {G : List Bool} {Q : List Nat} {b : Nat} {ex : Nat → Prop} (h : WL S T C G Q b ex) (hb : b < S.length → G.getD b false = true) : WL S T C G Q (b + 1) ex :=
  ⟨h.sd, h.qs, fun i hi hl hbs => by
    by_cases e : i = b
    · subst e; exact hb hl
    · exact h.base i (by omega) hl hbs, h.done⟩
theorem WL.pop {G : List Bool} {q : Nat} {Q : List Nat} {b : Nat} (h : WL S T C G (q :: Q) b (fun _ => False)) : WL S T C G Q b (fun j => j = q) :=
  ⟨h.sd, fun j hj => h.qs j (List.mem_cons_of_mem _ hj), h.base, fun j hj => by
    rcases h.done j hj with h1 | h1 | h1
    · rcases List.mem_cons.1 h1 with e | e
      · exact .inr (.inl e)
      · exact .inl e
    · exact h1.elim
    · exact .inr (.inr h1)⟩
theorem WL.popped {G : List Bool} {q : Nat} {Q : List Nat} {b : Nat} (h : WL S T C G Q b (fun j => j = q)) (hq : ∀ i, i < S.length → edge S T q i = true → G.getD i false = true) : WL S T C G Q b (fun _ => False) :=
  ⟨h.sd, h.qs, h.base, fun j hj => by
    rcases h.done j hj with h1 | h1 | h1
    · exact .inl h1
    · exact .inr (.inr (by rw [h1]; exact hq))
    · exact .inr (.inr h1)⟩
theorem WL.closed {G : List Bool} (h : WL S T C G [] S.length (fun _ => False)) : Closed S T C G := fun i hi hin => by
  simp only [inn, Bool.or_eq_true, List.any_eq_true, Bool.and_eq_true, List.mem_range] at hin
  rcases hin with hb | ⟨j, hj, hg, he⟩
  · exact h.base i hi hi hb
  · rcases h.done j hg with h1 | h1 | h1
    · cases h1
    · exact h1.elim
    · exact h1 i hi he
theorem set_mono {G : List Bool} {i k : Nat} (h : G.getD i false = true) : (G.set k true).getD i false = true := by
  rw [getD_set]; split
  · rfl
  · exact h
end
end DirtyPlain
