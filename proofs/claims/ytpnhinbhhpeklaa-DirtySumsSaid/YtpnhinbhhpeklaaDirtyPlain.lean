/- The plain laws of layer 27: what is wanted next, the cone; no program in sight. -/
set_option linter.unusedVariables false
set_option linter.unusedSimpArgs false
namespace DirtyPlain

/-- A digest: 32 numbers. -/
abbrev Dig := { l : List Int // l.length = 32 }
def dig0 : Dig := ⟨List.replicate 32 0, rfl⟩
instance : Inhabited Dig := ⟨dig0⟩

structure Rd where
  path : ByteArray
  is : Bool
  sum : Dig
  deriving DecidableEq, Inhabited

structure Md where
  path : ByteArray
  sum : Dig
  deriving DecidableEq, Inhabited

structure Tr where
  key : Dig
  reads : List Rd
  outs : List Md
  deriving DecidableEq, Inhabited

structure Want where
  kind : Int
  path : ByteArray
  i : Int
  deriving DecidableEq, Inhabited

inductive Sc where
  | ask (p : ByteArray)
  | fail
  | ok
  deriving DecidableEq

def seek (known : List Rd) (p : ByteArray) : Option Rd := known.find? (fun k => decide (k.path = p))

def scan (known : List Rd) : List Rd → Sc
  | [] => .ok
  | r :: rs => match seek known r.path with
    | none => .ask r.path
    | some k => if k = r then scan known rs else .fail

def goneB (t : Tr) (gone : List Dig) : Bool := t.outs.any (fun m => gone.any (fun g => decide (g = m.sum)))

def next (known : List Rd) (gone : List Dig) : List Tr → Nat → Want
  | [], _ => ⟨3, ⟨#[]⟩, 0⟩
  | t :: ts, i => match scan known t.reads with
    | .ask p => ⟨1, p, 0⟩
    | .fail => next known gone ts (i + 1)
    | .ok => if goneB t gone then next known gone ts (i + 1) else ⟨2, ⟨#[]⟩, i⟩

/-- Holds: the answer, and the path. -/
def holds (known : List Rd) (rs : List Rd) : Bool × ByteArray := match scan known rs with
  | .ask p => (false, p)
  | .fail => (false, ⟨#[]⟩)
  | .ok => (true, ⟨#[]⟩)

/-- the reference's asks: the first read whose path isn't known, and whether those ahead hold. -/
def asks (known : List Rd) (pre : List Rd) : List Rd → ByteArray × Bool
  | [] => (⟨#[]⟩, false)
  | r :: rs => if (seek known r.path).isNone then (r.path, (holds known pre).1) else asks known (pre ++ [r]) rs

def refNext (known : List Rd) (gone : List Dig) : List Tr → Nat → Want
  | [], _ => ⟨3, ⟨#[]⟩, 0⟩
  | t :: ts, i =>
    if (asks known [] t.reads).2 then ⟨1, (asks known [] t.reads).1, 0⟩
    else if (holds known t.reads).1 && !goneB t gone then ⟨2, ⟨#[]⟩, i⟩
    else refNext known gone ts (i + 1)

theorem scan_append (known : List Rd) (a b : List Rd) (h : scan known a = .ok) : scan known (a ++ b) = scan known b := by
  induction a with
  | nil => rfl
  | cons r rs ih =>
    simp only [scan, List.cons_append] at h ⊢
    cases hl : seek known r.path with
    | none => rw [hl] at h; cases h
    | some k =>
      rw [hl] at h
      by_cases e : k = r
      · simp only [e, if_true] at h ⊢; exact ih h
      · simp only [e, if_false] at h; cases h

theorem scan_append_fail (known : List Rd) (a b : List Rd) (h : scan known a = .fail) : scan known (a ++ b) = .fail := by
  induction a with
  | nil => cases h
  | cons r rs ih =>
    simp only [scan, List.cons_append] at h ⊢
    cases hl : seek known r.path with
    | none => rw [hl] at h; cases h
    | some k =>
      rw [hl] at h
      by_cases e : k = r
      · simp only [e, if_true] at h ⊢; exact ih h
      · simp only [e, if_false]

theorem scan_not_ask_of_known (known : List Rd) (a : List Rd) (h : ∀ r ∈ a, (seek known r.path).isSome) : scan known a = .ok ∨ scan known a = .fail := by
  induction a with
  | nil => exact .inl rfl
  | cons r rs ih =>
    simp only [scan]
    have h1 := h r (List.mem_cons_self ..)
    cases hl : seek known r.path with
    | none => rw [hl] at h1; cases h1
    | some k =>
      by_cases e : k = r
      · simp only [e, if_true]; exact ih fun x hx => h x (List.mem_cons_of_mem _ hx)
      · simp [e]

/-- what asks says, where all of 'pre' is known. -/
theorem asks_spec (known : List Rd) : ∀ (rs pre : List Rd), (∀ r ∈ pre, (seek known r.path).isSome) →
    ((asks known pre rs).2 = true → scan known (pre ++ rs) = .ask (asks known pre rs).1) ∧
    ((asks known pre rs).2 = false → scan known (pre ++ rs) = .ok ∨ scan known (pre ++ rs) = .fail)
  | [], pre, h => ⟨fun e => by simp [asks] at e, fun _ => by rw [List.append_nil]; exact scan_not_ask_of_known known pre h⟩
  | r :: rs, pre, h => by
    unfold asks
    by_cases hn : (seek known r.path).isNone = true
    · rw [if_pos hn]
      have hpre := scan_not_ask_of_known known pre h
      refine ⟨fun e => ?_, fun e => ?_⟩
      · have hok : scan known pre = .ok := by
          rcases hpre with h1 | h1
          · exact h1
          · simp [holds, h1] at e
        rw [scan_append known pre _ hok]
        have : seek known r.path = none := by simpa using hn
        simp [scan, this]
      · have hf : scan known pre = .fail := by
          rcases hpre with h1 | h1
          · simp [holds, h1] at e
          · exact h1
        exact .inr (scan_append_fail known pre _ hf)
    · rw [if_neg hn]
      have hs : (seek known r.path).isSome = true := by
        cases hl : seek known r.path with
        | none => simp [hl] at hn
        | some _ => rfl
      have := asks_spec known rs (pre ++ [r]) (by
        intro x hx
        rcases List.mem_append.1 hx with hx | hx
        · exact h x hx
        · simp at hx; subst hx; exact hs)
      simpa [List.append_assoc] using this

theorem next_eq (known : List Rd) (gone : List Dig) : ∀ (l : List Tr) (i : Nat), next known gone l i = refNext known gone l i
  | [], _ => rfl
  | t :: ts, i => by
    have ⟨h1, h2⟩ := asks_spec known t.reads [] (by simp)
    simp only [List.nil_append] at h1 h2
    unfold next refNext
    cases ha : (asks known [] t.reads).2 with
    | true => rw [h1 ha]; simp
    | false =>
      have ih := next_eq known gone ts (i + 1)
      rcases h2 ha with hs | hs <;> simp [hs, holds, ih]
      cases hg : goneB t gone <;> simp

/-! one read further -/
theorem scan_take (known rs : List Rd) (i : Nat) (hi : i < rs.length) (hok : scan known (rs.take i) = .ok) : scan known rs = scan known (rs.drop i) := by
  rw [← scan_append known (rs.take i) (rs.drop i) hok, List.take_append_drop]
theorem scan_ask (known rs : List Rd) (i : Nat) (hi : i < rs.length) (hok : scan known (rs.take i) = .ok) (hl : seek known rs[i].path = none) : scan known rs = .ask rs[i].path := by
  rw [scan_take known rs i hi hok, List.drop_eq_getElem_cons hi]
  simp only [scan, hl]
theorem scan_fail (known rs : List Rd) (i : Nat) (hi : i < rs.length) (hok : scan known (rs.take i) = .ok) (k : Rd) (hl : seek known rs[i].path = some k) (hne : k ≠ rs[i]) : scan known rs = .fail := by
  rw [scan_take known rs i hi hok, List.drop_eq_getElem_cons hi]
  simp only [scan, hl, if_neg hne]
theorem scan_ok (known rs : List Rd) (i : Nat) (hi : i < rs.length) (hok : scan known (rs.take i) = .ok) (hl : seek known rs[i].path = some rs[i]) : scan known (rs.take (i + 1)) = .ok := by
  rw [List.take_succ_eq_append_getElem hi, scan_append known _ _ hok]
  simp only [scan, hl, if_true]
theorem look_at (known : List Rd) (p : ByteArray) (m : Nat) (hm : m < known.length) (h : known[m].path = p) (hno : ∀ (j : Nat) (hj : j < known.length), j < m → known[j].path ≠ p) : seek known p = some known[m] := by
  unfold seek
  rw [List.find?_eq_some_iff_getElem]
  exact ⟨by simpa using h, m, hm, rfl, fun j hj => by simpa using hno j (by omega) hj⟩
theorem look_no (known : List Rd) (p : ByteArray) (hno : ∀ (j : Nat) (hj : j < known.length), known[j].path ≠ p) : seek known p = none := by
  unfold seek
  rw [List.find?_eq_none]
  intro k hk
  obtain ⟨j, hj, rfl⟩ := List.getElem_of_mem hk
  simpa using hno j hj

/-! the reference's asks, step by step -/
theorem asks_go (known : List Rd) : ∀ (rs pre : List Rd) (i : Nat) (hi : i < rs.length), (∀ (j : Nat) (hj : j < rs.length), j < i → (seek known rs[j].path).isSome = true) → seek known rs[i].path = none →
    asks known pre rs = (rs[i].path, (holds known (pre ++ rs.take i)).1)
  | [], pre, i, hi, _, _ => by simp at hi
  | r :: rs, pre, 0, hi, _, hn => by
    simp only [List.getElem_cons_zero] at hn
    unfold asks
    rw [if_pos (by simp [hn])]
    simp
  | r :: rs, pre, i + 1, hi, hall, hn => by
    have h0 := hall 0 (by simp) (by omega)
    simp only [List.getElem_cons_zero] at h0
    simp only [List.getElem_cons_succ] at hn
    unfold asks
    rw [if_neg (by cases hs : seek known r.path <;> simp [hs] at h0 ⊢)]
    rw [asks_go known rs (pre ++ [r]) i (by simpa using hi) (fun j hj hlt => hall (j + 1) (by simpa using hj) (by omega)) hn]
    simp
theorem asks_end (known : List Rd) : ∀ (rs pre : List Rd), (∀ (j : Nat) (hj : j < rs.length), (seek known rs[j].path).isSome = true) → asks known pre rs = (⟨#[]⟩, false)
  | [], pre, _ => rfl
  | r :: rs, pre, hall => by
    have h0 := hall 0 (by simp)
    simp only [List.getElem_cons_zero] at h0
    unfold asks
    rw [if_neg (by cases hs : seek known r.path <;> simp [hs] at h0 ⊢)]
    exact asks_end known rs (pre ++ [r]) fun j hj => hall (j + 1) (by simpa using hj)
theorem any_seek (known : List Rd) (p : ByteArray) : (known.any fun x => decide (x.path = p)) = (seek known p).isSome := by
  unfold seek
  rw [Bool.eq_iff_iff, List.any_eq_true, List.find?_isSome]

/-! one trace further -/
section
variable (known : List Rd) (gone : List Dig) (l : List Tr) (i : Nat) (hi : i < l.length)
include hi
theorem ref_ask (h : (asks known [] l[i].reads).2 = true) : refNext known gone (l.drop i) i = ⟨1, (asks known [] l[i].reads).1, 0⟩ := by
  rw [List.drop_eq_getElem_cons hi, refNext, if_pos h]
theorem ref_take (h : (asks known [] l[i].reads).2 = false) (h2 : ((holds known l[i].reads).1 && !goneB l[i] gone) = true) : refNext known gone (l.drop i) i = ⟨2, ⟨#[]⟩, i⟩ := by
  rw [List.drop_eq_getElem_cons hi, refNext, if_neg (by simp [h]), if_pos h2]
theorem ref_on (h : (asks known [] l[i].reads).2 = false) (h2 : ((holds known l[i].reads).1 && !goneB l[i] gone) = false) : refNext known gone (l.drop i) i = refNext known gone (l.drop (i + 1)) (i + 1) := by
  rw [List.drop_eq_getElem_cons hi, refNext, if_neg (by simp [h]), if_neg (by simp [h2])]
theorem next_ask {p : ByteArray} (h : scan known l[i].reads = .ask p) : next known gone (l.drop i) i = ⟨1, p, 0⟩ := by
  rw [List.drop_eq_getElem_cons hi, next, h]
theorem next_fail (h : scan known l[i].reads = .fail) : next known gone (l.drop i) i = next known gone (l.drop (i + 1)) (i + 1) := by
  rw [List.drop_eq_getElem_cons hi, next, h]
theorem next_gone (h : scan known l[i].reads = .ok) (h2 : goneB l[i] gone = true) : next known gone (l.drop i) i = next known gone (l.drop (i + 1)) (i + 1) := by
  rw [List.drop_eq_getElem_cons hi, next, h]; simp [h2]
theorem next_take (h : scan known l[i].reads = .ok) (h2 : goneB l[i] gone = false) : next known gone (l.drop i) i = ⟨2, ⟨#[]⟩, i⟩ := by
  rw [List.drop_eq_getElem_cons hi, next, h]; simp [h2]
end

/-! more is known -/
theorem look_append (a b : List Rd) (p : ByteArray) (k : Rd) (h : seek a p = some k) : seek (a ++ b) p = some k := by
  unfold seek at *
  rw [List.find?_append, h]; rfl

theorem scan_more (a b : List Rd) (rs : List Rd) (h : ∀ p, scan a rs ≠ .ask p) : scan (a ++ b) rs = scan a rs := by
  induction rs with
  | nil => rfl
  | cons r rs ih =>
    simp only [scan] at h ⊢
    cases hl : seek a r.path with
    | none => rw [hl] at h; exact absurd rfl (h r.path)
    | some k =>
      rw [look_append a b _ k hl]
      rw [hl] at h
      by_cases e : k = r
      · simp only [e, if_true] at h ⊢; exact ih h
      · simp only [e, if_false]

theorem next_more (a b : List Rd) (gone : List Dig) : ∀ (l : List Tr) (i : Nat), (next a gone l i).kind ≠ 1 → next (a ++ b) gone l i = next a gone l i
  | [], _, _ => rfl
  | t :: ts, i, h => by
    unfold next at h ⊢
    cases hs : scan a t.reads with
    | ask p => rw [hs] at h; exact absurd rfl h
    | fail =>
      rw [scan_more a b t.reads (by simp [hs]), hs]
      rw [hs] at h
      exact next_more a b gone ts (i + 1) h
    | ok =>
      rw [scan_more a b t.reads (by simp [hs]), hs]
      rw [hs] at h
      cases hg : goneB t gone with
      | true => rw [hg] at h; simp only [if_true] at h ⊢; exact next_more a b gone ts (i + 1) h
      | false => simp

/-! what an answer means -/
def may (known : List Rd) (gone : List Dig) (t : Tr) : Bool := (holds known t.reads).1 && !goneB t gone

theorem next_kind (known : List Rd) (gone : List Dig) : ∀ (l : List Tr) (i : Nat),
    ((next known gone l i).kind = 1 ∧ (next known gone l i).i = 0 ∧ seek known (next known gone l i).path = none ∧ ∃ t ∈ l, ∃ r ∈ t.reads, r.path = (next known gone l i).path) ∨
    ((next known gone l i).kind = 2 ∧ ∃ n, n < l.length ∧ (next known gone l i).i = ((i + n : Nat) : Int) ∧ (∀ t, l[n]? = some t → may known gone t = true) ∧ ∀ t ∈ l.take n, may known gone t = false) ∨
    ((next known gone l i).kind = 3 ∧ ∀ t ∈ l, may known gone t = false)
  | [], i => .inr (.inr ⟨rfl, by simp⟩)
  | t :: ts, i => by
    have ih := next_kind known gone ts (i + 1)
    have key : next known gone (t :: ts) i = next known gone ts (i + 1) → may known gone t = false →
        ((next known gone (t :: ts) i).kind = 1 ∧ (next known gone (t :: ts) i).i = 0 ∧ seek known (next known gone (t :: ts) i).path = none ∧ ∃ u ∈ t :: ts, ∃ r ∈ u.reads, r.path = (next known gone (t :: ts) i).path) ∨
        ((next known gone (t :: ts) i).kind = 2 ∧ ∃ n, n < (t :: ts).length ∧ (next known gone (t :: ts) i).i = ((i + n : Nat) : Int) ∧ (∀ u, (t :: ts)[n]? = some u → may known gone u = true) ∧ ∀ u ∈ (t :: ts).take n, may known gone u = false) ∨
        ((next known gone (t :: ts) i).kind = 3 ∧ ∀ u ∈ t :: ts, may known gone u = false) := by
      intro e hm
      rw [e]
      rcases ih with ⟨a, b, c, u, hu, r, hr, hp⟩ | ⟨a, n, hn, b, c, d⟩ | ⟨a, b⟩
      · exact .inl ⟨a, b, c, u, List.mem_cons_of_mem _ hu, r, hr, hp⟩
      · refine .inr (.inl ⟨a, n + 1, by simpa using hn, by rw [b]; congr 1; omega, by simpa using c, ?_⟩)
        intro u hu
        simp only [List.take_succ_cons, List.mem_cons] at hu
        rcases hu with rfl | hu
        · exact hm
        · exact d u hu
      · refine .inr (.inr ⟨a, ?_⟩)
        intro u hu
        rcases List.mem_cons.1 hu with rfl | hu
        · exact hm
        · exact b u hu
    cases hs : scan known t.reads with
    | ask p =>
      left
      have e : next known gone (t :: ts) i = ⟨1, p, 0⟩ := by unfold next; rw [hs]
      rw [e]
      have hp : ∀ rs, scan known rs = .ask p → seek known p = none ∧ ∃ r ∈ rs, r.path = p := by
        intro rs
        induction rs with
        | nil => intro h; cases h
        | cons r rs ih =>
          intro h
          simp only [scan] at h
          cases hl : seek known r.path with
          | none =>
            rw [hl] at h
            injection h with h
            subst h
            exact ⟨hl, r, List.mem_cons_self .., rfl⟩
          | some k =>
            rw [hl] at h
            by_cases ee : k = r
            · simp only [ee, if_true] at h
              obtain ⟨a, x, hx, hxp⟩ := ih h
              exact ⟨a, x, List.mem_cons_of_mem _ hx, hxp⟩
            · simp only [ee, if_false] at h; cases h
      obtain ⟨h1, r, hr, h2⟩ := hp _ hs
      exact ⟨rfl, rfl, h1, t, List.mem_cons_self .., r, hr, h2⟩
    | fail =>
      exact key (by rw [next, hs]) (by simp [may, holds, hs])
    | ok =>
      cases hg : goneB t gone with
      | true => exact key (by rw [next, hs]; simp [hg]) (by simp [may, holds, hs, hg])
      | false =>
        right; left
        have e : next known gone (t :: ts) i = ⟨2, ⟨#[]⟩, i⟩ := by rw [next, hs]; simp [hg]
        rw [e]
        exact ⟨rfl, 0, by simp, by simp, by simp [may, holds, hs, hg], by simp⟩

/-! asking, one by one -/
/-- the paths of all reads -/
def paths (l : List Tr) : List ByteArray := l.flatMap fun t => t.reads.map (·.path)

theorem nodup_sub_length {α : Type} [DecidableEq α] : ∀ (a b : List α), a.Nodup → (∀ x ∈ a, x ∈ b) → a.length ≤ b.length
  | [], b, _, _ => by simp
  | x :: a, b, hn, hs => by
    have hx : x ∈ b := hs x (List.mem_cons_self ..)
    have hn' := List.nodup_cons.1 hn
    have := nodup_sub_length a (b.erase x) hn'.2 (fun y hy => by
      have hy' : y ∈ b := hs y (List.mem_cons_of_mem _ hy)
      have hne : y ≠ x := fun e => hn'.1 (e ▸ hy)
      exact (List.mem_erase_of_ne hne).2 hy')
    have hl := List.length_erase_of_mem hx
    have hpos : 0 < b.length := List.length_pos_of_mem hx
    simp only [List.length_cons]
    omega

theorem look_none_iff (known : List Rd) (p : ByteArray) : seek known p = none ↔ ∀ k ∈ known, k.path ≠ p := by
  unfold seek
  simp

end DirtyPlain
