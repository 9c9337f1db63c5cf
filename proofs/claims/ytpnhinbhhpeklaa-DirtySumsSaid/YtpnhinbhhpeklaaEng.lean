/- The walking engine: frames as association lists, the heap as a list of own blocks, one lemma an operation. -/
import Derived.WalkKit
import Derived.Deep.Quiet

import Derived.KernelRfl
namespace Go.Eng
open Go.RowKit

/-! ### frames -/
def look : List (Nat × Value) → Nat → Option Value
  | [], _ => none
  | (k, v) :: l, i => cond (Nat.beq k i) (some v) (look l i)

structure Fr (n : Nat) (a : Act) (l : List (Nat × Value)) : Prop where
  size : a.tmps.size = n
  defers : a.defers = []
  get : ∀ i v, look l i = some v → a.tmps[i]? = some v

def evl (l : List (Nat × Value)) : Operand → Option Value
  | .tmp t => look l t
  | .const v => some v
  | .global g => some (.pointer (some ⟨g, 0, none⟩))
  | .func f => some (.func (.func f) #[] #[])

def evls (l : List (Nat × Value)) : List Operand → Option (List Value)
  | [] => some []
  | x :: xs => match evl l x, evls l xs with
    | some v, some vs => some (v :: vs)
    | _, _ => none

section
variable {n : Nat} {a : Act} {l : List (Nat × Value)}

theorem Fr.ev (F : Fr n a l) {x : Operand} {v : Value} (h : evl l x = some v) : a.eval x = v := by
  cases x with
  | tmp t =>
    have := F.get t v h
    simp [Act.eval, Array.getD_eq_getD_getElem?, this]
  | const u => simpa [evl, Act.eval] using h
  | global g => simpa [evl, Act.eval] using h
  | func f => simpa [evl, Act.eval] using h

theorem Fr.evs (F : Fr n a l) : ∀ {xs : List Operand} {vs : List Value}, evls l xs = some vs → xs.map a.eval = vs
  | [], vs, h => by simp [evls] at h; simp [h]
  | x :: xs, vs, h => by
    unfold evls at h
    cases h1 : evl l x with
    | none => rw [h1] at h; cases h
    | some v =>
      cases h2 : evls l xs with
      | none => rw [h1, h2] at h; cases h
      | some us =>
        rw [h1, h2] at h
        injection h with h
        subst h
        simp [F.ev h1, Fr.evs F h2]

theorem Fr.put (F : Fr n a l) {d : Nat} (hd : Nat.blt d n = true) (v : Value) : Fr n (a.put (some d) v) ((d, v) :: l) := by
  have hd' : d < n := by simpa [Nat.blt_eq] using hd
  refine ⟨by simp [Act.put, F.size], by simp [Act.put, F.defers], fun i u h => ?_⟩
  simp only [look] at h
  by_cases e : d = i
  · subst e
    simp at h
    subst h
    simp only [Act.put]
    rw [Array.getElem?_setIfInBounds_self_of_lt (by rw [F.size]; exact hd')]
  · have : Nat.beq d i = false := by
      cases hb : Nat.beq d i with
      | false => rfl
      | true => exact absurd (Nat.eq_of_beq_eq_true hb) e
    rw [this] at h
    simp only [cond_false] at h
    simp only [Act.put]
    rw [Array.getElem?_setIfInBounds_ne e]
    exact F.get i u h

/-- all entries of l2 stand in l -/
def sub (l : List (Nat × Value)) : List (Nat × Value) → Prop
  | [] => True
  | (k, v) :: r => look l k = some v ∧ sub l r

theorem sub_look {l : List (Nat × Value)} : ∀ {r : List (Nat × Value)}, sub l r → ∀ i v, look r i = some v → look l i = some v
  | [], _, i, v, h => by cases h
  | (k, u) :: r, hs, i, v, h => by
    simp only [look] at h
    cases hb : Nat.beq k i with
    | true =>
      rw [hb] at h
      injection h with h
      subst h
      obtain rfl := Nat.eq_of_beq_eq_true hb
      exact hs.1
    | false =>
      rw [hb] at h
      exact sub_look hs.2 i v h

theorem Fr.sub (F : Fr n a l) (r : List (Nat × Value)) (h : Eng.sub l r) : Fr n a r := ⟨F.size, F.defers, fun i v hv => F.get i v (sub_look h i v hv)⟩

def num : Nat → List Value → List (Nat × Value)
  | _, [] => []
  | k, v :: vs => (k, v) :: num (k + 1) vs

theorem look_num : ∀ (vs : List Value) (k i : Nat) (v : Value), look (num k vs) i = some v → k ≤ i ∧ vs[i - k]? = some v
  | [], k, i, v, h => by cases h
  | u :: vs, k, i, v, h => by
    simp only [num, look] at h
    cases hb : Nat.beq k i with
    | true =>
      rw [hb] at h
      injection h with h
      subst h
      obtain rfl := Nat.eq_of_beq_eq_true hb
      simp
    | false =>
      rw [hb] at h
      obtain ⟨h1, h2⟩ := look_num vs (k + 1) i v h
      refine ⟨by omega, ?_⟩
      rw [show i - k = (i - (k + 1)) + 1 by omega]
      simpa using h2

theorem Fr.start (vs : List Value) (m : Nat) (h : vs.length ≤ m) : Fr m { tmps := vs.toArray ++ Array.replicate (m - vs.toArray.size) undef, defers := [] } (num 0 vs) := by
  refine ⟨by simp; omega, rfl, fun i v hv => ?_⟩
  have ⟨_, h2⟩ := look_num vs 0 i v hv
  simp only [Nat.sub_zero] at h2
  have hi : i < vs.length := (List.getElem?_eq_some_iff.1 h2).1
  simp only []
  rw [Array.getElem?_append_left (by simpa using hi)]
  simpa using h2
end

/-- What a call returns: it returns, and this holds. -/
def Ret (R : Value → World → Prop) : Ending → World → Prop
  | .returned v, w => R v w
  | _, _ => False

theorem Ret.mono {R R' : Value → World → Prop} (h : ∀ v w, R v w → R' v w) : ∀ e w, Ret R e w → Ret R' e w
  | .returned _, _, hr => h _ _ hr
  | .panicked _, _, hr => hr.elim
  | .outgrown, _, hr => hr.elim

theorem ent {P : Program} {f : FuncId} {fn : Func} {c : Code} {vs : List Value} {w : World} {R : Ending → World → Prop} {m : Nat}
    (hf : P.funcs[f]? = some fn) (hn : fn.ntmps = m) (hb : fn.body = some c) (hm : Nat.ble vs.length m = true)
    (h : ∀ a, Fr m a (num 0 vs) → c.wp P (bodyPost P fn R) a w) : Calls P f vs.toArray w R := by
  subst hn
  exact calls_of_wp hf hb (h _ (Fr.start vs _ (by simpa using hm)))

/-! ### the heap -/
/-- Blocks outside S are as they were; none has gone. -/
structure Keeps (S : Nat → Prop) (w w' : World) : Prop where
  os : w'.os = w.os
  tape : w'.tape = w.tape
  output : w'.output = w.output
  size : w.heap.size ≤ w'.heap.size
  block : ∀ k, k < w.heap.size → ¬ S k → w'.heap[k]? = w.heap[k]?

theorem Keeps.below {w w' : World} (h : Keeps (fun _ => False) w w') : Below w.heap.size w w' := ⟨h.os, h.tape, h.output, h.size, fun k hk => h.block k hk id⟩
theorem keeps_of_below {S : Nat → Prop} {w w' : World} (h : Below w.heap.size w w') : Keeps S w w' := ⟨h.os, h.tape, h.output, h.size, fun k hk _ => h.block k hk⟩
theorem Keeps.refl (S : Nat → Prop) (w : World) : Keeps S w w := ⟨rfl, rfl, rfl, Nat.le_refl _, fun _ _ _ => rfl⟩
theorem Keeps.trans {S : Nat → Prop} {a b c : World} (h : Keeps S a b) (k : Keeps S b c) : Keeps S a c :=
  ⟨k.os.trans h.os, k.tape.trans h.tape, k.output.trans h.output, Nat.le_trans h.size k.size, fun i hi hn => (k.block i (Nat.lt_of_lt_of_le hi h.size) hn).trans (h.block i hi hn)⟩
theorem Keeps.mono {S S' : Nat → Prop} {a b : World} (h : Keeps S a b) (hs : ∀ k, S k → S' k) : Keeps S' a b := ⟨h.os, h.tape, h.output, h.size, fun i hi hn => h.block i hi fun e => hn (hs i e)⟩
/-- what S holds beyond the first world plays no part -/
theorem Keeps.trans' {S T : Nat → Prop} {a b c : World} (h : Keeps S a b) (k : Keeps T b c) (hT : ∀ i, i < a.heap.size → T i → S i) : Keeps S a c :=
  ⟨k.os.trans h.os, k.tape.trans h.tape, k.output.trans h.output, Nat.le_trans h.size k.size, fun i hi hn => (k.block i (Nat.lt_of_lt_of_le hi h.size) fun e => hn (hT i hi e)).trans (h.block i hi hn)⟩

/-- A resource: what is known of some blocks. -/
structure Res where
  fp : Nat → Prop
  ok : World → Prop
  loc : ∀ w w' : World, (∀ k, fp k → w'.heap[k]? = w.heap[k]?) → ok w → ok w'

/-- A block known whole. -/
def ob (b : Nat) (o : Obj) : Res := ⟨fun k => k = b, fun w => w.heap[b]? = some o, fun _ _ h hw => (h b rfl).trans hw⟩
/-- A row of cells. -/
def bk (b : Nat) (e : TypeId) (cs : List Value) : Res := ob b (.cells cs.toArray e (0, 0))

def nth {α : Type} : List α → Nat → Option α
  | [], _ => none
  | x :: _, 0 => some x
  | _ :: l, n + 1 => nth l n

theorem nth_eq {α : Type} : ∀ (l : List α) (n : Nat), nth l n = l[n]?
  | [], n => by simp [nth]
  | x :: l, 0 => by simp [nth]
  | x :: l, n + 1 => by simp [nth, nth_eq l n]

def upd {α : Type} : List α → Nat → α → List α
  | [], _, _ => []
  | _ :: l, 0, y => y :: l
  | x :: l, n + 1, y => x :: upd l n y

theorem nth_upd_ne {α : Type} : ∀ (l : List α) (i j : Nat) (y : α), i ≠ j → nth (upd l i y) j = nth l j
  | [], i, j, y, _ => by simp [upd]
  | x :: l, 0, 0, y, h => absurd rfl h
  | x :: l, 0, j + 1, y, _ => by simp [upd, nth]
  | x :: l, i + 1, 0, y, _ => by simp [upd, nth]
  | x :: l, i + 1, j + 1, y, h => by simp [upd, nth, nth_upd_ne l i j y (by omega)]

theorem nth_upd_eq {α : Type} : ∀ (l : List α) (i : Nat) (x y : α), nth l i = some x → nth (upd l i y) i = some y
  | [], i, x, y, h => by cases h
  | _ :: l, 0, x, y, _ => by simp [upd, nth]
  | _ :: l, i + 1, x, y, h => by simp only [upd, nth] at *; exact nth_upd_eq l i x y h

theorem nth_snoc {α : Type} (l : List α) (y : α) (i : Nat) (x : α) (h : nth (l ++ [y]) i = some x) : (nth l i = some x) ∨ (i = l.length ∧ x = y) := by
  rw [nth_eq] at *
  by_cases hi : i < l.length
  · rw [List.getElem?_append_left hi] at h; exact .inl h
  · rw [List.getElem?_append_right (by omega)] at h
    have : i - l.length = 0 := by
      have := (List.getElem?_eq_some_iff.1 h).1
      simp at this; omega
    rw [this] at h
    simp at h
    exact .inr ⟨by omega, h.symm⟩

/-- The state of memory: below w0 all is as it was; these are the call's own. -/
structure St (w0 w : World) (hs : List Res) : Prop where
  bel : Below w0.heap.size w0 w
  own : ∀ i r, nth hs i = some r → r.ok w ∧ ∀ k, r.fp k → w0.heap.size ≤ k ∧ k < w.heap.size
  sep : ∀ i j r s, nth hs i = some r → nth hs j = some s → i ≠ j → ∀ k, r.fp k → ¬ s.fp k

section
variable {w0 w w' : World} {hs : List Res}

theorem St.refl (w : World) : St w w [] := ⟨Below.refl _ _, fun i r h => (by cases h), fun i j r s h => (by cases h)⟩

theorem St.ok {i : Nat} {r : Res} (S : St w0 w hs) (h : nth hs i = some r) : r.ok w := (S.own i r h).1

theorem St.call (S : St w0 w hs) (hb : Below w.heap.size w w') : St w0 w' hs := by
  refine ⟨S.bel.trans (hb.mono S.bel.size), fun i r h => ?_, S.sep⟩
  obtain ⟨h1, h2⟩ := S.own i r h
  exact ⟨r.loc w w' (fun k hk => hb.block k (h2 k hk).2) h1, fun k hk => ⟨(h2 k hk).1, Nat.lt_of_lt_of_le (h2 k hk).2 hb.size⟩⟩

theorem St.add (S : St w0 w hs) (r : Res) (hr : r.ok w) (hlo : ∀ k, r.fp k → w0.heap.size ≤ k ∧ k < w.heap.size) (hd : ∀ i s, nth hs i = some s → ∀ k, r.fp k → ¬ s.fp k) : St w0 w (hs ++ [r]) := by
  refine ⟨S.bel, fun i s h => ?_, fun i j s t hi hj hne k hk => ?_⟩
  · rcases nth_snoc _ _ _ _ h with h | ⟨_, rfl⟩
    · exact S.own i s h
    · exact ⟨hr, hlo⟩
  · rcases nth_snoc _ _ _ _ hi with h1 | ⟨h1, e1⟩ <;> rcases nth_snoc _ _ _ _ hj with h2 | ⟨h2, e2⟩
    · exact S.sep i j s t h1 h2 hne k hk
    · exact fun e => hd i s h1 k (e2 ▸ e) hk
    · exact hd j t h2 k (e1 ▸ hk)
    · omega

/-- a call that lays new blocks, and tells what is in one of them -/
theorem St.callAdd (S : St w0 w hs) (hb : Below w.heap.size w w') (r : Res) (hr : r.ok w') (hlo : ∀ k, r.fp k → w.heap.size ≤ k ∧ k < w'.heap.size) : St w0 w' (hs ++ [r]) :=
  (S.call hb).add r hr (fun k hk => ⟨Nat.le_trans S.bel.size (hlo k hk).1, (hlo k hk).2⟩) fun i s h k hk hs' => by
    have := ((S.own i s h).2 k hs').2
    have := (hlo k hk).1
    omega

theorem St.alloc (S : St w0 w hs) (o : Obj) : St w0 (w.alloc o) (hs ++ [ob w.heap.size o]) := by
  refine S.callAdd ((Below.refl _ _).alloc (Nat.le_refl _) o) _ ?_ ?_
  · show (w.heap.push o)[w.heap.size]? = some o
    simp
  · rintro k rfl; simp

theorem St.drewN (S : St w0 w hs) (n : Nat) : St w0 (w.drewN n) hs := S.call ⟨rfl, rfl, rfl, Nat.le_refl _, fun _ _ => rfl⟩

/-- a resource is turned into another one -/
theorem St.turn {i : Nat} {r : Res} (S : St w0 w hs) (h : nth hs i = some r) (hk : Keeps r.fp w w') (r' : Res) (hr : r'.ok w') (hfp : ∀ k, r'.fp k → (r.fp k ∨ w.heap.size ≤ k) ∧ k < w'.heap.size) : St w0 w' (upd hs i r') := by
  have hi := S.own i r h
  refine ⟨S.bel.trans ⟨hk.os, hk.tape, hk.output, hk.size, fun k hk' => hk.block k (Nat.lt_of_lt_of_le hk' S.bel.size) fun e => by have := (hi.2 k e).1; omega⟩, fun j s hj => ?_, fun j j' s t hj hj' hne k hks => ?_⟩
  · by_cases e : i = j
    · subst e
      rw [nth_upd_eq _ _ _ _ h] at hj
      injection hj with hj
      subst hj
      refine ⟨hr, fun k hk' => ?_⟩
      obtain ⟨h1, h2⟩ := hfp k hk'
      refine ⟨?_, h2⟩
      rcases h1 with h1 | h1
      · exact (hi.2 k h1).1
      · exact Nat.le_trans S.bel.size h1
    · rw [nth_upd_ne _ _ _ _ e] at hj
      obtain ⟨h1, h2⟩ := S.own j s hj
      exact ⟨s.loc w w' (fun k hks => hk.block k (h2 k hks).2 fun e' => S.sep i j r s h hj e k e' hks) h1, fun k hks => ⟨(h2 k hks).1, Nat.lt_of_lt_of_le (h2 k hks).2 hk.size⟩⟩
  · by_cases e : i = j
    · subst e
      rw [nth_upd_eq _ _ _ _ h] at hj
      injection hj with hj
      subst hj
      rw [nth_upd_ne _ _ _ _ hne] at hj'
      intro ht
      rcases (hfp k hks).1 with h1 | h1
      · exact S.sep i j' r t h hj' hne k h1 ht
      · have := ((S.own j' t hj').2 k ht).2; omega
    · rw [nth_upd_ne _ _ _ _ e] at hj
      by_cases e' : i = j'
      · subst e'
        rw [nth_upd_eq _ _ _ _ h] at hj'
        injection hj' with hj'
        subst hj'
        intro ht
        rcases (hfp k ht).1 with h1 | h1
        · exact S.sep i j r s h hj e k h1 hks
        · have := ((S.own j s hj).2 k hks).2; omega
      · rw [nth_upd_ne _ _ _ _ e'] at hj'
        exact S.sep j j' s t hj hj' hne k hks

/-- the cell of an own row -/
theorem St.cell {i b : Nat} {e : TypeId} {cs : List Value} (S : St w0 w hs) (h : nth hs i = some (bk b e cs)) {j : Nat} {v : Value} (hv : nth cs j = some v) : w.cell? ⟨b, j, none⟩ = some v := by
  have := S.ok h
  simp only [bk, ob] at this
  simp [World.cell?, this]
  rw [nth_eq] at hv
  exact hv

/-- only these resources are kept in sight -/
def picks (hs : List Res) : List Nat → List Res → Prop
  | [], [] => True
  | i :: is, r :: rs => nth hs i = some r ∧ picks hs is rs
  | _, _ => False

theorem picks_nth : ∀ {is : List Nat} {rs : List Res}, picks hs is rs → ∀ j r, nth rs j = some r → ∃ i, nth is j = some i ∧ nth hs i = some r
  | [], [], _, j, r, h => by cases h
  | i :: is, s :: rs, hp, 0, r, h => by
    simp only [nth] at h
    injection h with h
    subst h
    exact ⟨i, rfl, hp.1⟩
  | i :: is, s :: rs, hp, j + 1, r, h => by
    simp only [nth] at *
    exact picks_nth hp.2 j r h
  | [], _ :: _, hp, _, _, _ => hp.elim
  | _ :: _, [], hp, _, _, _ => hp.elim

def nodupB : List Nat → Bool
  | [] => true
  | i :: is => !(is.any (Nat.beq i)) && nodupB is

theorem nodupB_nth : ∀ {is : List Nat}, nodupB is = true → ∀ j j' i i', nth is j = some i → nth is j' = some i' → j ≠ j' → i ≠ i'
  | [], _, j, j', i, i', h, _, _ => by cases h
  | x :: is, hn, 0, 0, i, i', h, h', hne => absurd rfl hne
  | x :: is, hn, 0, j' + 1, i, i', h, h', hne => by
    simp only [nth] at h h'
    injection h with h
    subst h
    simp only [nodupB, Bool.and_eq_true, Bool.not_eq_true', List.any_eq_false] at hn
    rintro rfl
    have hm : x ∈ is := by
      rw [nth_eq] at h'
      exact List.mem_of_getElem? h'
    exact hn.1 x hm (Nat.beq_refl x)
  | x :: is, hn, j + 1, 0, i, i', h, h', hne => by
    simp only [nth] at h h'
    injection h' with h'
    subst h'
    simp only [nodupB, Bool.and_eq_true, Bool.not_eq_true', List.any_eq_false] at hn
    rintro rfl
    have hm : i ∈ is := by
      rw [nth_eq] at h
      exact List.mem_of_getElem? h
    exact hn.1 i hm (Nat.beq_refl i)
  | x :: is, hn, j + 1, j' + 1, i, i', h, h', hne => by
    simp only [nth] at h h'
    simp only [nodupB, Bool.and_eq_true] at hn
    exact nodupB_nth hn.2 j j' i i' h h' (by omega)

theorem St.pick (S : St w0 w hs) (is : List Nat) (rs : List Res) (hp : picks hs is rs) (hn : nodupB is = true) : St w0 w rs := by
  refine ⟨S.bel, fun j r h => ?_, fun j j' r s h h' hne => ?_⟩
  · obtain ⟨i, _, hi⟩ := picks_nth hp j r h
    exact S.own i r hi
  · obtain ⟨i, h1, hi⟩ := picks_nth hp j r h
    obtain ⟨i', h1', hi'⟩ := picks_nth hp j' s h'
    exact S.sep i i' r s hi hi' (nodupB_nth hn j j' i i' h1 h1' hne)
end

/-! ### code -/
section
variable {P : Program} {Q : Exit → Act → World → Prop} {a : Act} {w : World}

theorem sq {x y : Code} (h : ∀ K : Act → World → Prop, (∀ a w, y.wp P Q a w → K a w) → x.wp P (Exit.then K Q) a w) : (Code.seq x y).wp P Q a w := wp_seq_k h
/-- a cut behind x -/
theorem sc {x y : Code} (M : Act → World → Prop) (h : x.wp P (Exit.then M Q) a w) (k : ∀ a w, M a w → y.wp P Q a w) : (Code.seq x y).wp P Q a w :=
  wp_seq (wp_mono h fun e a w hq => by cases e with
    | normal => exact k a w hq
    | _ => exact hq)
theorem rg {id : Nat} {l : List Oper} (h : wpList P l.toArray Q l a w) : (Code.region id l.toArray false).wp P Q a w := wp_region_lit h
theorem bl {id : Nat} {c : Code} (h : c.wp P (Exit.inBlock id Q) a w) : (Code.block id c).wp P Q a w := wp_block h

theorem te {K : Act → World → Prop} {e : Exit} (he : e ≠ .normal) (h : Q e a w) : Exit.then K Q e a w := by cases e <;> first | exact absurd rfl he | exact h
theorem tx {K : Act → World → Prop} {i : Nat} (h : Q (.exit i) a w) : Exit.then K Q (.exit i) a w := h
theorem tr {K : Act → World → Prop} (h : Q .ret a w) : Exit.then K Q .ret a w := h
theorem tn {K : Act → World → Prop} (h : K a w) : Exit.then K Q .normal a w := h
theorem bn {i : Nat} (h : Q .normal a w) : Exit.inBlock i Q .normal a w := h
theorem br {i : Nat} (h : Q .ret a w) : Exit.inBlock i Q .ret a w := h
theorem bh {i : Nat} (h : Q .normal a w) : Exit.inBlock i Q (.exit i) a w := by simp only [Exit.inBlock, if_true]; exact h
theorem bm {i j : Nat} (hne : Nat.beq j i = false) (h : Q (.exit j) a w) : Exit.inBlock i Q (.exit j) a w := by
  have : j ≠ i := by rintro rfl; rw [Nat.beq_refl] at hne; cases hne
  simp only [Exit.inBlock, if_neg this]; exact h

theorem sp {c : Code} (h : c.wp P (Exit.noGoto Q) a w) : (Code.scope c).wp P Q a w := wp_scope_straight h
theorem sn (h : Q .normal a w) : Exit.noGoto Q .normal a w := h
theorem sx {i : Nat} (h : Q (.exit i) a w) : Exit.noGoto Q (.exit i) a w := h
theorem sr (h : Q .ret a w) : Exit.noGoto Q .ret a w := h

def lpQ (I : Nat → Act → World → Prop) (n : Nat) (Q : Exit → Act → World → Prop) : Exit → Act → World → Prop := Exit.then (fun a w => ∃ m, m < n ∧ I m a w) Q
theorem ln {I : Nat → Act → World → Prop} {n m : Nat} (h : m < n) (hI : I m a w) : lpQ I n Q .normal a w := ⟨m, h, hI⟩
theorem lx {I : Nat → Act → World → Prop} {n i : Nat} (h : Q (.exit i) a w) : lpQ I n Q (.exit i) a w := h
theorem lr {I : Nat → Act → World → Prop} {n : Nat} (h : Q .ret a w) : lpQ I n Q .ret a w := h

/-- a loop -/
theorem lp {c : Code} (I : Nat → Act → World → Prop) (n : Nat) (h0 : I n a w) (round : ∀ n a w, I n a w → c.wp P (lpQ I n Q) a w) : (Code.loop c).wp P Q a w := by
  intro b k cs
  have key : ∀ n a w, I n a w → ∃ e a' w', Q e a' w' ∧ Arrives P (lone (b.at a (.code c :: .inLoop c :: k)) cs w) b k cs e a' w' := by
    intro n
    induction n using Nat.strongRecOn with
    | _ n ih =>
      intro a w hI
      obtain ⟨e, a₁, w₁, hq, harr⟩ := round n a w hI b (.inLoop c :: k) cs
      cases e with
      | normal =>
        obtain ⟨m, hlt, hI₁⟩ := hq
        obtain ⟨e₂, a₂, w₂, hq₂, harr₂⟩ := ih m hlt a₁ w₁ hI₁
        exact ⟨e₂, a₂, w₂, hq₂, .of_steps (Steps.trans harr (.one step_inLoop)) harr₂⟩
      | exit id => exact ⟨_, a₁, w₁, hq, .pass (x := .inLoop c) rfl (fun _ _ => .inl (by simp)) harr⟩
      | goto l => exact ⟨_, a₁, w₁, hq, .pass (x := .inLoop c) rfl (fun _ _ => .inl (by simp)) harr⟩
      | ret => exact ⟨_, a₁, w₁, hq, .pass (x := .inLoop c) rfl (fun _ _ => .inl (by simp)) harr⟩
      | panic ch => exact ⟨_, a₁, w₁, hq, .pass (x := .inLoop c) rfl (fun _ _ => .inl (by simp)) harr⟩
      | outgrown => exact ⟨_, a₁, w₁, hq, .pass (x := .inLoop c) rfl (fun _ _ => .inl (by simp)) harr⟩
  obtain ⟨e, a', w', hq, harr⟩ := key n a w h0
  exact ⟨e, a', w', hq, .of_steps (.one step_loop) harr⟩

variable {n : Nat} {l : List (Nat × Value)}
/-- a test -/
theorem cb {c : Operand} {x y : Code} {t : Bool} (F : Fr n a l) (hc : evl l c = some (.bool t)) (ht : t = true → x.wp P Q a w) (hf : t = false → y.wp P Q a w) : (Code.cond c x y).wp P Q a w :=
  wp_cond_split (F.ev hc) ht hf
theorem cd {c : Operand} {x y : Code} {p : Prop} [Decidable p] (F : Fr n a l) (hc : evl l c = some (.bool (decide p))) (ht : p → x.wp P Q a w) (hf : ¬ p → y.wp P Q a w) : (Code.cond c x y).wp P Q a w :=
  wp_cond_split (F.ev hc) (fun h => ht (of_decide_eq_true h)) (fun h => hf (of_decide_eq_false h))
theorem ct {c : Operand} {x y : Code} {t : Bool} (F : Fr n a l) (hc : evl l c = some (.bool t)) (h : t = true) (ht : x.wp P Q a w) : (Code.cond c x y).wp P Q a w := by
  subst h; exact wp_cond_true (F.ev hc) ht
theorem cf {c : Operand} {x y : Code} {t : Bool} (F : Fr n a l) (hc : evl l c = some (.bool t)) (h : t = false) (hf : y.wp P Q a w) : (Code.cond c x y).wp P Q a w := by
  subst h; exact wp_cond_false (F.ev hc) hf

/-- the end -/
theorem rt1 {fn : Func} {R : Ending → World → Prop} {t : Nat} {v : Value} (F : Fr n a l) (hr : fn.results = #[.tmp t]) (hv : look l t = some v) (h : R (.returned v) w) : bodyPost P fn R .ret a w :=
  bodyPost_ret (results_tmp hr _ _ _) F.defers (by rw [Array.getD_eq_getD_getElem?, F.get t v hv]; exact h)
theorem rt2 {fn : Func} {R : Ending → World → Prop} {t u : Nat} {v x : Value} (F : Fr n a l) (hr : fn.results = #[.tmp t, .tmp u]) (hv : look l t = some v) (hx : look l u = some x) (h : R (.returned (.tuple #[v, x])) w) : bodyPost P fn R .ret a w :=
  bodyPost_ret (results_tmp2 hr _ _ _) F.defers (by simp only [Array.getD_eq_getD_getElem?, F.get t v hv, F.get u x hx]; exact h)
theorem rt3 {fn : Func} {R : Ending → World → Prop} {t u s : Nat} {v x y : Value} (F : Fr n a l) (hr : fn.results = #[.tmp t, .tmp u, .tmp s]) (hv : look l t = some v) (hx : look l u = some x) (hy : look l s = some y) (h : R (.returned (.tuple #[v, x, y])) w) : bodyPost P fn R .ret a w :=
  bodyPost_ret (results_tmp3 hr _ _ _) F.defers (by simp only [Array.getD_eq_getD_getElem?, F.get t v hv, F.get u x hx, F.get s y hy]; exact h)
theorem rt0 {fn : Func} {R : Ending → World → Prop} (F : Fr n a l) (hr : fn.results = #[]) (h : R (.returned (.tuple #[])) w) : bodyPost P fn R .ret a w :=
  bodyPost_ret (results_none hr _ _ _) F.defers h
theorem rn0 {fn : Func} {R : Ending → World → Prop} (F : Fr n a l) (hr : fn.results = #[]) (h : R (.returned (.tuple #[])) w) : bodyPost P fn R .normal a w :=
  bodyPost_end (results_none hr _ _ _) F.defers h
end
end Go.Eng
