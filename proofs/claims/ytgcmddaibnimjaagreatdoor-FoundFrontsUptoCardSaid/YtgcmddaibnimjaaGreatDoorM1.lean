/- A part of the proof of a law of this seat. No condition of its own. -/
import Derived.WalkKit
import Derived.Deep.Quiet
import Derived.KernelRfl
import Derived.Maps.AppendAt
import Derived.Laws.OwnMore
import Derived.ArgAppend
import Derived.Deep.AppendSrc
import Derived.Great.BuildSlice
import Derived.MapKept
import Derived.WideMake
import Derived.Laws.MakeOwn
import Derived.Laws.IdiomStrings
import Derived.Laws.BytesString
import Derived.Laws.Strings3
import Derived.Laws.Concat
import Derived.Test.YtgcmddaibnimjaaGreatDoorProg
import Derived.ChangeKeysEq
import Derived.StillTail
import Derived.Test.YtgcmddaibnimjaaGreatDoorShelf
import Derived.Lib.SmallJoins
import Derived.OrdersIn
import Derived.TacticsIn
import Derived.RangeFuncWrites
import Derived.RangeFuncCalls
set_option linter.unusedVariables false
set_option linter.unusedSimpArgs false
set_option maxRecDepth 8000
set_option maxHeartbeats 4000000
namespace Go.Eng
theorem zi1 {p : Prop} [Decidable p] : (decide p = true) = p := decide_eq_true_eq
theorem zi2 {p : Prop} {x : Decidable p} : decide p = false ↔ ¬p := decide_eq_false_iff_not
theorem zi3 (b : Bool) : ((!b) = true) = (b = false) := Bool.not_eq_true' b
theorem zi4 (b : Bool) : ((!b) = false) = (b = true) := Bool.not_eq_false' b
theorem zi5 {a b : Bool} : (!a) = b ↔ a = !b := Bool.not_eq_eq_eq_not
theorem zi6 : (!true) = false := Bool.not_true
theorem zi7 : (!false) = true := Bool.not_false
theorem zi8 {p : Prop} [Decidable p] : ¬¬p ↔ p := Decidable.not_not
open Go.RowKit
def look : List (Nat × Value) → Nat → Option Value
 | [], _ => none
 | (k, v) :: l, i => cond (Nat.beq k i) (some v) (look l i)
structure Fr (n : Nat) (a : Act) (l : List (Nat × Value)) : Prop where
 size : a.tmps.size = n
 defers : a.defers = []
 get : ∀ i v, look l i = some v → a.tmps[i]? = some v
def evl (l : List (Nat × Value)) : Operand → Option Value
 | .tmp t => look l t
 | .const v => some v
 | .global g => some (.pointer (some ⟨g, 0, none⟩))
 | .func f => some (.func (.func f) #[] #[])
def evls (l : List (Nat × Value)) : List Operand → Option (List Value)
 | [] => some []
 | x :: xs => match evl l x, evls l xs with
  | some v, some vs => some (v :: vs)
  | _, _ => none
section
variable {n : Nat} {a : Act} {l : List (Nat × Value)}
theorem Fr.ev (F : Fr n a l) {x : Operand} {v : Value} (h : evl l x = some v) : a.eval x = v := by
 cases x with
 | tmp t =>
  have := F.get t v h
  simp [Act.eval, Array.getD_eq_getD_getElem?, this]
 | const u => simpa [evl, Act.eval] using h
 | global g => simpa [evl, Act.eval] using h
 | func f => simpa [evl, Act.eval] using h
theorem Fr.evs (F : Fr n a l) : ∀ {xs : List Operand} {vs : List Value}, evls l xs = some vs → xs.map a.eval = vs
 | [], vs, h => by simp [evls] at h; simp [h]
 | x :: xs, vs, h => by
  unfold evls at h
  cases h1 : evl l x with
  | none => rw [h1] at h; cases h
  | some v =>
   cases h2 : evls l xs with
   | none => rw [h1, h2] at h; cases h
   | some us =>
    rw [h1, h2] at h
    injection h with h
    subst h
    simp [F.ev h1, Fr.evs F h2]
theorem Fr.put (F : Fr n a l) {d : Nat} (hd : Nat.blt d n = true) (v : Value) : Fr n (a.put (some d) v) ((d, v) :: l) := by
 have hd' : d < n := by simpa [Nat.blt_eq] using hd
 refine ⟨by simp [Act.put, F.size], by simp [Act.put, F.defers], fun i u h => ?_⟩
 simp only [look] at h
 by_cases e : d = i
 ·subst e
  simp at h
  subst h
  simp only [Act.put]
  rw [Array.getElem?_setIfInBounds_self_of_lt (by rw [F.size]; exact hd')]
 ·have : Nat.beq d i = false := by
   cases hb : Nat.beq d i with
   | false => rfl
   | true => exact absurd (Nat.eq_of_beq_eq_true hb) e
  rw [this] at h
  simp only [cond_false] at h
  simp only [Act.put]
  rw [Array.getElem?_setIfInBounds_ne e]
  exact F.get i u h
def sub (l : List (Nat × Value)) : List (Nat × Value) → Prop
 | [] => True
 | (k, v) :: r => look l k = some v ∧ sub l r
theorem sub_look {l : List (Nat × Value)} : ∀ {r : List (Nat × Value)}, sub l r → ∀ i v, look r i = some v → look l i = some v
 | [], _, i, v, h => by cases h
 | (k, u) :: r, hs, i, v, h => by
  simp only [look] at h
  cases hb : Nat.beq k i with
  | true =>
   rw [hb] at h
   injection h with h
   subst h
   obtain rfl := Nat.eq_of_beq_eq_true hb
   exact hs.1
  | false =>
   rw [hb] at h
   exact sub_look hs.2 i v h
theorem Fr.sub (F : Fr n a l) (r : List (Nat × Value)) (h : Eng.sub l r) : Fr n a r := ⟨F.size, F.defers, fun i v hv => F.get i v (sub_look h i v hv)⟩
def num : Nat → List Value → List (Nat × Value)
 | _, [] => []
 | k, v :: vs => (k, v) :: num (k + 1) vs
theorem look_num : ∀ (vs : List Value) (k i : Nat) (v : Value), look (num k vs) i = some v → k ≤ i ∧ vs[i - k]? = some v
 | [], k, i, v, h => by cases h
 | u :: vs, k, i, v, h => by
  simp only [num, look] at h
  cases hb : Nat.beq k i with
  | true =>
   rw [hb] at h
   injection h with h
   subst h
   obtain rfl := Nat.eq_of_beq_eq_true hb
   simp
  | false =>
   rw [hb] at h
   obtain ⟨h1, h2⟩ := look_num vs (k + 1) i v h
   refine ⟨by omega, ?_⟩
   rw [show i - k = (i - (k + 1)) + 1 by omega]
   simpa using h2
theorem Fr.start (vs : List Value) (m : Nat) (h : vs.length ≤ m) : Fr m { tmps := vs.toArray ++ Array.replicate (m - vs.toArray.size) undef, defers := [] } (num 0 vs) := by
 refine ⟨by simp; omega, rfl, fun i v hv => ?_⟩
 have ⟨_, h2⟩ := look_num vs 0 i v hv
 simp only [Nat.sub_zero] at h2
 have hi : i < vs.length := (List.getElem?_eq_some_iff.1 h2).1
 simp only []
 rw [Array.getElem?_append_left (by simpa using hi)]
 simpa using h2
end
def Ret (R : Value → World → Prop) : Ending → World → Prop
 | .returned v, w => R v w
 | _, _ => False
theorem Ret.mono {R R' : Value → World → Prop} (h : ∀ v w, R v w → R' v w) : ∀ e w, Ret R e w → Ret R' e w
 | .returned _, _, hr => h _ _ hr
 | .panicked _, _, hr => hr.elim
 | .outgrown, _, hr => hr.elim
theorem ent {P : Program} {f : FuncId} {fn : Func} {c : Code} {vs : List Value} {w : World} {R : Ending → World → Prop} {m : Nat}
  (hf : P.funcs[f]? = some fn) (hn : fn.ntmps = m) (hb : fn.body = some c) (hm : Nat.ble vs.length m = true)
  (h : ∀ a, Fr m a (num 0 vs) → c.wp P (bodyPost P fn R) a w) : Calls P f vs.toArray w R := by
 subst hn
 exact calls_of_wp hf hb (h _ (Fr.start vs _ (by simpa using hm)))
structure Keeps (S : Nat → Prop) (w w' : World) : Prop where
 os : w'.os = w.os
 tape : w'.tape = w.tape
 output : w'.output = w.output
 size : w.heap.size ≤ w'.heap.size
 block : ∀ k, k < w.heap.size → ¬ S k → w'.heap[k]? = w.heap[k]?
theorem Keeps.below {w w' : World} (h : Keeps (fun _ => False) w w') : Below w.heap.size w w' := ⟨h.os, h.tape, h.output, h.size, fun k hk => h.block k hk id⟩
theorem keeps_of_below {S : Nat → Prop} {w w' : World} (h : Below w.heap.size w w') : Keeps S w w' := ⟨h.os, h.tape, h.output, h.size, fun k hk _ => h.block k hk⟩
theorem Keeps.refl (S : Nat → Prop) (w : World) : Keeps S w w := ⟨rfl, rfl, rfl, Nat.le_refl _, fun _ _ _ => rfl⟩
theorem Keeps.trans {S : Nat → Prop} {a b c : World} (h : Keeps S a b) (k : Keeps S b c) : Keeps S a c :=
 ⟨k.os.trans h.os, k.tape.trans h.tape, k.output.trans h.output, Nat.le_trans h.size k.size, fun i hi hn => (k.block i (Nat.lt_of_lt_of_le hi h.size) hn).trans (h.block i hi hn)⟩
theorem Keeps.mono {S S' : Nat → Prop} {a b : World} (h : Keeps S a b) (hs : ∀ k, S k → S' k) : Keeps S' a b := ⟨h.os, h.tape, h.output, h.size, fun i hi hn => h.block i hi fun e => hn (hs i e)⟩
structure Res where
 fp : Nat → Prop
 ok : World → Prop
 loc : ∀ w w' : World, (∀ k, fp k → w'.heap[k]? = w.heap[k]?) → ok w → ok w'
def ob (b : Nat) (o : Obj) : Res := ⟨fun k => k = b, fun w => w.heap[b]? = some o, fun _ _ h hw => (h b rfl).trans hw⟩
def bk (b : Nat) (e : TypeId) (cs : List Value) : Res := ob b (.cells cs.toArray e (0, 0))
def nth {α : Type} : List α → Nat → Option α
 | [], _ => none
 | x :: _, 0 => some x
 | _ :: l, n + 1 => nth l n
theorem nth_eq {α : Type} : ∀ (l : List α) (n : Nat), nth l n = l[n]?
 | [], n => by simp [nth]
 | x :: l, 0 => by simp [nth]
 | x :: l, n + 1 => by simp [nth, nth_eq l n]
def upd {α : Type} : List α → Nat → α → List α
 | [], _, _ => []
 | _ :: l, 0, y => y :: l
 | x :: l, n + 1, y => x :: upd l n y
theorem nth_upd_ne {α : Type} : ∀ (l : List α) (i j : Nat) (y : α), i ≠ j → nth (upd l i y) j = nth l j
 | [], i, j, y, _ => by simp [upd]
 | x :: l, 0, 0, y, h => absurd rfl h
 | x :: l, 0, j + 1, y, _ => by simp [upd, nth]
 | x :: l, i + 1, 0, y, _ => by simp [upd, nth]
 | x :: l, i + 1, j + 1, y, h => by simp [upd, nth, nth_upd_ne l i j y (by omega)]
theorem nth_upd_eq {α : Type} : ∀ (l : List α) (i : Nat) (x y : α), nth l i = some x → nth (upd l i y) i = some y
 | [], i, x, y, h => by cases h
 | _ :: l, 0, x, y, _ => by simp [upd, nth]
 | _ :: l, i + 1, x, y, h => by simp only [upd, nth] at *; exact nth_upd_eq l i x y h
theorem nth_snoc {α : Type} (l : List α) (y : α) (i : Nat) (x : α) (h : nth (l ++ [y]) i = some x) : (nth l i = some x) ∨ (i = l.length ∧ x = y) := by
 rw [nth_eq] at *
 by_cases hi : i < l.length
 ·rw [List.getElem?_append_left hi] at h; exact .inl h
 ·rw [List.getElem?_append_right (by omega)] at h
  have : i - l.length = 0 := by
   have := (List.getElem?_eq_some_iff.1 h).1
   simp at this; omega
  rw [this] at h
  simp at h
  exact .inr ⟨by omega, h.symm⟩
structure St (w0 w : World) (hs : List Res) : Prop where
 bel : Below w0.heap.size w0 w
 own : ∀ i r, nth hs i = some r → r.ok w ∧ ∀ k, r.fp k → w0.heap.size ≤ k ∧ k < w.heap.size
 sep : ∀ i j r s, nth hs i = some r → nth hs j = some s → i ≠ j → ∀ k, r.fp k → ¬ s.fp k
section
variable {w0 w w' : World} {hs : List Res}
theorem St.refl (w : World) : St w w [] := ⟨Below.refl _ _, fun i r h => (by cases h), fun i j r s h => (by cases h)⟩
theorem St.ok {i : Nat} {r : Res} (S : St w0 w hs) (h : nth hs i = some r) : r.ok w := (S.own i r h).1
theorem St.call (S : St w0 w hs) (hb : Below w.heap.size w w') : St w0 w' hs := by
 refine ⟨S.bel.trans (hb.mono S.bel.size), fun i r h => ?_, S.sep⟩
 obtain ⟨h1, h2⟩ := S.own i r h
 exact ⟨r.loc w w' (fun k hk => hb.block k (h2 k hk).2) h1, fun k hk => ⟨(h2 k hk).1, Nat.lt_of_lt_of_le (h2 k hk).2 hb.size⟩⟩
theorem St.add (S : St w0 w hs) (r : Res) (hr : r.ok w) (hlo : ∀ k, r.fp k → w0.heap.size ≤ k ∧ k < w.heap.size) (hd : ∀ i s, nth hs i = some s → ∀ k, r.fp k → ¬ s.fp k) : St w0 w (hs ++ [r]) := by
 refine ⟨S.bel, fun i s h => ?_, fun i j s t hi hj hne k hk => ?_⟩
 ·rcases nth_snoc _ _ _ _ h with h | ⟨_, rfl⟩
  ·exact S.own i s h
  ·exact ⟨hr, hlo⟩
 ·rcases nth_snoc _ _ _ _ hi with h1 | ⟨h1, e1⟩ <;> rcases nth_snoc _ _ _ _ hj with h2 | ⟨h2, e2⟩
  ·exact S.sep i j s t h1 h2 hne k hk
  ·exact fun e => hd i s h1 k (e2 ▸ e) hk
  ·exact hd j t h2 k (e1 ▸ hk)
  ·omega
theorem St.callAdd (S : St w0 w hs) (hb : Below w.heap.size w w') (r : Res) (hr : r.ok w') (hlo : ∀ k, r.fp k → w.heap.size ≤ k ∧ k < w'.heap.size) : St w0 w' (hs ++ [r]) :=
 (S.call hb).add r hr (fun k hk => ⟨Nat.le_trans S.bel.size (hlo k hk).1, (hlo k hk).2⟩) fun i s h k hk hs' => by
  have := ((S.own i s h).2 k hs').2
  have := (hlo k hk).1
  omega
theorem St.alloc (S : St w0 w hs) (o : Obj) : St w0 (w.alloc o) (hs ++ [ob w.heap.size o]) := by
 refine S.callAdd ((Below.refl _ _).alloc (Nat.le_refl _) o) _ ?_ ?_
 ·show (w.heap.push o)[w.heap.size]? = some o
  simp
 ·rintro k rfl; simp
theorem St.drewN (S : St w0 w hs) (n : Nat) : St w0 (w.drewN n) hs := S.call ⟨rfl, rfl, rfl, Nat.le_refl _, fun _ _ => rfl⟩
theorem St.turn {i : Nat} {r : Res} (S : St w0 w hs) (h : nth hs i = some r) (hk : Keeps r.fp w w') (r' : Res) (hr : r'.ok w') (hfp : ∀ k, r'.fp k → (r.fp k ∨ w.heap.size ≤ k) ∧ k < w'.heap.size) : St w0 w' (upd hs i r') := by
 have hi := S.own i r h
 refine ⟨S.bel.trans ⟨hk.os, hk.tape, hk.output, hk.size, fun k hk' => hk.block k (Nat.lt_of_lt_of_le hk' S.bel.size) fun e => by have := (hi.2 k e).1; omega⟩, fun j s hj => ?_, fun j j' s t hj hj' hne k hks => ?_⟩
 ·by_cases e : i = j
  ·subst e
   rw [nth_upd_eq _ _ _ _ h] at hj
   injection hj with hj
   subst hj
   refine ⟨hr, fun k hk' => ?_⟩
   obtain ⟨h1, h2⟩ := hfp k hk'
   refine ⟨?_, h2⟩
   rcases h1 with h1 | h1
   ·exact (hi.2 k h1).1
   ·exact Nat.le_trans S.bel.size h1
  ·rw [nth_upd_ne _ _ _ _ e] at hj
   obtain ⟨h1, h2⟩ := S.own j s hj
   exact ⟨s.loc w w' (fun k hks => hk.block k (h2 k hks).2 fun e' => S.sep i j r s h hj e k e' hks) h1, fun k hks => ⟨(h2 k hks).1, Nat.lt_of_lt_of_le (h2 k hks).2 hk.size⟩⟩
 ·by_cases e : i = j
  ·subst e
   rw [nth_upd_eq _ _ _ _ h] at hj
   injection hj with hj
   subst hj
   rw [nth_upd_ne _ _ _ _ hne] at hj'
   intro ht
   rcases (hfp k hks).1 with h1 | h1
   ·exact S.sep i j' r t h hj' hne k h1 ht
   ·have := ((S.own j' t hj').2 k ht).2; omega
  ·rw [nth_upd_ne _ _ _ _ e] at hj
   by_cases e' : i = j'
   ·subst e'
    rw [nth_upd_eq _ _ _ _ h] at hj'
    injection hj' with hj'
    subst hj'
    intro ht
    rcases (hfp k ht).1 with h1 | h1
    ·exact S.sep i j r s h hj e k h1 hks
    ·have := ((S.own j s hj).2 k hks).2; omega
   ·rw [nth_upd_ne _ _ _ _ e'] at hj'
    exact S.sep j j' s t hj hj' hne k hks
theorem St.cell {i b : Nat} {e : TypeId} {cs : List Value} (S : St w0 w hs) (h : nth hs i = some (bk b e cs)) {j : Nat} {v : Value} (hv : nth cs j = some v) : w.cell? ⟨b, j, none⟩ = some v := by
 have := S.ok h
 simp only [bk, ob] at this
 simp [World.cell?, this]
 rw [nth_eq] at hv
 exact hv
def picks (hs : List Res) : List Nat → List Res → Prop
 | [], [] => True
 | i :: is, r :: rs => nth hs i = some r ∧ picks hs is rs
 | _, _ => False
theorem picks_nth : ∀ {is : List Nat} {rs : List Res}, picks hs is rs → ∀ j r, nth rs j = some r → ∃ i, nth is j = some i ∧ nth hs i = some r
 | [], [], _, j, r, h => by cases h
 | i :: is, s :: rs, hp, 0, r, h => by
  simp only [nth] at h
  injection h with h
  subst h
  exact ⟨i, rfl, hp.1⟩
 | i :: is, s :: rs, hp, j + 1, r, h => by
  simp only [nth] at *
  exact picks_nth hp.2 j r h
 | [], _ :: _, hp, _, _, _ => hp.elim
 | _ :: _, [], hp, _, _, _ => hp.elim
def nodupB : List Nat → Bool
 | [] => true
 | i :: is => !(is.any (Nat.beq i)) && nodupB is
theorem nodupB_nth : ∀ {is : List Nat}, nodupB is = true → ∀ j j' i i', nth is j = some i → nth is j' = some i' → j ≠ j' → i ≠ i'
 | [], _, j, j', i, i', h, _, _ => by cases h
 | x :: is, hn, 0, 0, i, i', h, h', hne => absurd rfl hne
 | x :: is, hn, 0, j' + 1, i, i', h, h', hne => by
  simp only [nth] at h h'
  injection h with h
  subst h
  simp only [nodupB, Bool.and_eq_true, Bool.not_eq_true', List.any_eq_false] at hn
  rintro rfl
  have hm : x ∈ is := by
   rw [nth_eq] at h'
   exact List.mem_of_getElem? h'
  exact hn.1 x hm (Nat.beq_refl x)
 | x :: is, hn, j + 1, 0, i, i', h, h', hne => by
  simp only [nth] at h h'
  injection h' with h'
  subst h'
  simp only [nodupB, Bool.and_eq_true, Bool.not_eq_true', List.any_eq_false] at hn
  rintro rfl
  have hm : i ∈ is := by
   rw [nth_eq] at h
   exact List.mem_of_getElem? h
  exact hn.1 i hm (Nat.beq_refl i)
 | x :: is, hn, j + 1, j' + 1, i, i', h, h', hne => by
  simp only [nth] at h h'
  simp only [nodupB, Bool.and_eq_true] at hn
  exact nodupB_nth hn.2 j j' i i' h h' (by omega)
theorem St.pick (S : St w0 w hs) (is : List Nat) (rs : List Res) (hp : picks hs is rs) (hn : nodupB is = true) : St w0 w rs := by
 refine ⟨S.bel, fun j r h => ?_, fun j j' r s h h' hne => ?_⟩
 ·obtain ⟨i, _, hi⟩ := picks_nth hp j r h
  exact S.own i r hi
 ·obtain ⟨i, h1, hi⟩ := picks_nth hp j r h
  obtain ⟨i', h1', hi'⟩ := picks_nth hp j' s h'
  exact S.sep i i' r s hi hi' (nodupB_nth hn j j' i i' h1 h1' hne)
end
section
variable {P : Program} {Q : Exit → Act → World → Prop} {a : Act} {w : World}
theorem sq {x y : Code} (h : ∀ K : Act → World → Prop, (∀ a w, y.wp P Q a w → K a w) → x.wp P (Exit.then K Q) a w) : (Code.seq x y).wp P Q a w := wp_seq_k h
theorem rg {id : Nat} {l : List Oper} (h : wpList P l.toArray Q l a w) : (Code.region id l.toArray false).wp P Q a w := wp_region_lit h
theorem bl {id : Nat} {c : Code} (h : c.wp P (Exit.inBlock id Q) a w) : (Code.block id c).wp P Q a w := wp_block h
theorem tx {K : Act → World → Prop} {i : Nat} (h : Q (.exit i) a w) : Exit.then K Q (.exit i) a w := h
theorem tr {K : Act → World → Prop} (h : Q .ret a w) : Exit.then K Q .ret a w := h
theorem tn {K : Act → World → Prop} (h : K a w) : Exit.then K Q .normal a w := h
theorem bn {i : Nat} (h : Q .normal a w) : Exit.inBlock i Q .normal a w := h
theorem br {i : Nat} (h : Q .ret a w) : Exit.inBlock i Q .ret a w := h
theorem bh {i : Nat} (h : Q .normal a w) : Exit.inBlock i Q (.exit i) a w := by simp only [Exit.inBlock, if_true]; exact h
theorem bm {i j : Nat} (hne : Nat.beq j i = false) (h : Q (.exit j) a w) : Exit.inBlock i Q (.exit j) a w := by
 have : j ≠ i := by rintro rfl; rw [Nat.beq_refl] at hne; cases hne
 simp only [Exit.inBlock, if_neg this]; exact h
theorem sp {c : Code} (h : c.wp P (Exit.noGoto Q) a w) : (Code.scope c).wp P Q a w := wp_scope_straight h
theorem sx {i : Nat} (h : Q (.exit i) a w) : Exit.noGoto Q (.exit i) a w := h
theorem sr (h : Q .ret a w) : Exit.noGoto Q .ret a w := h
def lpQ (I : Nat → Act → World → Prop) (n : Nat) (Q : Exit → Act → World → Prop) : Exit → Act → World → Prop := Exit.then (fun a w => ∃ m, m < n ∧ I m a w) Q
theorem ln {I : Nat → Act → World → Prop} {n m : Nat} (h : m < n) (hI : I m a w) : lpQ I n Q .normal a w := ⟨m, h, hI⟩
theorem lx {I : Nat → Act → World → Prop} {n i : Nat} (h : Q (.exit i) a w) : lpQ I n Q (.exit i) a w := h
theorem lr {I : Nat → Act → World → Prop} {n : Nat} (h : Q .ret a w) : lpQ I n Q .ret a w := h
theorem lp {c : Code} (I : Nat → Act → World → Prop) (n : Nat) (h0 : I n a w) (round : ∀ n a w, I n a w → c.wp P (lpQ I n Q) a w) : (Code.loop c).wp P Q a w := by
 intro b k cs
 have key : ∀ n a w, I n a w → ∃ e a' w', Q e a' w' ∧ Arrives P (lone (b.at a (.code c :: .inLoop c :: k)) cs w) b k cs e a' w' := by
  intro n
  induction n using Nat.strongRecOn with
  | _ n ih =>
   intro a w hI
   obtain ⟨e, a₁, w₁, hq, harr⟩ := round n a w hI b (.inLoop c :: k) cs
   cases e with
   | normal =>
    obtain ⟨m, hlt, hI₁⟩ := hq
    obtain ⟨e₂, a₂, w₂, hq₂, harr₂⟩ := ih m hlt a₁ w₁ hI₁
    exact ⟨e₂, a₂, w₂, hq₂, .of_steps (Steps.trans harr (.one step_inLoop)) harr₂⟩
   | exit id => exact ⟨_, a₁, w₁, hq, .pass (x := .inLoop c) rfl (fun _ _ => .inl (by simp)) harr⟩
   | goto l => exact ⟨_, a₁, w₁, hq, .pass (x := .inLoop c) rfl (fun _ _ => .inl (by simp)) harr⟩
   | ret => exact ⟨_, a₁, w₁, hq, .pass (x := .inLoop c) rfl (fun _ _ => .inl (by simp)) harr⟩
   | panic ch => exact ⟨_, a₁, w₁, hq, .pass (x := .inLoop c) rfl (fun _ _ => .inl (by simp)) harr⟩
   | outgrown => exact ⟨_, a₁, w₁, hq, .pass (x := .inLoop c) rfl (fun _ _ => .inl (by simp)) harr⟩
 obtain ⟨e, a', w', hq, harr⟩ := key n a w h0
 exact ⟨e, a', w', hq, .of_steps (.one step_loop) harr⟩
variable {n : Nat} {l : List (Nat × Value)}
theorem cb {c : Operand} {x y : Code} {t : Bool} (F : Fr n a l) (hc : evl l c = some (.bool t)) (ht : t = true → x.wp P Q a w) (hf : t = false → y.wp P Q a w) : (Code.cond c x y).wp P Q a w :=
 wp_cond_split (F.ev hc) ht hf
theorem cd {c : Operand} {x y : Code} {p : Prop} [Decidable p] (F : Fr n a l) (hc : evl l c = some (.bool (decide p))) (ht : p → x.wp P Q a w) (hf : ¬ p → y.wp P Q a w) : (Code.cond c x y).wp P Q a w :=
 wp_cond_split (F.ev hc) (fun h => ht (of_decide_eq_true h)) (fun h => hf (of_decide_eq_false h))
theorem ct {c : Operand} {x y : Code} {t : Bool} (F : Fr n a l) (hc : evl l c = some (.bool t)) (h : t = true) (ht : x.wp P Q a w) : (Code.cond c x y).wp P Q a w := by
 subst h; exact wp_cond_true (F.ev hc) ht
theorem cf {c : Operand} {x y : Code} {t : Bool} (F : Fr n a l) (hc : evl l c = some (.bool t)) (h : t = false) (hf : y.wp P Q a w) : (Code.cond c x y).wp P Q a w := by
 subst h; exact wp_cond_false (F.ev hc) hf
theorem rt1 {fn : Func} {R : Ending → World → Prop} {t : Nat} {v : Value} (F : Fr n a l) (hr : fn.results = #[.tmp t]) (hv : look l t = some v) (h : R (.returned v) w) : bodyPost P fn R .ret a w :=
 bodyPost_ret (results_tmp hr _ _ _) F.defers (by rw [Array.getD_eq_getD_getElem?, F.get t v hv]; exact h)
theorem rt2 {fn : Func} {R : Ending → World → Prop} {t u : Nat} {v x : Value} (F : Fr n a l) (hr : fn.results = #[.tmp t, .tmp u]) (hv : look l t = some v) (hx : look l u = some x) (h : R (.returned (.tuple #[v, x])) w) : bodyPost P fn R .ret a w :=
 bodyPost_ret (results_tmp2 hr _ _ _) F.defers (by simp only [Array.getD_eq_getD_getElem?, F.get t v hv, F.get u x hx]; exact h)
theorem rt3 {fn : Func} {R : Ending → World → Prop} {t u s : Nat} {v x y : Value} (F : Fr n a l) (hr : fn.results = #[.tmp t, .tmp u, .tmp s]) (hv : look l t = some v) (hx : look l u = some x) (hy : look l s = some y) (h : R (.returned (.tuple #[v, x, y])) w) : bodyPost P fn R .ret a w :=
 bodyPost_ret (results_tmp3 hr _ _ _) F.defers (by simp only [Array.getD_eq_getD_getElem?, F.get t v hv, F.get u x hx, F.get s y hy]; exact h)
theorem rt0 {fn : Func} {R : Ending → World → Prop} (F : Fr n a l) (hr : fn.results = #[]) (h : R (.returned (.tuple #[])) w) : bodyPost P fn R .ret a w :=
 bodyPost_ret (results_none hr _ _ _) F.defers h
theorem rn0 {fn : Func} {R : Ending → World → Prop} (F : Fr n a l) (hr : fn.results = #[]) (h : R (.returned (.tuple #[])) w) : bodyPost P fn R .normal a w :=
 bodyPost_end (results_none hr _ _ _) F.defers h
end
end Go.Eng
namespace Go.Eng
open Go.RowKit
def Yl (P : Program) (o : Oper) (l : List (Nat × Value)) (w : World) (v : Value) (w' : World) : Prop :=
 ∀ n a, Fr n a l → (execOp a.eval o).run P w = .ok (.value v) w'
def Sk (P : Program) (o : Oper) (l : List (Nat × Value)) (w w' : World) : Prop :=
 ∀ n a, Fr n a l → (execOp a.eval o).run P w = .ok .skip w'
def Cl (P : Program) (o : Oper) (l : List (Nat × Value)) (w : World) (g : Nat) (vs : List Value) : Prop :=
 ∀ n a, Fr n a l → (execOp a.eval o).run P w = .ok (.enter g vs.toArray) w
section
variable {P : Program} {Q : Exit → Act → World → Prop} {a : Act} {w w' : World} {n : Nat} {l : List (Nat × Value)} {o : Oper} {rest : List Oper} {ops : Array Oper}
theorem wanted_none (hg : o.guard = none) (t : Array Value) : Region.wanted o (yielded ops t) = true := by simp [Region.wanted, hg]
theorem dv (F : Fr n a l) {v : Value} (y : Yl P o l w v w') (hg : o.guard = none) {d : Nat} (hd : o.dst = some d) (hn : Nat.blt d n = true)
  (k : ∀ a, Fr n a ((d, v) :: l) → wpList P ops Q rest a w') : wpList P ops Q (o :: rest) a w := by
 refine wpList_plain hg fun K hK => ?_
 unfold Oper.wp
 rw [y n a F, Oper.upon_value, hd]
 exact hK _ _ (k _ (F.put hn v))
theorem dk (F : Fr n a l) (y : Sk P o l w w') (hg : o.guard = none) (hd : o.dst = none)
  (k : ∀ a, Fr n a l → wpList P ops Q rest a w') : wpList P ops Q (o :: rest) a w := by
 refine wpList_plain hg fun K hK => ?_
 unfold Oper.wp
 rw [y n a F, Oper.upon_skip, hd]
 exact hK _ _ (k _ F)
theorem dc (F : Fr n a l) {g : Nat} {vs : List Value} (y : Cl P o l w g vs) (hg : o.guard = none) {d : Nat} (hd : o.dst = some d) (hn : Nat.blt d n = true)
  {R : Value → World → Prop} (hc : Calls P g vs.toArray w (Ret R))
  (k : ∀ a v w', R v w' → Fr n a ((d, v) :: l) → wpList P ops Q rest a w') : wpList P ops Q (o :: rest) a w := by
 refine wpList_plain hg fun K hK => ?_
 unfold Oper.wp
 rw [y n a F, Oper.upon_enter]
 refine hc.mono fun e w' hr => ?_
 cases e with
 | returned v => rw [hd]; exact hK _ _ (k _ v w' hr (F.put hn v))
 | panicked c => exact hr.elim
 | outgrown => exact hr.elim
theorem dn (h : Q .normal a w) : wpList P ops Q [] a w := h
def Oper.bare (o : Oper) : Oper := { o with guard := none }
theorem wanted_some (F : Fr n a l) {j dj : Nat} {b want : Bool} (hg : o.guard = some (j, want)) (hj : (ops[j]?).bind (·.dst) = some dj) (hb : look l dj = some (.bool b)) :
  Region.wanted o (yielded ops a.tmps) = (b == want) := by
 have := F.get dj _ hb
 simp [Region.wanted, hg, yielded, hj, this]
theorem gv (F : Fr n a l) {j dj : Nat} {b want : Bool} (hg : o.guard = some (j, want)) (hj : (ops[j]?).bind (·.dst) = some dj) (hb : look l dj = some (.bool b)) (he : b = want)
  {v : Value} (y : Yl P o l w v w') {d : Nat} (hd : o.dst = some d) (hn : Nat.blt d n = true)
  (k : ∀ a, Fr n a ((d, v) :: l) → wpList P ops Q rest a w') : wpList P ops Q (o :: rest) a w := by
 refine wpList_step fun K hK => ?_
 rw [wanted_some F hg hj hb, he]
 simp only [beq_self_eq_true, if_true]
 unfold Oper.wp
 rw [y n a F, Oper.upon_value, hd]
 exact hK _ _ (k _ (F.put hn v))
theorem gc (F : Fr n a l) {j dj : Nat} {b want : Bool} (hg : o.guard = some (j, want)) (hj : (ops[j]?).bind (·.dst) = some dj) (hb : look l dj = some (.bool b)) (he : b = want)
  {g : Nat} {vs : List Value} (y : Cl P o l w g vs) {d : Nat} (hd : o.dst = some d) (hn : Nat.blt d n = true)
  {R : Value → World → Prop} (hc : Calls P g vs.toArray w (Ret R))
  (k : ∀ a v w', R v w' → Fr n a ((d, v) :: l) → wpList P ops Q rest a w') : wpList P ops Q (o :: rest) a w := by
 refine wpList_step fun K hK => ?_
 rw [wanted_some F hg hj hb, he]
 simp only [beq_self_eq_true, if_true]
 unfold Oper.wp
 rw [y n a F, Oper.upon_enter]
 refine hc.mono fun e w' hr => ?_
 cases e with
 | returned v => rw [hd]; exact hK _ _ (k _ v w' hr (F.put hn v))
 | panicked c => exact hr.elim
 | outgrown => exact hr.elim
theorem gs (F : Fr n a l) {j dj : Nat} {b want : Bool} (hg : o.guard = some (j, want)) (hj : (ops[j]?).bind (·.dst) = some dj) (hb : look l dj = some (.bool b)) (he : b = !want)
  {d : Nat} (hd : o.dst = some d) (hn : Nat.blt d n = true)
  (k : ∀ a, Fr n a ((d, undef) :: l) → wpList P ops Q rest a w) : wpList P ops Q (o :: rest) a w := by
 refine wpList_step fun K hK => ?_
 rw [wanted_some F hg hj hb, he]
 rw [if_neg (by cases want <;> simp), hd]
 exact hK _ _ (k _ (F.put hn _))
theorem wanted_undef (F : Fr n a l) {j dj : Nat} {want : Bool} (hg : o.guard = some (j, want)) (hj : (ops[j]?).bind (·.dst) = some dj) (hb : look l dj = some undef) :
  Region.wanted o (yielded ops a.tmps) = false := by
 have := F.get dj _ hb
 simp [Region.wanted, hg, yielded, hj, this, undef]
theorem gu (F : Fr n a l) {j dj : Nat} {want : Bool} (hg : o.guard = some (j, want)) (hj : (ops[j]?).bind (·.dst) = some dj) (hb : look l dj = some undef)
  {d : Nat} (hd : o.dst = some d) (hn : Nat.blt d n = true)
  (k : ∀ a, Fr n a ((d, undef) :: l) → wpList P ops Q rest a w) : wpList P ops Q (o :: rest) a w := by
 refine wpList_step fun K hK => ?_
 rw [wanted_undef F hg hj hb, hd]
 exact hK _ _ (k _ (F.put hn _))
variable {C : World → Prop} {Q' : Act → Prop}
theorem qv (F : Fr n a l) {v : Value} (y : ∀ w, C w → Yl P o l w v w) (hg : o.guard = none) {d : Nat} (hd : o.dst = some d) (hn : Nat.blt d n = true)
  (k : ∀ a, Fr n a ((d, v) :: l) → wpQuiet P ops C Q' rest a) : wpQuiet P ops C Q' (o :: rest) a := by
 refine wpQuiet_step fun K hK => ?_
 rw [wanted_none hg, if_pos rfl]
 refine ⟨v, fun w hw => ?_, by rw [hd]; exact hK _ (k _ (F.put hn v))⟩
 unfold Oper.quietAt
 rw [y w hw n a F]
 exact ⟨rfl, rfl⟩
theorem qc (F : Fr n a l) {g : Nat} {vs : List Value} (v : Value) (y : ∀ w, C w → Cl P o l w g vs) (hg : o.guard = none) {d : Nat} (hd : o.dst = some d) (hn : Nat.blt d n = true)
  (hc : ∀ w, C w → Calls P g vs.toArray w (Ret fun u w' => u = v ∧ C w'))
  (k : ∀ a, Fr n a ((d, v) :: l) → wpQuiet P ops C Q' rest a) : wpQuiet P ops C Q' (o :: rest) a := by
 refine wpQuiet_step fun K hK => ?_
 rw [wanted_none hg, if_pos rfl]
 refine ⟨v, fun w hw => ?_, by rw [hd]; exact hK _ (k _ (F.put hn v))⟩
 unfold Oper.quietAt
 rw [y w hw n a F]
 refine ⟨rfl, (hc w hw).mono fun e w' hr => ?_⟩
 cases e with
 | returned u => exact ⟨by rw [hr.1], hr.2⟩
 | panicked c => exact hr.elim
 | outgrown => exact hr.elim
theorem qgv (F : Fr n a l) {j dj : Nat} {b want : Bool} (hg : o.guard = some (j, want)) (hj : (ops[j]?).bind (·.dst) = some dj) (hb : look l dj = some (.bool b)) (he : b = want)
  {v : Value} (y : ∀ w, C w → Yl P o l w v w) {d : Nat} (hd : o.dst = some d) (hn : Nat.blt d n = true)
  (k : ∀ a, Fr n a ((d, v) :: l) → wpQuiet P ops C Q' rest a) : wpQuiet P ops C Q' (o :: rest) a := by
 refine wpQuiet_step fun K hK => ?_
 rw [wanted_some F hg hj hb, he]
 simp only [beq_self_eq_true, if_true]
 refine ⟨v, fun w hw => ?_, by rw [hd]; exact hK _ (k _ (F.put hn v))⟩
 unfold Oper.quietAt
 rw [y w hw n a F]
 exact ⟨rfl, rfl⟩
theorem qgc (F : Fr n a l) {j dj : Nat} {b want : Bool} (hg : o.guard = some (j, want)) (hj : (ops[j]?).bind (·.dst) = some dj) (hb : look l dj = some (.bool b)) (he : b = want)
  {g : Nat} {vs : List Value} (v : Value) (y : ∀ w, C w → Cl P o l w g vs) {d : Nat} (hd : o.dst = some d) (hn : Nat.blt d n = true)
  (hc : ∀ w, C w → Calls P g vs.toArray w (Ret fun u w' => u = v ∧ C w'))
  (k : ∀ a, Fr n a ((d, v) :: l) → wpQuiet P ops C Q' rest a) : wpQuiet P ops C Q' (o :: rest) a := by
 refine wpQuiet_step fun K hK => ?_
 rw [wanted_some F hg hj hb, he]
 simp only [beq_self_eq_true, if_true]
 refine ⟨v, fun w hw => ?_, by rw [hd]; exact hK _ (k _ (F.put hn v))⟩
 unfold Oper.quietAt
 rw [y w hw n a F]
 refine ⟨rfl, (hc w hw).mono fun e w' hr => ?_⟩
 cases e with
 | returned u => exact ⟨by rw [hr.1], hr.2⟩
 | panicked c => exact hr.elim
 | outgrown => exact hr.elim
theorem qgs (F : Fr n a l) {j dj : Nat} {b want : Bool} (hg : o.guard = some (j, want)) (hj : (ops[j]?).bind (·.dst) = some dj) (hb : look l dj = some (.bool b)) (he : b = !want)
  {d : Nat} (hd : o.dst = some d) (hn : Nat.blt d n = true)
  (k : ∀ a, Fr n a ((d, undef) :: l) → wpQuiet P ops C Q' rest a) : wpQuiet P ops C Q' (o :: rest) a := by
 refine wpQuiet_step fun K hK => ?_
 rw [wanted_some F hg hj hb, he]
 rw [if_neg (by cases want <;> simp), hd]
 exact hK _ (k _ (F.put hn _))
theorem qgu (F : Fr n a l) {j dj : Nat} {want : Bool} (hg : o.guard = some (j, want)) (hj : (ops[j]?).bind (·.dst) = some dj) (hb : look l dj = some undef)
  {d : Nat} (hd : o.dst = some d) (hn : Nat.blt d n = true)
  (k : ∀ a, Fr n a ((d, undef) :: l) → wpQuiet P ops C Q' rest a) : wpQuiet P ops C Q' (o :: rest) a := by
 refine wpQuiet_step fun K hK => ?_
 rw [wanted_undef F hg hj hb, hd]
 exact hK _ (k _ (F.put hn _))
theorem qn (h : Q' a) : wpQuiet P ops C Q' [] a := h
theorem rq {id : Nat} {l' : List Oper} (C : World → Prop) (hm : P.follows .mixedOrders = true) (hB : Region.lexB .any l'.toArray = true) (hC : C (w.drewN 1))
  (h : wpQuiet P l'.toArray C (fun a' => ∀ w', C w' → Q .normal a' w') l' a) : (Code.region id l'.toArray true).wp P Q a w :=
 wp_region_quiet (C := C) hm hB hC (by simpa using h)
theorem y_mv {x : Operand} {v : Value} (ho : o.op = .move x) (h : evl l x = some v) : Yl P o l w v w := fun n a F => by
 simp only [execOp, ho]; rw [F.ev h]; rfl
theorem y_as {x : Operand} {v : Value} (ho : o.op = .assign x) (h : evl l x = some v) : Yl P o l w v w := fun n a F => by
 simp only [execOp, ho]; rw [F.ev h]; rfl
def Ld (P : Program) (w : World) (t : Nat) (p : Addr) (v : Value) : Prop := (loadVar t p).run P w = .ok v w
theorem y_ld {t : Nat} {x : Operand} {p : Addr} {v : Value} (ho : o.op = .load t x) (hx : evl l x = some (.pointer (some p))) (h : Ld P w t p v) : Yl P o l w v w := fun n a F => by
 unfold Ld at h
 simp [execOp, ho, F.ev hx, Instr.loadAt, Instr.sureAddr, h]
theorem y_nc {x : Operand} {p : Addr} (ho : o.op = .nilCheck x) (hx : evl l x = some (.pointer (some p))) : Yl P o l w (.pointer (some p)) w := fun n a F => by
 simp [execOp, ho, F.ev hx]
structure FieldIs (P : Program) (s i off : Nat) : Prop where
 run : ∀ (b o : Nat) (w : World), (do
  let .struct fields ← underlying s | stuck "fieldAddr: struct type expected"
  let some f := fields[i]? | stuck "fieldAddr: no such field"
  fieldPlace ⟨b, o, none⟩ f : Sem Addr).run P w = .ok ⟨b, o + off, none⟩ w
theorem fieldIs {s i off ft z : Nat} {fs : Array Field} {f : Field} (hu : P.underlying s = some (.struct fs)) (hf : fs[i]? = some f) (ho : f.offset = off) (ht : f.type = ft)
  (hz : ∀ w, (Go.sizeOf ft).run P w = .ok (z + 1) w) : FieldIs P s i off := ⟨fun b o w => by
 subst ho ht
 have e : (⟨b, o, none⟩ : Addr).add f.offset = ⟨b, o + f.offset, none⟩ := by
  unfold Addr.add
  by_cases h0 : f.offset = 0 <;> simp [h0]
 simp [underlying, hu, hf, fieldPlace, hz, e, program, Sem.run]⟩
theorem y_fa {s i off : Nat} {x : Operand} {b o' : Nat} (ho : o.op = .fieldAddr s x i) (hx : evl l x = some (.pointer (some ⟨b, o', none⟩))) (h : FieldIs P s i off) : Yl P o l w (.pointer (some ⟨b, o' + off, none⟩)) w := fun n a F => by
 have := h.run b o' w
 simp [execOp, ho, F.ev hx, Instr.fieldAt, Instr.sureAddr, underlying, program, Sem.run] at this ⊢
 cases hu : P.underlying s with
 | none => simp [hu] at this
 | some d =>
  cases d <;> simp [hu] at this ⊢
  rename_i fields
  cases hf : fields[i]? with
  | none => simp [hf] at this
  | some f => simp [hf] at this ⊢; simp [this]
theorem y_ia {t e z : Nat} {x ix : Operand} {A : Option Addr} {b o' m c : Nat} {k : IntKind} {i : Int} (ho : o.op = .indexAddr t x ix) (hx : evl l x = some (.slice A m c)) (hA : A = some ⟨b, o', none⟩) (hi : evl l ix = some (.int k i))
  (hu : P.underlying t = some (.slice e)) (hz : ∀ w, (Go.sizeOf e).run P w = .ok z w) (j : Nat) (hj : i = (j : Int)) (hm : j < m) : Yl P o l w (.pointer (some ⟨b, o' + j * z, none⟩)) w := fun n a F => by
 subst hj hA
 have e1 : (⟨b, o', none⟩ : Addr).add (j * z) = ⟨b, o' + j * z, none⟩ := by
  unfold Addr.add
  by_cases h0 : j * z = 0 <;> simp [h0]
 simp [execOp, ho, F.ev hx, F.ev hi, Instr.indexAt, Instr.sureAddr, asIntOf, underlying, hu, hz, program, Sem.run, hm, e1]
theorem y_ln {t e : Nat} {x : Operand} {A : Option Addr} {m c : Nat} (ho : o.op = .call { callee := .builtin .len, args := #[x], argTypes := #[t] }) (hx : evl l x = some (.slice A m c)) (hu : P.underlying t = some (.slice e)) :
  Yl P o l w (.int .i64 (m : Int)) w := fun n a F => by
 simp [execOp, ho, F.ev hx, resolve, invoke, builtin, Builtin.len_, underlying, hu, program, Sem.run, goInt]
theorem y_ls {t : Nat} {x : Operand} {s : ByteArray} (ho : o.op = .call { callee := .builtin .len, args := #[x], argTypes := #[t] }) (hx : evl l x = some (.string s)) (hu : P.underlying t = some .string) :
  Yl P o l w (.int .i64 (s.size : Int)) w := fun n a F => by
 simp [execOp, ho, F.ev hx, resolve, invoke, builtin, Builtin.len_, underlying, hu, program, Sem.run, goInt]
theorem y_nt {x : Operand} {t : Nat} {b : Bool} (ho : o.op = .unOp .not t x) (hx : evl l x = some (.bool b)) : Yl P o l w (.bool !b) w := fun n a F => by
 simp [execOp, ho, F.ev hx, Op.unary]
theorem y_ex {x : Operand} {i : Nat} {vs : List Value} {v : Value} (ho : o.op = .extract x i) (hx : evl l x = some (.tuple vs.toArray)) (hv : nth vs i = some v) : Yl P o l w v w := fun n a F => by
 rw [nth_eq] at hv
 simp [execOp, ho, F.ev hx, Instr.extract, hv]
theorem y_mf {fn : Fn} {cap : List Operand} {vs : List Value} (ho : o.op = .makeFunc fn #[] cap.toArray) (hx : evls l cap = some vs) : Yl P o l w (.func fn #[] vs.toArray) w := fun n a F => by
 simp [execOp, ho, Instr.makeFunc, F.evs hx]
section
variable {t s : Nat} {x y : Operand} {k : IntKind} {i j : Int}
theorem y_add (ho : o.op = .binOp .add t x y s) (hx : evl l x = some (.int .i64 i)) (hy : evl l y = some (.int .i64 j)) (h : -9223372036854775808 ≤ i + j ∧ i + j ≤ 9223372036854775807) : Yl P o l w (.int .i64 (i + j)) w := fun n a F => by
 simp [execOp, ho, F.ev hx, F.ev hy, eqGuard, binOp, Op.intArith]
 exact IntWalk.i64_in _ (by omega)
theorem y_sub (ho : o.op = .binOp .sub t x y s) (hx : evl l x = some (.int .i64 i)) (hy : evl l y = some (.int .i64 j)) (h : -9223372036854775808 ≤ i - j ∧ i - j ≤ 9223372036854775807) : Yl P o l w (.int .i64 (i - j)) w := fun n a F => by
 simp [execOp, ho, F.ev hx, F.ev hy, eqGuard, binOp, Op.intArith]
 exact IntWalk.i64_in _ (by omega)
theorem y_lt (ho : o.op = .binOp .lss t x y s) (hx : evl l x = some (.int k i)) (hy : evl l y = some (.int k j)) : Yl P o l w (.bool (decide (i < j))) w := fun n a F => by
 simp [execOp, ho, F.ev hx, F.ev hy, eqGuard, binOp, Op.intCmp]
theorem y_le (ho : o.op = .binOp .leq t x y s) (hx : evl l x = some (.int k i)) (hy : evl l y = some (.int k j)) : Yl P o l w (.bool (decide (i ≤ j))) w := fun n a F => by
 simp [execOp, ho, F.ev hx, F.ev hy, eqGuard, binOp, Op.intCmp]
theorem y_gt (ho : o.op = .binOp .gtr t x y s) (hx : evl l x = some (.int k i)) (hy : evl l y = some (.int k j)) : Yl P o l w (.bool (decide (j < i))) w := fun n a F => by
 simp [execOp, ho, F.ev hx, F.ev hy, eqGuard, binOp, Op.intCmp]
theorem y_ge (ho : o.op = .binOp .geq t x y s) (hx : evl l x = some (.int k i)) (hy : evl l y = some (.int k j)) : Yl P o l w (.bool (decide (j ≤ i))) w := fun n a F => by
 simp [execOp, ho, F.ev hx, F.ev hy, eqGuard, binOp, Op.intCmp]
theorem y_ie (ho : o.op = .binOp .eql t x y s) (hx : evl l x = some (.int k i)) (hy : evl l y = some (.int k j)) : Yl P o l w (.bool (decide (i = j))) w := fun n a F => by
 simp [execOp, ho, F.ev hx, F.ev hy, eqGuard, binOp, Op.intCmp]
 rfl
theorem y_in (ho : o.op = .binOp .neq t x y s) (hx : evl l x = some (.int k i)) (hy : evl l y = some (.int k j)) : Yl P o l w (.bool (!decide (i = j))) w := fun n a F => by
 simp [execOp, ho, F.ev hx, F.ev hy, eqGuard, binOp, Op.intCmp]
 rfl
end
section
variable {t s : Nat} {x y : Operand} {p q : ByteArray}
theorem toList_eq (p q : ByteArray) : (p.toList == q.toList) = decide (p = q) := by
 have h : p.toList = q.toList ↔ p = q := by
  constructor
  ·intro h
   rw [ByteArray.toList_eq, ByteArray.toList_eq] at h
   cases p; cases q
   simpa using h
  ·rintro rfl; rfl
 by_cases e : p = q
 ·simp [e]
 ·simp [e, h]
theorem y_se (ho : o.op = .binOp .eql t x y s) (hx : evl l x = some (.string p)) (hy : evl l y = some (.string q)) : Yl P o l w (.bool (decide (p = q))) w := fun n a F => by
 simp only [execOp, ho, F.ev hx, F.ev hy]
 simp [eqGuard, binOp, Op.stringOp, toList_eq]
theorem y_sn (ho : o.op = .binOp .neq t x y s) (hx : evl l x = some (.string p)) (hy : evl l y = some (.string q)) : Yl P o l w (.bool (!decide (p = q))) w := fun n a F => by
 simp only [execOp, ho, F.ev hx, F.ev hy]
 simp [eqGuard, binOp, Op.stringOp, toList_eq]
end
theorem y_pkt {c x y : Operand} {b : Bool} {u : Value} (hb : b = true) (ho : o.op = .pick c x y) (hc : evl l c = some (.bool b)) (hx : evl l x = some u) : Yl P o l w u w := fun n a F => by
 subst hb
 simp only [execOp, ho]; rw [F.ev hc, F.ev hx]; rfl
theorem y_pkf {c x y : Operand} {b : Bool} {u : Value} (hb : b = false) (ho : o.op = .pick c x y) (hc : evl l c = some (.bool b)) (hy : evl l y = some u) : Yl P o l w u w := fun n a F => by
 subst hb
 simp only [execOp, ho]; rw [F.ev hc, F.ev hy]; rfl
theorem y_slh {t e z : Nat} {x hi : Operand} {A : Option Addr} {n' c m : Nat} {k : IntKind} {i : Int} (ho : o.op = .slice t x none (some hi) none) (hx : evl l x = some (.slice A n' c)) (hh : evl l hi = some (.int k i)) (hu : P.underlying t = some (.slice e)) (hz : ∀ w, (Go.sizeOf e).run P w = .ok z w)
  (hm : i = (m : Int)) (hc : m ≤ c) : Yl P o l w (.slice A m c) w := fun n a F => by
 subst hm
 have e1 : (if c = 0 then A else A.map (fun x => x.add 0)) = A := by
  have : ∀ q : Addr, q.add 0 = q := fun q => by simp [Addr.add]
  by_cases h0 : c = 0 <;> cases A <;> simp [h0, this]
 have e2 : (0 : Int) ≤ (m : Int) ∧ (m : Int) ≤ (c : Int) := by omega
 simp [execOp, ho, F.ev hx, F.ev hh, Instr.sliceAt, Instr.slice, Instr.sliceBounds, Instr.sliceBound, asIntOf, underlying, hu, hz, program, Sem.run, hc]
 simpa using e1
theorem c_f {f : Operand} {args : List Operand} {ats : Array Nat} {g : Nat} {cap : List Value} {vs : List Value} (ho : o.op = .call { callee := .value f, args := args.toArray, argTypes := ats })
  (hf : evl l f = some (.func (.func g) #[] cap.toArray)) (hx : evls l args = some vs) (he : ∀ (args : Array Value) (w : World), (callFunc g args).run P w = .ok (.enter g args) w) : Cl P o l w g (vs ++ cap) := fun n a F => by
 simp [execOp, ho, resolve, F.ev hf, Deferred.ofValue, invoke, F.evs hx, he]
end
end Go.Eng
namespace Go.Eng
open Go.RowKit
def cellsOf : Value → List Value
 | .agg cs => cs.toList
 | v => [v]
theorem cellsOf_eq (v : Value) : v.cells.toList = cellsOf v := by cases v <;> rfl
def putl : List Value → Nat → List Value → List Value
 | cs, _, [] => cs
 | cs, i, v :: vs => putl (upd cs i v) (i + 1) vs
theorem length_upd {α : Type} : ∀ (l : List α) (i : Nat) (y : α), (upd l i y).length = l.length
 | [], _, _ => rfl
 | _ :: _, 0, _ => rfl
 | x :: l, i + 1, y => by simp [upd, length_upd l i y]
theorem upd_eq_set {α : Type} : ∀ (l : List α) (i : Nat) (y : α), upd l i y = l.set i y
 | [], _, _ => rfl
 | _ :: _, 0, _ => rfl
 | x :: l, i + 1, y => by simp [upd, upd_eq_set l i y]
theorem putl_whole : ∀ (vs pre post : List Value), putl (pre ++ post) pre.length vs = pre ++ vs ++ post.drop vs.length ∨ post.length < vs.length
 | [], pre, post => .inl (by simp [putl])
 | v :: vs, pre, [] => .inr (by simp)
 | v :: vs, pre, x :: post => by
  have h := putl_whole vs (pre ++ [v]) post
  have e : upd (pre ++ x :: post) pre.length v = (pre ++ [v]) ++ post := by rw [upd_eq_set]; simp
  simp only [putl, e]
  rcases h with h | h
  ·left
   simp only [List.length_append, List.length_cons, List.length_nil] at h
   rw [h]; simp
  ·right; simpa using h
theorem putl_all (cs vs : List Value) (h : vs.length = cs.length) : putl cs 0 vs = vs := by
 rcases putl_whole vs [] cs with e | e
 ·simpa [h] using e
 ·omega
section
variable {P : Program} {Q : Exit → Act → World → Prop} {a : Act} {w w' : World} {n : Nat} {l : List (Nat × Value)} {o : Oper} {rest : List Oper} {ops : Array Oper}
variable {w0 : World} {hs : List Res}
theorem run_storeCells {P : Program} {b : Nat} {e : TypeId} : ∀ (vs cs : List Value) (off i : Nat) (w : World), w.heap[b]? = some (.cells cs.toArray e (0, 0)) → off + i + vs.length ≤ cs.length → (∀ v ∈ vs, v.oneCell' = true) →
  ∃ w', (storeCells ⟨b, off, none⟩ vs i).run P w = .ok () w' ∧ w'.heap[b]? = some (.cells (putl cs (off + i) vs).toArray e (0, 0)) ∧ Keeps (fun k => k = b) w w'
 | [], cs, off, i, w, hb, _, _ => ⟨w, rfl, hb, Keeps.refl _ _⟩
 | v :: vs, cs, off, i, w, hb, hl, h1 => by
  have ea : (⟨b, off, none⟩ : Addr).add i = ⟨b, off + i, none⟩ := by
   unfold Addr.add
   by_cases h0 : i = 0 <;> simp [h0]
  have hc : w.cell? ⟨b, off + i, none⟩ = some (cs[off + i]'(by simp at hl; omega)) := by
   simp [World.cell?, hb]
  have hf : w.frozen? ⟨b, off + i, none⟩ = false := by simp [World.frozen?, hb]
  have hv := h1 v (List.mem_cons_self ..)
  have hb' : (w.setCell ⟨b, off + i, none⟩ v).heap[b]? = some (.cells (upd cs (off + i) v).toArray e (0, 0)) := by
   simp [World.setCell, Array.getElem?_modify, hb, upd_eq_set]
  obtain ⟨w', h2, h3, h4⟩ := run_storeCells (P := P) (e := e) vs (upd cs (off + i) v) off (i + 1) (w.setCell ⟨b, off + i, none⟩ v) hb' (by rw [length_upd]; simp at hl; omega) (fun u hu => h1 u (List.mem_cons_of_mem _ hu))
  refine ⟨w', ?_, ?_, ?_⟩
  ·unfold storeCells
   rw [Sem.run_bind]
   have : (store ((⟨b, off, none⟩ : Addr).add i) v).run P w = .ok () (w.setCell ⟨b, off + i, none⟩ v) := by
    rw [ea]
    simp only [store]
    cases v <;> simp [Value.oneCell'] at hv <;> simp [Sem.run, hc, hf]
   rw [this]
   exact h2
  ·rw [h3]; simp [putl, Nat.add_assoc]
  ·exact Keeps.trans (b := w.setCell ⟨b, off + i, none⟩ v) ⟨rfl, rfl, rfl, by simp, fun k _ hk => Below.heap_setCell _ _ _ _ hk⟩ h4
theorem dst (F : Fr n a l) (S : St w0 w hs) {t z : Nat} {p x : Operand} {b off : Nat} {v : Value} (ho : o.op = .store t p x) (hp : evl l p = some (.pointer (some ⟨b, off, none⟩))) (hx : evl l x = some v)
  (hz : ∀ w, (Go.sizeOf t).run P w = .ok z w) {i e : Nat} {cs : List Value} (hi : nth hs i = some (bk b e cs)) (hlv : (cellsOf v).length = z) (hl : off + z ≤ cs.length) (h1 : ∀ u ∈ cellsOf v, u.oneCell' = true) (hg : o.guard = none) (hd : o.dst = none)
  (k : ∀ a w', Fr n a l → St w0 w' (upd hs i (bk b e (putl cs off (cellsOf v)))) → wpList P ops Q rest a w') : wpList P ops Q (o :: rest) a w := by
 have hb := S.ok hi
 obtain ⟨w', h2, h3, h4⟩ := run_storeCells (P := P) (cellsOf v) cs off 0 w hb (by omega) h1
 refine dk (w' := w') F (fun n a F => ?_) hg hd fun a F => k a w' F (S.turn hi h4 _ (by rw [Nat.add_zero] at h3; exact h3) fun j hj => ⟨.inl hj, by
  have : j = b := hj
  subst this
  exact (Array.getElem?_eq_some_iff.1 (show w'.heap[j]? = _ from h3)).1⟩)
 have hsz : v.cells.size = z := by rw [← Array.length_toList, cellsOf_eq]; exact hlv
 simp [execOp, ho, F.ev hp, F.ev hx, Instr.storeAt, Instr.sureAddr, storeVar, hz, hsz, cellsOf_eq, h2]
theorem dsw (F : Fr n a l) (S : St w0 w hs) {t z : Nat} {p x : Operand} {b : Nat} {v : Value} (ho : o.op = .store t p x) (hp : evl l p = some (.pointer (some ⟨b, 0, none⟩))) (hx : evl l x = some v)
  (hz : ∀ w, (Go.sizeOf t).run P w = .ok z w) {i e : Nat} {cs vs : List Value} (hi : nth hs i = some (bk b e cs)) (hv : cellsOf v = vs) (hlv : vs.length = z) (hl : cs.length = z) (h1 : ∀ u ∈ vs, u.oneCell' = true) (hg : o.guard = none) (hd : o.dst = none)
  (k : ∀ a w', Fr n a l → St w0 w' (upd hs i (bk b e vs)) → wpList P ops Q rest a w') : wpList P ops Q (o :: rest) a w := by
 subst hv
 refine dst F S ho hp hx hz hi hlv (by omega) h1 hg hd fun a w' F S => k a w' F ?_
 rwa [putl_all _ _ (by omega)] at S
theorem St.row (S : St w0 w hs) (e : TypeId) (cs : List Value) : St w0 (w.alloc (.cells cs.toArray e)) (hs ++ [bk w.heap.size e cs]) := S.alloc _
theorem dbx (F : Fr n a l) (S : St w0 w hs) {t : Nat} {x : Operand} {v : Value} {cs : List Value} (ho : o.op = .box t x) (hx : evl l x = some v) (hv : cellsOf v = cs) (hg : o.guard = none) {d : Nat} (hd : o.dst = some d) (hn : Nat.blt d n = true)
  (k : ∀ a w' b, Fr n a ((d, .pointer (some ⟨b, 0, none⟩)) :: l) → St w0 w' (hs ++ [bk b t cs]) → wpList P ops Q rest a w') : wpList P ops Q (o :: rest) a w := by
 subst hv
 refine dv (v := .pointer (some ⟨w.heap.size, 0, none⟩)) (w' := w.alloc (.cells (cellsOf v).toArray t)) F (fun n a F => ?_) hg hd hn fun a F => k a _ _ F (S.row t _)
 simp [execOp, ho, F.ev hx, Instr.box, newVar, newRow, newObj, Sem.run, ← cellsOf_eq]
theorem dal (F : Fr n a l) (S : St w0 w hs) {t : Nat} {z : Value} {cs : List Value} (ho : o.op = .alloc t) (hz : ∀ w, (zeroValue t).run P w = .ok z w) (hv : cellsOf z = cs) (hg : o.guard = none) {d : Nat} (hd : o.dst = some d) (hn : Nat.blt d n = true)
  (k : ∀ a w' b, Fr n a ((d, .pointer (some ⟨b, 0, none⟩)) :: l) → St w0 w' (hs ++ [bk b t cs]) → wpList P ops Q rest a w') : wpList P ops Q (o :: rest) a w := by
 subst hv
 refine dv (v := .pointer (some ⟨w.heap.size, 0, none⟩)) (w' := w.alloc (.cells (cellsOf z).toArray t)) F (fun n a F => ?_) hg hd hn fun a F => k a _ _ F (S.row t _)
 simp [execOp, ho, Instr.alloc, hz, newVar, newRow, newObj, Sem.run, ← cellsOf_eq]
theorem ld1 {t : Nat} {p : Addr} {v : Value} (hA : ∀ w, (isAgg t).run P w = .ok false w) (h : w.cell? p = some v) : Ld P w t p v := by
 simp [Ld, loadVar, hA, load, Sem.run, h]
theorem run_loadCells {P : Program} {b : Nat} : ∀ (vs : List Value) (off i : Nat) (acc : Array Value) (w : World), (∀ j v, vs[j]? = some v → w.cell? ⟨b, off + (i + j), none⟩ = some v) →
  (loadCellsFrom ⟨b, off, none⟩ i vs.length acc).run P w = .ok (acc ++ vs.toArray) w
 | [], off, i, acc, w, _ => by simp [loadCellsFrom]
 | v :: vs, off, i, acc, w, h => by
  have ea : (⟨b, off, none⟩ : Addr).add i = ⟨b, off + i, none⟩ := by
   unfold Addr.add
   by_cases h0 : i = 0 <;> simp [h0]
  have hc := h 0 v rfl
  simp only [Nat.add_zero] at hc
  simp only [List.length_cons, loadCellsFrom, Sem.run_bind, ea, load]
  simp only [Sem.run, hc, Result.andThen_ok]
  rw [run_loadCells vs off (i + 1) (acc.push v) w (fun j u hu => by rw [show i + 1 + j = i + (j + 1) by omega]; exact h (j + 1) u hu)]
  simp
theorem lda {t z : Nat} {b off : Nat} {vs : List Value} (hA : ∀ w, (isAgg t).run P w = .ok true w) (hz : ∀ w, (Go.sizeOf t).run P w = .ok z w) (hl : vs.length = z) (h : ∀ j v, vs[j]? = some v → w.cell? ⟨b, off + j, none⟩ = some v) : Ld P w t ⟨b, off, none⟩ (.agg vs.toArray) := by
 subst hl
 have := run_loadCells (P := P) vs off 0 #[] w (by simpa using h)
 simp [Ld, loadVar, hA, hz, loadCells, this]
theorem St.ld (S : St w0 w hs) {i b e j : Nat} {cs : List Value} (h : nth hs i = some (bk b e cs)) {t : Nat} {v : Value} (hv : nth cs j = some v) (hA : ∀ w, (isAgg t).run P w = .ok false w) : Ld P w t ⟨b, j, none⟩ v := ld1 hA (S.cell h hv)
theorem St.lda (S : St w0 w hs) {i b e : Nat} {cs : List Value} (h : nth hs i = some (bk b e cs)) {t z : Nat} (hA : ∀ w, (isAgg t).run P w = .ok true w) (hz : ∀ w, (Go.sizeOf t).run P w = .ok z w) (hl : cs.length = z) : Ld P w t ⟨b, 0, none⟩ (.agg cs.toArray) :=
 Eng.lda hA hz hl fun j v hv => by rw [Nat.zero_add]; exact S.cell h (by rw [nth_eq]; exact hv)
theorem all1 {vs : List Value} (h : vs.all Value.oneCell' = true) : ∀ u ∈ vs, u.oneCell' = true := fun u hu => List.all_eq_true.1 h u hu
theorem rc1 {fn : Func} {R : Ending → World → Prop} {t ty : Nat} {p : Addr} {v : Value} (F : Fr n a l) (hr : fn.results = #[.cell t ty]) (hp : look l t = some (.pointer (some p))) (hl : Ld P w ty p v) (h : R (.returned v) w) : bodyPost P fn R .ret a w := by
 refine bodyPost_ret (v := v) ?_ F.defers h
 unfold Ld at hl
 simp [results, hr, Array.getD_eq_getD_getElem?, F.get t _ hp, asAddr, hl]
theorem y_bd {t : Nat} {parts : List (Nat × Operand)} {vs : List Value} {v : Value} (ho : o.op = .build t parts.toArray) (hx : evls l (parts.map Prod.snd) = some vs)
  (hr : ∀ w, (Instr.build t ((parts.map Prod.fst).zip vs).toArray).run P w = .ok v w) : Yl P o l w v w := fun n a F => by
 have : (parts.toArray.map fun (x : Nat × Operand) => (x.1, a.eval x.2)) = ((parts.map Prod.fst).zip vs).toArray := by
  rw [← F.evs hx]
  simp [List.zip_map']
 simp only [execOp, ho]
 rw [show (parts.toArray.map fun x => match x with | (i, x) => (i, a.eval x)) = ((parts.map Prod.fst).zip vs).toArray from this]
 simp [hr]
end
end Go.Eng
namespace Go.Eng
open Go.RowKit
def Sl {α : Type} (w : World) (z : Nat) (enc : α → List Value) (A : Option Addr) (xs : List α) : Prop :=
 xs ≠ [] → ∃ b o, A = some ⟨b, o, none⟩ ∧ b < w.heap.size ∧ ∀ j x, xs[j]? = some x → ∀ i u, (enc x)[i]? = some u → w.cell? ⟨b, o + j * z + i, none⟩ = some u
section
variable {α : Type} {w w' w0 : World} {z : Nat} {enc : α → List Value} {A : Option Addr} {xs : List α}
theorem Sl.at_ (h : Sl w z enc A xs) {j : Nat} (hj : j < xs.length) : ∃ b o, A = some ⟨b, o, none⟩ ∧ b < w.heap.size ∧ ∀ i u, (enc xs[j])[i]? = some u → w.cell? ⟨b, o + j * z + i, none⟩ = some u := by
 obtain ⟨b, o, h1, h2, h3⟩ := h (by rintro rfl; simp at hj)
 exact ⟨b, o, h1, h2, h3 j _ (List.getElem?_eq_getElem hj)⟩
theorem Sl.below (h : Sl w z enc A xs) (hb : Below w.heap.size w w') : Sl w' z enc A xs := fun hne => by
 obtain ⟨b, o, h1, h2, h3⟩ := h hne
 exact ⟨b, o, h1, Nat.lt_of_lt_of_le h2 hb.size, fun j x hj i u hu => (hb.cell (p := ⟨b, o + j * z + i, none⟩) h2).trans (h3 j x hj i u hu)⟩
theorem Sl.nil : Sl w z enc A ([] : List α) := fun h => absurd rfl h
theorem Sl.st {hs : List Res} (h : Sl w0 z enc A xs) (S : St w0 w hs) : Sl w z enc A xs := h.below S.bel
theorem Sl.take (h : Sl w z enc A xs) (n : Nat) : Sl w z enc A (xs.take n) := fun hne => by
 obtain ⟨b, o, h1, h2, h3⟩ := h (by rintro rfl; simp at hne)
 refine ⟨b, o, h1, h2, fun j x hj => h3 j x ?_⟩
 rw [List.getElem?_take] at hj
 split at hj
 ·exact hj
 ·cases hj
theorem St.sl {i b e : Nat} {hs : List Res} (S : St w0 w hs) (h : nth hs i = some (bk b e (xs.flatMap enc))) (hz : ∀ x, (enc x).length = z) : Sl w z enc (some ⟨b, 0, none⟩) xs := fun hne => by
 clear hne
 refine ⟨b, 0, rfl, ((S.own i _ h).2 b rfl).2, fun j x hj k u hu => ?_⟩
 rw [Nat.zero_add]
 refine S.cell h ?_
 rw [nth_eq]
 clear h
 induction xs generalizing j with
 | nil => simp at hj
 | cons y ys ih =>
  have hk : k < z := by rw [← hz x]; exact (List.getElem?_eq_some_iff.1 hu).1
  cases j with
  | zero =>
   simp at hj
   subst hj
   rw [Nat.zero_mul, Nat.zero_add, List.flatMap_cons, List.getElem?_append_left (by rw [hz]; exact hk)]
   exact hu
  | succ j =>
   rw [List.flatMap_cons, List.getElem?_append_right (by rw [hz]; have := Nat.add_one_mul j z; omega), hz]
   have := ih j (by simpa using hj)
   rw [← this]
   congr 1
   have := Nat.add_one_mul j z
   omega
end
theorem allto {n i : Nat} {p : (j : Nat) → j < n → Prop} (hno : ∀ (j : Nat) (hj : j < n), j < i → p j hj) (hi : i < n) (h : p i hi) : ∀ (j : Nat) (hj : j < n), j < i + 1 → p j hj := fun j hj hlt => by
 by_cases e : j = i
 ·subst e; exact h
 ·exact hno j hj (by omega)
theorem one1 {v : Value} (h : v.oneCell' = true := by rfl) : ∀ u ∈ [v], u.oneCell' = true := fun u hu => by
 simp at hu; subst hu; exact h
end Go.Eng
namespace Go.Eng
open Go.RowKit
theorem add_mk (b o n : Nat) : (⟨b, o, none⟩ : Addr).add n = ⟨b, o + n, none⟩ := by
 unfold Addr.add
 by_cases h : n = 0 <;> simp [h]
def OwOk (w : World) (e z : Nat) (A : Option Addr) (c n : Nat) (xs : List Value) : Prop :=
 xs.length = n * z ∧ n ≤ c ∧ c ≤ maxLen ∧ ((A = none ∧ c = 0) ∨ ∃ g off cur fr, A = some ⟨g, off, none⟩ ∧ w.heap[g]? = some (.cells cur e fr) ∧ (fr.2 = 0 ∨ cur.size ≤ fr.1) ∧ off + c * z ≤ cur.size ∧ ∀ j u, xs[j]? = some u → cur[off + j]? = some u)
def ow (e z : Nat) (v : Value) (n : Nat) (xs : List Value) : Res := ⟨fun k => v.ownBlock = some k, fun w => ∃ A c, v = .slice A n c ∧ OwOk w e z A c n xs, fun w w' h ⟨A, c, hv, h1, h2, h3, h4⟩ => by
 refine ⟨A, c, hv, h1, h2, h3, ?_⟩
 rcases h4 with h0 | ⟨g, off, cur, fr, rfl, hg, h5⟩
 ·exact .inl h0
 ·exact .inr ⟨g, off, cur, fr, rfl, (h g (by rw [hv]; rfl)).trans hg, h5⟩⟩
theorem OwOk.of_own {w : World} {b e z n : Nat} {v : Value} {xs : List Value} (h : w.ownsRow b e z v n xs) : ∃ A c, v = .slice A n c ∧ OwOk w e z A c n xs := by
 rcases h.2 with ⟨rfl, rfl⟩ | ⟨g, cap, cur, rfl, _, hg, h1, h2, h3, h4⟩
 ·exact ⟨none, 0, rfl, h.1, Nat.le_refl _, Nat.zero_le _, .inl ⟨rfl, rfl⟩⟩
 ·refine ⟨_, _, rfl, h.1, h1, h2, .inr ⟨g, 0, cur, (0, 0), rfl, hg, .inl rfl, by omega, fun j u hj => ?_⟩⟩
  rw [← h4, List.getElem?_take] at hj
  split at hj
  ·rw [Nat.zero_add]; simpa using hj
  ·cases hj
theorem putl_get : ∀ (vs cs : List Value) (i : Nat), i + vs.length ≤ cs.length → (putl cs i vs).length = cs.length ∧ ∀ k, (putl cs i vs)[k]? = if i ≤ k ∧ k < i + vs.length then vs[k - i]? else cs[k]?
 | [], cs, i, _ => ⟨rfl, fun k => by simp [putl]; omega⟩
 | v :: vs, cs, i, h => by
  simp only [List.length_cons] at h
  obtain ⟨h1, h2⟩ := putl_get vs (upd cs i v) (i + 1) (by rw [length_upd]; omega)
  refine ⟨by rw [putl, h1, length_upd], fun k => ?_⟩
  rw [putl, h2 k]
  by_cases h3 : i + 1 ≤ k ∧ k < i + 1 + vs.length
  ·rw [if_pos h3, if_pos (by simp; omega), show k - i = (k - (i + 1)) + 1 by omega]
   simp
  ·rw [if_neg h3]
   by_cases h4 : k = i
   ·subst h4
    rw [if_pos (by simp), Nat.sub_self, ← nth_eq]
    have h5 : k < cs.length := by omega
    rw [nth_upd_eq cs k cs[k] v (by rw [nth_eq, List.getElem?_eq_getElem h5])]
    rfl
   ·rw [if_neg (by simp; omega), ← nth_eq, nth_upd_ne _ _ _ _ (by omega), nth_eq]
theorem run_storeCellsF {P : Program} {b : Nat} {e : TypeId} {fr : Nat × Nat} : ∀ (vs cs : List Value) (off i : Nat) (w : World), w.heap[b]? = some (.cells cs.toArray e fr) → (fr.2 = 0 ∨ cs.length ≤ fr.1) → off + i + vs.length ≤ cs.length → (∀ v ∈ vs, v.oneCell' = true) →
  ∃ w', (storeCells ⟨b, off, none⟩ vs i).run P w = .ok () w' ∧ w'.heap[b]? = some (.cells (putl cs (off + i) vs).toArray e fr) ∧ Keeps (fun k => k = b) w w'
 | [], cs, off, i, w, hb, _, _, _ => ⟨w, rfl, hb, Keeps.refl _ _⟩
 | v :: vs, cs, off, i, w, hb, hfr, hl, h1 => by
  have ea : (⟨b, off, none⟩ : Addr).add i = ⟨b, off + i, none⟩ := add_mk b off i
  have hlt : off + i < cs.length := by simp at hl; omega
  have hc : w.cell? ⟨b, off + i, none⟩ = some (cs[off + i]'hlt) := by
   simp [World.cell?, hb]
  have hf : w.frozen? ⟨b, off + i, none⟩ = false := by
   simp only [World.frozen?, hb]
   have : ¬ (fr.1 ≤ off + i ∧ off + i < fr.2) := by omega
   simpa using this
  have hv := h1 v (List.mem_cons_self ..)
  have hb' : (w.setCell ⟨b, off + i, none⟩ v).heap[b]? = some (.cells (upd cs (off + i) v).toArray e fr) := by
   simp [World.setCell, Array.getElem?_modify, hb, upd_eq_set]
  obtain ⟨w', h2, h3, h4⟩ := run_storeCellsF (P := P) (e := e) (fr := fr) vs (upd cs (off + i) v) off (i + 1) (w.setCell ⟨b, off + i, none⟩ v) hb' (by rw [length_upd]; exact hfr) (by rw [length_upd]; simp at hl; omega) (fun u hu => h1 u (List.mem_cons_of_mem _ hu))
  refine ⟨w', ?_, ?_, ?_⟩
  ·unfold storeCells
   rw [Sem.run_bind]
   have : (store ((⟨b, off, none⟩ : Addr).add i) v).run P w = .ok () (w.setCell ⟨b, off + i, none⟩ v) := by
    rw [ea]
    simp only [store]
    cases v <;> simp [Value.oneCell'] at hv <;> simp [Sem.run, hc, hf]
   rw [this]
   exact h2
  ·rw [h3]; simp [putl, Nat.add_assoc]
  ·exact Keeps.trans (b := w.setCell ⟨b, off + i, none⟩ v) ⟨rfl, rfl, rfl, by simp, fun k _ hk => Below.heap_setCell _ _ _ _ hk⟩ h4
def AI (P : Program) (e z b : Nat) : Bool := (P.info? e).any fun i => Nat.beq i.size z && Nat.beq i.bytes b && i.zero.any fun v => Nat.beq v.cells.size z
theorem AI.ex {P : Program} {e z b : Nat} (h : AI P e z b = true) : ∃ i v, P.info? e = some i ∧ i.zero = some v ∧ i.size = z ∧ i.bytes = b ∧ v.cells.size = z := by
 unfold AI at h
 cases hi : P.info? e with
 | none => simp [hi] at h
 | some i =>
  simp only [hi, Option.any_some, Bool.and_eq_true] at h
  cases hz : i.zero with
  | none => simp [hz] at h
  | some v =>
   simp only [hz, Option.any_some] at h
   exact ⟨i, v, rfl, hz, Nat.eq_of_beq_eq_true h.1.1, Nat.eq_of_beq_eq_true h.1.2, Nat.eq_of_beq_eq_true h.2⟩
def Fl (w : World) (Y : Option Addr) (news : List Value) : Prop := (Y = none ∧ news = []) ∨ ∃ a, Y = some a ∧ ∀ j u, news[j]? = some u → w.cell? (a.add j) = some u
section
variable {P : Program} {w0 w : World} {hs : List Res}
theorem run_appx {t tx ty e z by_ : Nat} {A : Option Addr} {c n m : Nat} {x : Value} {xs news : List Value} (S : St w0 w hs) {i : Nat} (hi : nth hs i = some (ow e z (.slice A n c) n xs))
  (hs' : Src P z tx x m news w) (ht : P.underlying t = some (.slice e)) (hI : AI P e z by_ = true) (hz : Nat.blt 0 z = true) (hb : (n + m) * by_ ≤ 140737488355328) (h63 : n + m ≤ maxLen) :
  ∃ A' c' w', (Builtin.append_ #[t, tx] ty #[.slice A n c, x]).run P w = .ok (.slice A' (n + m) c') w' ∧ St w0 w' (upd hs i (ow e z (.slice A' (n + m) c') (n + m) (xs ++ news))) := by
 obtain ⟨inf, zv, h2, h3, h4, h5, h6⟩ := AI.ex hI
 have hz' : 0 < z := by simpa [Nat.blt_eq] using hz
 obtain ⟨A_, c_, hv, ho⟩ := S.ok hi
 cases hv
 obtain ⟨ho1, ho2, ho3, ho4⟩ := ho
 subst h4 h5
 have hl := hs'.newsLen
 have hlen : (xs ++ news).length = (n + m) * inf.size := by rw [List.length_append, ho1, hl, Nat.add_mul]
 -- what a new or an own row leaves
 have fin : ∀ v' w', (Builtin.append_ #[t, tx] ty #[.slice A n c, x]).run P w = .ok v' w' → (∃ A' c', v' = .slice A' (n + m) c' ∧ OwOk w' e inf.size A' c' (n + m) (xs ++ news)) → Keeps (fun k => Value.ownBlock (.slice A n c) = some k) w w' → (∀ k, v'.ownBlock = some k → Value.ownBlock (.slice A n c) = some k ∨ w.heap.size ≤ k) →
   ∃ A' c' w', (Builtin.append_ #[t, tx] ty #[.slice A n c, x]).run P w = .ok (.slice A' (n + m) c') w' ∧ St w0 w' (upd hs i (ow e inf.size (.slice A' (n + m) c') (n + m) (xs ++ news))) := by
  rintro v' w' hr ⟨A', c', rfl, hok⟩ hK hfp
  refine ⟨A', c', w', hr, S.turn hi hK _ ⟨A', c', rfl, hok⟩ fun k hk => ⟨hfp k hk, ?_⟩⟩
  rcases hok.2.2.2 with ⟨rfl, _⟩ | ⟨g, off, cur, fr, rfl, hg, _⟩
  ·cases hk
  ·have hk' : some g = some k := hk
   injection hk' with hk'
   rw [← hk']
   exact (Array.getElem?_eq_some_iff.1 hg).1
 -- the growing arm
 have grow : c < n + m → (Builtin.firstCells inf.size n (.slice A n c)).run P w.drew = .ok xs.toArray w.drew →
   ∃ A' c' w', (Builtin.append_ #[t, tx] ty #[.slice A n c, x]).run P w = .ok (.slice A' (n + m) c') w' ∧ St w0 w' (upd hs i (ow e inf.size (.slice A' (n + m) c') (n + m) (xs ++ news))) := by
  intro hg hold
  have h63' := h63
  simp only [maxLen] at h63'
  have hr := run_append_grow_src (P := P) w t tx ty e inf zv ht h2 h3 A n c xs hold x m news hs' hg (by omega) (growslice_fits hg hb)
  have hge := grownCap_ge w (n + m) c e
  have hcm := grownCap_le_maxLen w (n + m) c e h63
  refine fin _ _ hr ⟨_, _, rfl, hlen, hge, hcm, .inr ⟨w.heap.size, 0, _, (0, 0), rfl, heap_alloc_new w.drew _, .inl rfl, ?_, fun j u hj => ?_⟩⟩ ⟨rfl, rfl, rfl, by simp, fun k hk _ => (by show (w.heap.push _)[k]? = _; rw [Array.getElem?_push_lt hk, Array.getElem?_eq_getElem hk])⟩ fun k hk => .inr ?_
  ·simp only [Array.size_append, List.size_toArray, size_zeroCells, h6, hlen, ← Nat.add_mul, Nat.zero_add]
   exact Nat.le_of_eq (by congr 1; omega)
  ·rw [Nat.zero_add, Array.getElem?_append_left (by simpa using (List.getElem?_eq_some_iff.1 hj).1)]
   simpa using hj
  ·have hk' : some w.heap.size = some k := hk
   injection hk' with hk'
   omega
 rcases ho4 with ⟨rfl, rfl⟩ | ⟨g, off, cur, fr, rfl, hg, hfr, hcur, hxs⟩
 ·have hn0 : n = 0 := by omega
  subst hn0
  have hx0 : xs = [] := List.eq_nil_of_length_eq_zero (by simpa using ho1)
  subst hx0
  by_cases hm : m = 0
  ·subst hm
   have hn : news = [] := List.eq_nil_of_length_eq_zero (by simpa using hl)
   subst hn
   refine fin (.slice none 0 0) w ?_ ⟨none, 0, rfl, by simp, Nat.le_refl _, Nat.zero_le _, .inl ⟨rfl, rfl⟩⟩ (keeps_of_below (Below.refl _ _)) fun k hk => by cases hk
   rcases hs'.kind with ⟨e', hk⟩ | hk <;> simp [Builtin.append_, run_underlying ht, run_underlying hk, sizeOf, typeInfo, h2, hs'.len, hs'.cells]
  ·exact grow (by omega) (run_firstCells_none w.drew inf.size 0 0 0)
 ·have hcell : ∀ j u, xs[j]? = some u → w.drew.cell? ((⟨g, off, none⟩ : Addr).add j) = some u := fun j u hj => by
   have := hxs j u hj
   rw [add_mk]
   have hg' : w.drew.heap[g]? = some (.cells cur e fr) := hg
   simp only [World.cell?, hg']
   simpa using this
  by_cases hroom : n + m ≤ c
  ·have hnm : (n + m) * inf.size ≤ c * inf.size := Nat.mul_le_mul_right _ hroom
   rw [Nat.add_mul] at hnm
   have hL : off + n * inf.size + 0 + news.length ≤ cur.toList.length := by
    have := Array.length_toList (xs := cur)
    omega
   obtain ⟨w', r1, r2, r3⟩ := run_storeCellsF (P := P) (b := g) (e := e) (fr := fr) news cur.toList (off + n * inf.size) 0 w (by simpa using hg) (by simpa using hfr) hL hs'.one
   refine fin (.slice (some ⟨g, off, none⟩) (n + m) c) w' ?_ ⟨_, _, rfl, hlen, hroom, ho3, .inr ⟨g, off, _, fr, rfl, r2, ?_, ?_, ?_⟩⟩ ?_ fun k hk => .inl hk
   ·rcases hs'.kind with ⟨e', hk⟩ | hk <;> simp [Builtin.append_, run_underlying ht, run_underlying hk, sizeOf, typeInfo, h2, hs'.len, hroom, hs'.cells, Addr.add_lit, r1]
   ·have := (putl_get news cur.toList (off + n * inf.size + 0) hL).1
    simp only [List.size_toArray, this, Array.length_toList]
    exact hfr
   ·have := (putl_get news cur.toList (off + n * inf.size + 0) hL).1
    simp only [List.size_toArray, this, Array.length_toList]
    exact hcur
   ·intro j u hj
    have hg2 := (putl_get news cur.toList (off + n * inf.size + 0) hL).2 (off + j)
    rw [List.getElem?_toArray, hg2]
    by_cases hjn : j < n * inf.size
    ·rw [if_neg (by omega)]
     rw [List.getElem?_append_left (by omega)] at hj
     simpa using hxs j u hj
    ·rw [List.getElem?_append_right (by omega), ho1] at hj
     have := (List.getElem?_eq_some_iff.1 hj).1
     rw [if_pos (by omega), show off + j - (off + n * inf.size + 0) = j - n * inf.size by omega]
     exact hj
   ·exact ⟨r3.os, r3.tape, r3.output, r3.size, fun k hk hnk => r3.block k hk fun e => hnk (by rw [e]; rfl)⟩
  ·exact grow (by omega) (run_firstCells_some w.drew inf.size n ⟨g, off, none⟩ n c xs ho1 hcell)
theorem Fl.src {t e z m c2 : Nat} {Y : Option Addr} {news : List Value} (hY : Fl w Y news) (hl : news.length = m * z) (hz : Nat.blt 0 z = true) (h1 : ∀ u ∈ news, u.oneCell' = true) (ht : P.underlying t = some (.slice e)) : Src P z t (.slice Y m c2) m news w := by
 have hz' : 0 < z := by simpa [Nat.blt_eq] using hz
 rcases hY with ⟨rfl, rfl⟩ | ⟨a, rfl, hc⟩
 ·have hm : m = 0 := by
   rcases Nat.eq_zero_or_pos m with h | h
   ·exact h
   ·have := Nat.mul_pos h hz'
    simp at hl; omega
  subst hm
  exact Src.ofNil w ht c2
 ·exact Src.ofSlice w ht a m c2 news hl hc h1
theorem run_app {t ty e z by_ : Nat} {A Y : Option Addr} {c n m c2 : Nat} {xs news : List Value} (S : St w0 w hs) {i : Nat} (hi : nth hs i = some (ow e z (.slice A n c) n xs))
  (hY : Fl w Y news) (hl : news.length = m * z) (h1 : ∀ u ∈ news, u.oneCell' = true) (ht : P.underlying t = some (.slice e)) (hI : AI P e z by_ = true) (hz : Nat.blt 0 z = true) (hb : (n + m) * by_ ≤ 140737488355328) (h63 : n + m ≤ maxLen) :
  ∃ A' c' w', (Builtin.append_ #[t, t] ty #[.slice A n c, .slice Y m c2]).run P w = .ok (.slice A' (n + m) c') w' ∧ St w0 w' (upd hs i (ow e z (.slice A' (n + m) c') (n + m) (xs ++ news))) :=
 run_appx S hi (hY.src hl hz h1 ht) ht hI hz hb h63
theorem ow_nil (S : St w0 w hs) (e z : Nat) : St w0 w (hs ++ [ow e z (.slice none 0 0) 0 []]) :=
 S.add _ ⟨none, 0, rfl, by simp, Nat.le_refl _, Nat.zero_le _, .inl ⟨rfl, rfl⟩⟩ (fun k hk => by cases hk) fun i s h k hk => by cases hk
theorem ow_of_bk {i b e n z : Nat} {cs : List Value} (S : St w0 w hs) (h : nth hs i = some (bk b e cs)) (hl : cs.length = n * z) (hm : n ≤ maxLen) : St w0 w (upd hs i (ow e z (.slice (some ⟨b, 0, none⟩) n n) n cs)) := by
 have hb : w.heap[b]? = some (.cells cs.toArray e (0, 0)) := S.ok h
 refine S.turn h (keeps_of_below (Below.refl _ _)) _ ⟨_, _, rfl, hl, Nat.le_refl _, hm, .inr ⟨b, 0, cs.toArray, (0, 0), rfl, hb, .inl rfl, by simp; omega, fun j u hj => by rw [Nat.zero_add]; simpa using hj⟩⟩ fun k hk => ?_
 have : b = k := by
  have hk' : some b = some k := hk
  injection hk'
 subst this
 exact ⟨.inl rfl, (Array.getElem?_eq_some_iff.1 hb).1⟩
theorem ow_drop {i e z n c m : Nat} {A : Option Addr} {xs : List Value} (S : St w0 w hs) (h : nth hs i = some (ow e z (.slice A n c) n xs)) (hm : m ≤ n) :
  St w0 w (upd hs i (ow e z (.slice (if c = m then A else A.map (·.add (m * z))) (n - m) (c - m)) (n - m) (xs.drop (m * z)))) := by
 obtain ⟨A_, c_, hv, h1, h2, h3, h4⟩ := S.ok h
 cases hv
 have hmn : m * z ≤ n * z := Nat.mul_le_mul_right _ hm
 have hlen : (xs.drop (m * z)).length = (n - m) * z := by rw [List.length_drop, h1, Nat.sub_mul]
 refine S.turn h (keeps_of_below (Below.refl _ _)) _ ⟨_, _, rfl, hlen, by omega, by omega, ?_⟩ fun k hk => ?_
 ·rcases h4 with ⟨rfl, rfl⟩ | ⟨g, off, cur, fr, rfl, hg, hfr, hcur, hxs⟩
  ·exact .inl ⟨by split <;> rfl, by omega⟩
  ·by_cases hcm : c = m
   ·subst hcm
    refine .inr ⟨g, off, cur, fr, by simp, hg, hfr, by simp; omega, fun j u hj => ?_⟩
    have : n - c = 0 := by omega
    rw [this, Nat.zero_mul] at hlen
    rw [List.eq_nil_of_length_eq_zero hlen] at hj
    simp at hj
   ·refine .inr ⟨g, off + m * z, cur, fr, by simp [hcm, add_mk], hg, hfr, ?_, fun j u hj => ?_⟩
    ·have : (c - m) * z = c * z - m * z := Nat.sub_mul ..
     have : m * z ≤ c * z := Nat.mul_le_mul_right _ (by omega)
     omega
    ·rw [List.getElem?_drop] at hj
     rw [Nat.add_assoc]
     exact hxs _ _ hj
 ·have hk' : Value.ownBlock (.slice A n c) = some k := by
   have hk0 : Value.ownBlock (.slice (if c = m then A else A.map (·.add (m * z))) (n - m) (c - m)) = some k := hk
   rcases h4 with ⟨rfl, rfl⟩ | ⟨g, off, cur, fr, rfl, hg, hfr, hcur, hxs⟩
   ·split at hk0 <;> cases hk0
   ·split at hk0
    ·exact hk0
    ·simp only [Option.map_some, add_mk] at hk0; exact hk0
  exact ⟨.inl hk', ((S.own i _ h).2 k hk').2⟩
variable {α : Type} {z : Nat} {enc : α → List Value} {A : Option Addr} {ys : List α}
theorem flat_get (hz : ∀ x, (enc x).length = z) : ∀ (ys : List α) (k : Nat) (u : Value), (ys.flatMap enc)[k]? = some u → ∃ j x i, ys[j]? = some x ∧ (enc x)[i]? = some u ∧ k = j * z + i
 | [], k, u, h => by simp at h
 | y :: ys, k, u, h => by
  rw [List.flatMap_cons] at h
  by_cases hk : k < z
  ·rw [List.getElem?_append_left (by rw [hz]; exact hk)] at h
   exact ⟨0, y, k, rfl, h, by simp⟩
  ·rw [List.getElem?_append_right (by rw [hz]; omega), hz] at h
   obtain ⟨j, x, i, h1, h2, h3⟩ := flat_get hz ys _ u h
   exact ⟨j + 1, x, i, by simpa using h1, h2, by have := Nat.add_one_mul j z; omega⟩
theorem get_flat (hz : ∀ x, (enc x).length = z) : ∀ (ys : List α) (j : Nat) (x : α) (i : Nat) (u : Value), ys[j]? = some x → (enc x)[i]? = some u → (ys.flatMap enc)[j * z + i]? = some u
 | [], j, x, i, u, h, _ => by simp at h
 | y :: ys, 0, x, i, u, h, h2 => by
  simp at h; subst h
  rw [List.flatMap_cons, Nat.zero_mul, Nat.zero_add, List.getElem?_append_left (List.getElem?_eq_some_iff.1 h2).1]
  exact h2
 | y :: ys, j + 1, x, i, u, h, h2 => by
  rw [List.flatMap_cons, List.getElem?_append_right (by rw [hz]; have := Nat.add_one_mul j z; omega), hz]
  rw [show (j + 1) * z + i - z = j * z + i by have := Nat.add_one_mul j z; omega]
  exact get_flat hz ys j x i u (by simpa using h) h2
theorem flat_len (hz : ∀ x, (enc x).length = z) (ys : List α) : (ys.flatMap enc).length = ys.length * z := by
 induction ys with
 | nil => simp
 | cons y ys ih => rw [List.flatMap_cons, List.length_append, ih, hz, List.length_cons, Nat.add_one_mul]; omega
theorem Sl.fl (h : Sl w z enc A ys) (hz : ∀ x, (enc x).length = z) : Fl w A (ys.flatMap enc) := by
 by_cases hne : ys = []
 ·subst hne
  cases A with
  | none => exact .inl ⟨rfl, rfl⟩
  | some a => exact .inr ⟨a, rfl, fun j u hu => by simp at hu⟩
 ·obtain ⟨b, o, rfl, hb, hc⟩ := h hne
  refine .inr ⟨_, rfl, fun k u hu => ?_⟩
  obtain ⟨j, x, i, h1, h2, rfl⟩ := flat_get hz ys k u hu
  rw [add_mk, ← Nat.add_assoc]
  exact hc j x h1 i u h2
theorem St.ows {i e c n : Nat} (S : St w0 w hs) (h : nth hs i = some (ow e z (.slice A n c) n (ys.flatMap enc))) (hz : ∀ x, (enc x).length = z) (hzp : 0 < z) : Sl w z enc A ys := fun hne => by
 obtain ⟨A_, c_, hv, h1, h2, h3, h4⟩ := S.ok h
 cases hv
 rcases h4 with ⟨rfl, rfl⟩ | ⟨g, off, cur, fr, rfl, hg, hfr, hcur, hxs⟩
 ·have hn0 : n = 0 := by omega
  subst hn0
  rw [flat_len hz, Nat.zero_mul] at h1
  have h0 : ys.length = 0 := by
   rcases Nat.eq_zero_or_pos ys.length with h | h
   ·exact h
   ·have := Nat.mul_pos h hzp; omega
  exact absurd (List.eq_nil_of_length_eq_zero h0) hne
 ·refine ⟨g, off, rfl, (Array.getElem?_eq_some_iff.1 hg).1, fun j x hj i u hu => ?_⟩
  have := hxs _ _ (get_flat hz ys j x i u hj hu)
  rw [← Nat.add_assoc] at this
  simp only [World.cell?, hg]
  simpa using this
end
section
variable {P : Program} {Q : Exit → Act → World → Prop} {w w0 : World} {n0 : Nat} {l : List (Nat × Value)} {o : Oper} {rest : List Oper} {ops : Array Oper} {a : Act} {hs : List Res}
theorem dap (F : Fr n0 a l) (S : St w0 w hs) {t e z by_ : Nat} {x y : Operand} {A Y : Option Addr} {c n m c2 : Nat} {xs news : List Value}
  (ho : o.op = .call { callee := .builtin .append, args := #[x, y], argTypes := #[t, t] }) (hx : evl l x = some (.slice A n c)) (hy : evl l y = some (.slice Y m c2)) {i : Nat} (hi : nth hs i = some (ow e z (.slice A n c) n xs))
  (hY : Fl w Y news) (hl : news.length = m * z) (h1 : ∀ u ∈ news, u.oneCell' = true) (ht : P.underlying t = some (.slice e)) (hI : AI P e z by_ = true) (hz : Nat.blt 0 z = true) {N : Nat} {XS : List Value} (hN : n + m = N) (hX : xs ++ news = XS) (hb : N * by_ ≤ 140737488355328) (h63 : N ≤ 9223372036854775807)
  (hg : o.guard = none) {d : Nat} (hd : o.dst = some d) (hn : Nat.blt d n0 = true)
  (k : ∀ a w' A' c', Fr n0 a ((d, .slice A' N c') :: l) → St w0 w' (upd hs i (ow e z (.slice A' N c') N XS)) → wpList P ops Q rest a w') : wpList P ops Q (o :: rest) a w := by
 subst hN hX
 obtain ⟨A', c', w', hr, hS⟩ := run_app (ty := o.type) (c2 := c2) S hi hY hl h1 ht hI hz hb h63
 refine dv (v := .slice A' (n + m) c') (w' := w') F (fun n a F => ?_) hg hd hn fun a F => k a w' A' c' F hS
 simp [execOp, ho, F.ev hx, F.ev hy, resolve, invoke, builtin, hr]
theorem das (F : Fr n0 a l) (S : St w0 w hs) {t u e by_ : Nat} {x y : Operand} {A : Option Addr} {c n : Nat} {s : ByteArray} {xs : List Value}
  (ho : o.op = .call { callee := .builtin .append, args := #[x, y], argTypes := #[t, u] }) (hx : evl l x = some (.slice A n c)) (hy : evl l y = some (.string s)) {i : Nat} (hi : nth hs i = some (ow e 1 (.slice A n c) n xs))
  (ht : P.underlying t = some (.slice e)) (hu : P.underlying u = some .string) (hI : AI P e 1 by_ = true) {N : Nat} {XS : List Value} (hN : n + s.size = N) (hX : xs ++ byteCells s = XS) (hb : N * by_ ≤ 140737488355328) (h63 : N ≤ 9223372036854775807)
  (hg : o.guard = none) {d : Nat} (hd : o.dst = some d) (hn : Nat.blt d n0 = true)
  (k : ∀ a w' A' c', Fr n0 a ((d, .slice A' N c') :: l) → St w0 w' (upd hs i (ow e 1 (.slice A' N c') N XS)) → wpList P ops Q rest a w') : wpList P ops Q (o :: rest) a w := by
 subst hN hX
 obtain ⟨A', c', w', hr, hS⟩ := run_appx (ty := o.type) S hi (Src.ofString w hu s) ht hI rfl hb h63
 refine dv (v := .slice A' (n + s.size) c') (w' := w') F (fun n a F => ?_) hg hd hn fun a F => k a w' A' c' F hS
 simp [execOp, ho, F.ev hx, F.ev hy, resolve, invoke, builtin, hr]
theorem allflat {α : Type} {enc : α → List Value} (h : ∀ x, ∀ u ∈ enc x, u.oneCell' = true) (ys : List α) : ∀ u ∈ ys.flatMap enc, u.oneCell' = true := fun u hu => by
 obtain ⟨x, _, hx⟩ := List.mem_flatMap.1 hu
 exact h x u hx
end
theorem fold_set : ∀ (l : List Value) (k : Nat) (cells : Array Value), k + l.length ≤ cells.size →
  ((l.zipIdx k).foldl (fun cs (x : Value × Nat) => cs.setIfInBounds (0 + x.2) x.1) cells).size = cells.size ∧
  ∀ i : Nat, ((l.zipIdx k).foldl (fun cs (x : Value × Nat) => cs.setIfInBounds (0 + x.2) x.1) cells)[i]? = if k ≤ i ∧ i < k + l.length then l[i - k]? else cells[i]?
 | [], k, cells, h => ⟨by simp, fun i => by simp; omega⟩
 | v :: l, k, cells, h => by
  simp only [List.length_cons] at h
  simp only [List.zipIdx_cons, List.foldl_cons]
  obtain ⟨h1, h2⟩ := fold_set l (k + 1) (cells.setIfInBounds (0 + k) v) (by simp; omega)
  refine ⟨by rw [h1]; simp, fun i => ?_⟩
  rw [h2 i]
  by_cases h3 : k + 1 ≤ i ∧ i < k + 1 + l.length
  ·rw [if_pos h3, if_pos (by simp; omega)]
   rw [show i - k = (i - (k + 1)) + 1 by omega]
   simp
  ·rw [if_neg h3]
   by_cases h4 : i = k
   ·subst h4
    have h5 : i < cells.size := by omega
    rw [if_pos (by simp)]
    simp [h5]
   ·rw [if_neg (by simp; omega), Array.getElem?_setIfInBounds_ne (by omega)]
theorem fold_all (vs cells : Array Value) (h : cells.size = vs.size) : vs.zipIdx.foldl (fun cs (x : Value × Nat) => cs.setIfInBounds (0 + x.2) x.1) cells = vs := by
 obtain ⟨h1, h2⟩ := fold_set vs.toList 0 cells (by simp [h])
 have e : vs.zipIdx.foldl (fun cs (x : Value × Nat) => cs.setIfInBounds (0 + x.2) x.1) cells = (vs.toList.zipIdx 0).foldl (fun cs (x : Value × Nat) => cs.setIfInBounds (0 + x.2) x.1) cells := by
  rw [← Array.foldl_toList]; simp
 rw [e]
 refine Array.ext_getElem? fun i => ?_
 rw [h2 i]
 by_cases hi : i < vs.size
 ·rw [if_pos (by simp [hi])]; simp
 ·rw [if_neg (by simp; omega), Array.getElem?_eq_none (by omega), Array.getElem?_eq_none (by omega)]
theorem bsOne {P : Program} {t e z b : Nat} {vs : List Value} (ht : P.underlying t = some (.slice e)) (hI : AI P e z b = true) (hl : vs.length = z) (hz : Nat.blt 0 z = true) (hs : Nat.ble z 16777216 = true) (w : World) :
  (Instr.buildSlice t 1 [(0, .agg vs.toArray)].toArray).run P w = .ok (.slice (some ⟨w.heap.size, 0, none⟩) 1 1) (w.alloc (.cells vs.toArray e)) := by
 obtain ⟨inf, zv, h2, h3, h4, h5, h6⟩ := AI.ex hI
 subst h4
 have hz' : 0 < inf.size := by simpa [Nat.blt_eq] using hz
 have hs' : inf.size ≤ 16777216 := Nat.le_of_ble_eq_true hs
 refine run_buildSlice w t e 1 _ vs.toArray inf zv ht h2 h3 (by omega) (by omega) ?_
 have hc : (Value.agg vs.toArray).cells = vs.toArray := rfl
 simp only [Instr.fill, hc]
 rw [if_neg (by simp; omega)]
 congr 1
 simp only [Nat.zero_mul]
 exact fold_all vs.toArray _ (by simp; omega)
theorem St.fl {w0 w : World} {hs : List Res} (S : St w0 w hs) {i b e : Nat} {cs : List Value} (h : nth hs i = some (bk b e cs)) : Fl w (some ⟨b, 0, none⟩) cs := .inr ⟨_, rfl, fun j u hu => by
 rw [add_mk, Nat.zero_add]
 exact S.cell h (by rw [nth_eq]; exact hu)⟩
end Go.Eng
namespace Go.Eng
open Go.RowKit
theorem ba_beq (a b : ByteArray) : (a == b) = decide (a = b) := by
 show (a.data == b.data) = _
 by_cases h : a = b
 ·subst h; simp
 ·have : a.data ≠ b.data := fun e => h (by cases a; cases b; simpa using e)
  simp [h, this]
def keyIs (s : ByteArray) : Value → Bool
 | .string b => decide (s = b)
 | _ => false
theorem keyIs_str (s b : ByteArray) : keyIs s (.string b) = decide (s = b) := rfl
theorem keyIs_inv {s : ByteArray} {v : Value} (h : keyIs s v = true) : v = .string s := by
 cases v <;> simp [keyIs] at h
 rw [h]
def fnd (s : ByteArray) : List MapEntry → Nat → Option (Nat × Value)
 | [], _ => none
 | e :: es, i => if keyIs s e.key then some (i, e.val) else fnd s es (i + 1)
def StrKeys (es : List MapEntry) : Prop := ∀ e ∈ es, ∃ a, e.key = .string a
theorem findNow_str (s : ByteArray) : ∀ (es : List MapEntry) (i : Nat), StrKeys es → Instr.findNow .string (.string s) es i = some (fnd s es i)
 | [], i, _ => rfl
 | e :: es, i, h => by
  obtain ⟨a, ha⟩ := h e (List.mem_cons_self ..)
  have ih := findNow_str s es (i + 1) fun x hx => h x (List.mem_cons_of_mem _ hx)
  simp only [Instr.findNow, fnd, ha, Instr.sameNow, keyIs, ba_beq]
  by_cases h : s = a <;> simp [ih, h]
def MpOk (w : World) (b : Nat) (f : ByteArray → Option Value) : Prop := ∃ es clock, w.heap[b]? = some (.map es clock) ∧ StrKeys es.toList ∧ ∀ s, (fnd s es.toList 0).map Prod.snd = f s
def mp (b : Nat) (f : ByteArray → Option Value) : Res := ⟨fun k => k = b, fun w => MpOk w b f, fun w w' h ⟨es, clock, h1, h2⟩ => ⟨es, clock, (h b rfl).trans h1, h2⟩⟩
theorem MpOk.below {w w' : World} {b : Nat} {f : ByteArray → Option Value} (h : MpOk w b f) (hb : Below w.heap.size w w') : MpOk w' b f := by
 obtain ⟨es, clock, h1, h2⟩ := h
 exact ⟨es, clock, (hb.block b (Array.getElem?_eq_some_iff.1 h1).1).trans h1, h2⟩
section
variable {P : Program} {Q : Exit → Act → World → Prop} {w w0 : World} {n : Nat} {l : List (Nat × Value)} {o : Oper} {rest : List Oper} {ops : Array Oper} {a : Act} {hs : List Res}
theorem dms (F : Fr n a l) (S : St w0 w hs) {t e by_ : Nat} {x y : Operand} {m : Nat} {z : Value} {k1 k2 : IntKind} (ho : o.op = .makeSlice t x y) (hx : evl l x = some (.int k1 (m : Int))) (hy : evl l y = some (.int k2 (m : Int)))
  (ht : P.underlying t = some (.slice e)) (hI : ∃ i, P.info? e = some i ∧ i.zero = some z ∧ i.size = 1 ∧ i.bytes = by_) (hz : z.cells = #[z]) (hb : by_ * m ≤ 281474976710656) (h63 : m ≤ 9223372036854775807)
  (hg : o.guard = none) {d : Nat} (hd : o.dst = some d) (hn : Nat.blt d n = true)
  (k : ∀ a w' b, Fr n a ((d, .slice (some ⟨b, 0, none⟩) m m) :: l) → St w0 w' (hs ++ [bk b e (List.replicate m z)]) → wpList P ops Q rest a w') : wpList P ops Q (o :: rest) a w := by
 obtain ⟨i, h1, h2, h3, h4⟩ := hI
 have h5 : ((by_ * m : Nat) : Int) ≤ 281474976710656 := by omega
 rw [Int.natCast_mul] at h5
 have hr := run_make (P := P) w t e i z ht h1 h2 k1 k2 (m : Int) (m : Int) (by omega) (Int.le_refl _) (by rw [h4]; exact h5) (by omega)
 have hc : madeCells z.cells ((m : Int).toNat * i.size) = (List.replicate m z).toArray := by
  rw [hz, h3]
  refine Array.ext_getElem? fun j => ?_
  simp [madeCells]
  by_cases hj : j < m
  ·simp [hj, Nat.mod_one]
  ·simp [hj]
 rw [hc] at hr
 refine dv (v := .slice (some ⟨w.heap.size, 0, none⟩) m m) (w' := w.alloc (.cells (List.replicate m z).toArray e)) F (fun n a F => ?_) hg hd hn fun a F => k a _ _ F (S.row e _)
 simp [execOp, ho, F.ev hx, F.ev hy, hr]
end
end Go.Eng
namespace Go.Eng
open Go.RowKit
def andI (k : IntKind) (x y : Int) : Int := k.wrap ((BitVec.ofInt k.bits x &&& BitVec.ofInt k.bits y).toNat : Int)
def orI (k : IntKind) (x y : Int) : Int := k.wrap ((BitVec.ofInt k.bits x ||| BitVec.ofInt k.bits y).toNat : Int)
def xorI (k : IntKind) (x y : Int) : Int := k.wrap ((BitVec.ofInt k.bits x ^^^ BitVec.ofInt k.bits y).toNat : Int)
def shlI (k : IntKind) (x : Int) (n : Nat) : Int := k.wrap (x * 2 ^ (min n k.bits))
def shrI (k : IntKind) (x : Int) (n : Nat) : Int := x.fdiv (2 ^ (min n k.bits))
section
variable {P : Program} {w : World} {l : List (Nat × Value)} {o : Oper} {t s : Nat} {x y : Operand} {k : IntKind} {i j : Int}
theorem y_wa (ho : o.op = .binOp .add t x y s) (hx : evl l x = some (.int k i)) (hy : evl l y = some (.int k j)) : Yl P o l w (.int k (k.wrap (i + j))) w := fun n a F => by
 simp [execOp, ho, F.ev hx, F.ev hy, eqGuard, binOp, Op.intArith]
theorem y_ws (ho : o.op = .binOp .sub t x y s) (hx : evl l x = some (.int k i)) (hy : evl l y = some (.int k j)) : Yl P o l w (.int k (k.wrap (i - j))) w := fun n a F => by
 simp [execOp, ho, F.ev hx, F.ev hy, eqGuard, binOp, Op.intArith]
theorem y_wm (ho : o.op = .binOp .mul t x y s) (hx : evl l x = some (.int k i)) (hy : evl l y = some (.int k j)) : Yl P o l w (.int k (k.wrap (i * j))) w := fun n a F => by
 simp [execOp, ho, F.ev hx, F.ev hy, eqGuard, binOp, Op.intArith]
theorem y_mul (ho : o.op = .binOp .mul t x y s) (hx : evl l x = some (.int .i64 i)) (hy : evl l y = some (.int .i64 j)) (h : -9223372036854775808 ≤ i * j ∧ i * j ≤ 9223372036854775807) : Yl P o l w (.int .i64 (i * j)) w := fun n a F => by
 simp [execOp, ho, F.ev hx, F.ev hy, eqGuard, binOp, Op.intArith]
 exact IntWalk.i64_in _ (by omega)
theorem y_quo (ho : o.op = .binOp .quo t x y s) (hx : evl l x = some (.int .i64 i)) (hy : evl l y = some (.int .i64 j)) (h : 0 ≤ i ∧ i ≤ 9223372036854775807 ∧ 1 ≤ j) : Yl P o l w (.int .i64 (i / j)) w := fun n a F => by
 have hj : ¬ j = 0 := by omega
 simp [execOp, ho, F.ev hx, F.ev hy, eqGuard, binOp, Op.intDiv, hj]
 exact IntWalk.i64_quo _ _ h
theorem y_rem (ho : o.op = .binOp .rem t x y s) (hx : evl l x = some (.int .i64 i)) (hy : evl l y = some (.int .i64 j)) (h : 0 ≤ i ∧ 1 ≤ j) : Yl P o l w (.int .i64 (i % j)) w := fun n a F => by
 have hj : ¬ j = 0 := by omega
 simp [execOp, ho, F.ev hx, F.ev hy, eqGuard, binOp, Op.intDiv, hj]
 exact Int.tmod_eq_emod_of_nonneg h.1
theorem y_and (ho : o.op = .binOp .and t x y s) (hx : evl l x = some (.int k i)) (hy : evl l y = some (.int k j)) : Yl P o l w (.int k (andI k i j)) w := fun n a F => by
 simp [execOp, ho, F.ev hx, F.ev hy, eqGuard, binOp, Op.intBits, andI]
theorem y_or (ho : o.op = .binOp .or t x y s) (hx : evl l x = some (.int k i)) (hy : evl l y = some (.int k j)) : Yl P o l w (.int k (orI k i j)) w := fun n a F => by
 simp [execOp, ho, F.ev hx, F.ev hy, eqGuard, binOp, Op.intBits, orI]
theorem y_xor (ho : o.op = .binOp .xor t x y s) (hx : evl l x = some (.int k i)) (hy : evl l y = some (.int k j)) : Yl P o l w (.int k (xorI k i j)) w := fun n a F => by
 simp [execOp, ho, F.ev hx, F.ev hy, eqGuard, binOp, Op.intBits, xorI]
theorem y_com (ho : o.op = .unOp .xor t x) (hx : evl l x = some (.int .u32 i)) : Yl P o l w (.int .u32 (xorI .u32 4294967295 i)) w := fun n a F => by
 simp [execOp, ho, F.ev hx, Op.unary, Op.intBits, xorI, IntKind.signed, IntKind.max, IntKind.bits]
theorem y_shl {k2 : IntKind} {m : Nat} (ho : o.op = .binOp .shl t x y s) (hx : evl l x = some (.int k i)) (hy : evl l y = some (.int k2 j)) (hj : j = (m : Int)) : Yl P o l w (.int k (shlI k i m)) w := fun n a F => by
 subst hj
 have h0 : ¬ ((m : Int) < 0) := by omega
 simp [execOp, ho, F.ev hx, F.ev hy, eqGuard, binOp, Op.shift, shlI, h0]
theorem y_shr {k2 : IntKind} {m : Nat} (ho : o.op = .binOp .shr t x y s) (hx : evl l x = some (.int k i)) (hy : evl l y = some (.int k2 j)) (hj : j = (m : Int)) : Yl P o l w (.int k (shrI k i m)) w := fun n a F => by
 subst hj
 have h0 : ¬ ((m : Int) < 0) := by omega
 simp [execOp, ho, F.ev hx, F.ev hy, eqGuard, binOp, Op.shift, shrI, h0]
theorem y_cvt {sr ds : Nat} {k' : IntKind} (ho : o.op = .convert sr ds x) (hx : evl l x = some (.int k i)) (hs : ∃ d, P.underlying sr = some d) (hd : P.underlying ds = some (.int k')) : Yl P o l w (.int k' (k'.wrap i)) w := fun n a F => by
 obtain ⟨d, hs⟩ := hs
 simp [execOp, ho, F.ev hx, convert, run_underlying hs, run_underlying hd, Conv.intToInt]
theorem y_ip {e z m : Nat} {ix : Operand} {b off : Nat} (ho : o.op = .indexAddr t x ix) (hx : evl l x = some (.pointer (some ⟨b, off, none⟩))) (hi : evl l ix = some (.int k i))
  (hu : P.underlying t = some (.array m e)) (hz : ∀ w, (Go.sizeOf e).run P w = .ok z w) (j : Nat) (hj : i = (j : Int)) (hm : j < m) : Yl P o l w (.pointer (some ⟨b, off + j * z, none⟩)) w := fun n a F => by
 subst hj
 have e1 := add_mk b off (j * z)
 simp [execOp, ho, F.ev hx, F.ev hi, Instr.indexAt, Instr.sureAddr, asIntOf, underlying, hu, hz, program, Sem.run, hm, e1]
theorem y_ix {e m : Nat} {ix : Operand} {cs : List Value} {v : Value} (ho : o.op = .index t x ix) (hx : evl l x = some (.agg cs.toArray)) (hi : evl l ix = some (.int k i))
  (hu : P.underlying t = some (.array m e)) (hz : ∀ w, (Go.sizeOf e).run P w = .ok 1 w) (hA : ∀ w, (isAgg e).run P w = .ok false w) (j : Nat) (hj : i = (j : Int)) (hm : j < m) (hv : cs[j]? = some v) : Yl P o l w v w := fun n a F => by
 subst hj
 simp [execOp, ho, F.ev hx, F.ev hi, Instr.index, asIntOf, underlying, hu, hz, program, Sem.run, hm, part, hA, hv]
theorem y_pn {b off : Nat} (ho : o.op = .binOp .eql t x y s) (hx : evl l x = some (.pointer (some ⟨b, off, none⟩))) (hy : evl l y = some (.pointer none)) (ht : P.underlying t = some (.pointer (P.pointee t))) : Yl P o l w (.bool false) w := fun n a F => by
 have := run_eql_pointer_nil w t (some ⟨b, off, none⟩) ht
 simp [execOp, ho, F.ev hx, F.ev hy, eqGuard, this]
end
def bI (s : ByteArray) : List Int := s.data.toList.map fun b => (b.toNat : Int)
def encU8 (n : Int) : List Value := [.int .u8 n]
theorem lenU8 (n : Int) : (encU8 n).length = 1 := rfl
theorem one_U8 (n : Int) : ∀ u ∈ encU8 n, u.oneCell' = true := one1
theorem flatU8 (xs : List Int) : xs.flatMap encU8 = xs.map (Value.int .u8) := by
 induction xs with
 | nil => rfl
 | cons x xs ih => rw [List.flatMap_cons, ih]; rfl
theorem bI_len (s : ByteArray) : (bI s).length = s.size := by simp [bI]
theorem bI_byte (s : ByteArray) : byteCells s = (bI s).flatMap encU8 := by
 rw [flatU8, bI, byteCells, List.map_map]; rfl
theorem bI_range (s : ByteArray) : ∀ b ∈ bI s, 0 ≤ b ∧ b < 256 := fun b hb => by
 obtain ⟨u, _, rfl⟩ := List.mem_map.1 hb
 have := u.toNat_lt
 omega
section
variable {P : Program} {Q : Exit → Act → World → Prop} {w w0 : World} {n0 : Nat} {l : List (Nat × Value)} {o : Oper} {rest : List Oper} {ops : Array Oper} {a : Act} {hs : List Res}
theorem St.addOw {w' : World} (S : St w0 w hs) (hb : Below w.heap.size w w') {e z : Nat} {v : Value} {n : Nat} {xs : List Value} {A : Option Addr} {c : Nat} (hv : v = .slice A n c) (ho : OwOk w' e z A c n xs) (hn : ∀ k, v.ownBlock = some k → w.heap.size ≤ k) : St w0 w' (hs ++ [ow e z v n xs]) :=
 S.callAdd hb _ ⟨A, c, hv, ho⟩ fun k hk => by
  refine ⟨hn k hk, ?_⟩
  subst hv
  rcases ho.2.2.2 with ⟨rfl, _⟩ | ⟨g, off, cur, fr, rfl, hg, _⟩
  ·cases hk
  ·have hk' : some g = some k := hk
   injection hk' with hk'
   rw [← hk']
   exact (Array.getElem?_eq_some_iff.1 hg).1
theorem dcb (F : Fr n0 a l) (S : St w0 w hs) {sr ds e : Nat} {x : Operand} {s : ByteArray} (ho : o.op = .convert sr ds x) (hx : evl l x = some (.string s)) (hs1 : P.underlying sr = some .string) (hd1 : P.underlying ds = some (.slice e)) (he : P.underlying e = some (.int .u8)) (h63 : s.size ≤ 9223372036854775807)
  (hg : o.guard = none) {d : Nat} (hd : o.dst = some d) (hn : Nat.blt d n0 = true)
  (k : ∀ a w' A' c', Fr n0 a ((d, .slice A' (bI s).length c') :: l) → St w0 w' (hs ++ [ow e 1 (.slice A' (bI s).length c') (bI s).length ((bI s).flatMap encU8)]) → wpList P ops Q rest a w') : wpList P ops Q (o :: rest) a w := by
 have hr := run_bytes_of_string (P := P) w sr ds e s hs1 hd1 he
 have hge := grownCap_ge w s.size 0 e
 have hcm := grownCap_le_maxLen w s.size 0 e (by simpa [maxLen] using h63)
 have hsz : (bytesRow s (grownCap w s.size 0 e)).size = grownCap w s.size 0 e := by
  simp only [bytesRow, Array.size_append, Array.size_map, Array.size_replicate]
  have : s.data.size = s.size := rfl
  omega
 rw [hsz] at hr
 refine dv F (fun n a F => ?_) hg hd hn fun a F => k a _ (some ⟨w.heap.size, 0, none⟩) (grownCap w s.size 0 e) (by rw [bI_len]; exact F) (S.addOw (w' := w.drew.alloc (.cells (bytesRow s (grownCap w s.size 0 e)) e (grownCap w s.size 0 e, grownCap w s.size 0 e + 1))) ?_ rfl ?_ ?_)
 ·simp [execOp, ho, F.ev hx, hr]
 ·exact (Below.refl w.heap.size w).drew.alloc (Nat.le_refl _) _
 ·rw [bI_len]
  refine ⟨by rw [flat_len lenU8, bI_len, Nat.mul_one], hge, hcm, .inr ⟨w.heap.size, 0, _, (grownCap w s.size 0 e, grownCap w s.size 0 e + 1), rfl, ?_, .inr (Nat.le_of_eq hsz), by rw [hsz]; omega, fun j u hj => ?_⟩⟩
  ·show (w.heap.push _)[w.heap.size]? = _
   simp
  ·rw [Nat.zero_add, bytesRow]
   have hjl := (List.getElem?_eq_some_iff.1 hj).1
   rw [flat_len lenU8, bI_len, Nat.mul_one] at hjl
   rw [Array.getElem?_append_left (by simpa using hjl)]
   rw [flatU8, bI, List.map_map] at hj
   simpa using hj
 ·intro k hk
  have hk' : some w.heap.size = some k := hk
  injection hk' with hk'
  omega
end
end Go.Eng
namespace Go.Eng
open Go.RowKit
section
variable {n : Nat} {a : Act} {l : List (Nat × Value)} {G : Prop}
theorem gsp (F : Fr n a l) (dj : Nat) {b : Bool} (hb : look l dj = some (.bool b)) (ht : b = true → G) (hf : b = false → G) : G := by
 cases b with
 | true => exact ht rfl
 | false => exact hf rfl
end
def bt (s : ByteArray) (j : Nat) : Int := ((s.data.toList.getD j 0).toNat : Int)
theorem bt_eq (s : ByteArray) (j : Nat) (h : j < s.size) : ((s[j]'h).toNat : Int) = bt s j := by
 have h2 : j < s.data.toList.length := by simpa using h
 rw [bt, List.getD_eq_getElem?_getD, List.getElem?_eq_getElem h2]
 simp
 rfl
theorem bt_range (s : ByteArray) (j : Nat) : 0 ≤ bt s j ∧ bt s j < 256 := by
 have := (s.data.toList.getD j 0).toNat_lt
 simp only [bt]; omega
section
variable {P : Program} {w : World} {l : List (Nat × Value)} {o : Oper} {t s : Nat} {x y : Operand} {p q : ByteArray} {k k' : IntKind} {i j : Int}
theorem y_sx (ho : o.op = .index t x y) (hx : evl l x = some (.string p)) (hi : evl l y = some (.int k i)) (ht : P.underlying t = some .string) (m : Nat) (hm : i = (m : Int)) (hlt : m < p.size) : Yl P o l w (.int .u8 (bt p m)) w := fun n a F => by
 subst hm
 have h := run_index_string w t p k (m : Int) ht
 rw [dif_pos (by omega)] at h
 simp only [execOp, ho, F.ev hx, F.ev hi, Sem.run_bind, h, Result.andThen_ok]
 simp only [Int.toNat_natCast, bt_eq p m hlt]
 rfl
theorem y_slf (ho : o.op = .slice t x (some y) none none) (hx : evl l x = some (.string p)) (hi : evl l y = some (.int k i)) (ht : P.underlying t = some .string) (m : Nat) (hm : i = (m : Int)) (hle : m ≤ p.size) : Yl P o l w (.string (p.extract m p.size)) w := fun n a F => by
 subst hm
 have h := run_slice_string_from_if w t p k (m : Int) ht
 rw [if_pos (by omega)] at h
 simp [execOp, ho, F.ev hx, F.ev hi, Instr.sliceAt, underlying, program, Sem.run, ht]
 simp [h]
theorem y_slt' (ho : o.op = .slice t x none (some y) none) (hx : evl l x = some (.string p)) (hi : evl l y = some (.int k i)) (ht : P.underlying t = some .string) (m : Nat) (hm : i = (m : Int)) (hle : m ≤ p.size) : Yl P o l w (.string (p.extract 0 m)) w := fun n a F => by
 subst hm
 have h := run_slice_string_to_if w t p k (m : Int) ht
 rw [if_pos (by omega)] at h
 simp [execOp, ho, F.ev hx, F.ev hi, Instr.sliceAt, underlying, program, Sem.run, ht]
 simp [h]
theorem y_sad (ho : o.op = .binOp .add t x y s) (hx : evl l x = some (.string p)) (hy : evl l y = some (.string q)) (h : p.size + q.size ≤ 9223372036854775807) : Yl P o l w (.string (p ++ q)) w := fun n a F => by
 simp only [execOp, ho, F.ev hx, F.ev hy]
 simp only [binOp_string_add]
 simp [eqGuard, run_string_add_sum w p q h]
end
section
variable {P : Program} {f : FuncId} {args : Array Value} {w : World} {v : Value}
theorem shelf (h : Calls P f args w fun e w' => e = .returned v ∧ w' = w) : Calls P f args w (Ret fun u w' => u = v ∧ Below w.heap.size w w') :=
 h.mono fun e w' he => by obtain ⟨rfl, rfl⟩ := he; exact ⟨rfl, Below.refl _ _⟩
end
end Go.Eng
namespace Go.Proofs.YtgcmddaibnimjaaGreatDoor
open Go.RowKit Go.Eng
def kRead : ByteArray := ⟨#[114, 101, 97, 100]⟩
def kTry : ByteArray := ⟨#[116, 114, 121]⟩
def kWrite : ByteArray := ⟨#[119, 114, 105, 116, 101]⟩
def kScan : ByteArray := ⟨#[115, 99, 97, 110]⟩
def kEnv : ByteArray := ⟨#[101, 110, 118]⟩
def kKeep : ByteArray := ⟨#[107, 101, 101, 112]⟩
def kNeed : ByteArray := ⟨#[110, 101, 101, 100]⟩
def kSort : ByteArray := ⟨#[115, 111, 114, 116]⟩
def kUniq : ByteArray := ⟨#[117, 110, 105, 113]⟩
def kUpper : ByteArray := ⟨#[117, 112, 112, 101, 114]⟩
def kCount : ByteArray := ⟨#[99, 111, 117, 110, 116]⟩
def kFail : ByteArray := ⟨#[102, 97, 105, 108]⟩
def kText : ByteArray := ⟨#[116, 101, 120, 116]⟩
def takes (s : ByteArray) : Int × Bool := if s = kRead ∨ s = kTry ∨ s = kWrite then (2, true) else if s = kScan then (3, true) else if s = kEnv ∨ s = kKeep ∨ s = kNeed then (2, false) else if s = kSort ∨ s = kUniq ∨ s = kUpper ∨ s = kCount ∨ s = kFail then (1, false) else (0, false)
theorem c_takes (s : ByteArray) (w0 : World) : Calls Tryz.prog 156 [.string s].toArray w0 (Ret fun v w' => v = .tuple [.int .i64 (takes s).1, .bool (takes s).2].toArray ∧ Below w0.heap.size w0 w') := by
 refine ent Tryz.func156 Tryz.ntmps156 rfl rfl ?_
 intro a F
 have S := St.refl w0
 refine sq fun K1 hK1 => ?_
 refine rg ?_
 refine dv F (y_as rfl rfl) rfl rfl rfl fun a F => ?_
 refine dv F (y_as rfl rfl) rfl rfl rfl fun a F => ?_
 refine dn ?_
 refine tn <| hK1 _ _ ?_
 refine sq fun K2 hK2 => ?_
 refine sq fun K3 hK3 => ?_
 refine rg ?_
 refine dv F (y_mv rfl rfl) rfl rfl rfl fun a F => ?_
 refine dn ?_
 refine tn <| hK3 _ _ ?_
 refine bl ?_
 refine sq fun K4 hK4 => ?_
 refine sq fun K5 hK5 => ?_
 refine rg ?_
 refine dv F (y_se rfl rfl rfl) rfl rfl rfl fun a F => ?_
 refine dv F (y_as rfl rfl) rfl rfl rfl fun a F => ?_
 refine dn ?_
 refine tn <| hK5 _ _ ?_
 refine cb F rfl (fun h1 => ?_) (fun h1 => ?_)
 ·have g1 := h1
  try simp only [zi1, zi2, zi3, zi4, zi5, zi6, zi7, zi8] at g1
  refine wp_skip ?_
  refine tn <| hK4 _ _ ?_
  refine ct F rfl h1 ?_
  refine sq fun K6 hK6 => ?_
  refine rg ?_
  refine dv F (y_as rfl rfl) rfl rfl rfl fun a F => ?_
  refine dv F (y_as rfl rfl) rfl rfl rfl fun a F => ?_
  refine dn ?_
  refine tn <| hK6 _ _ ?_
  refine wp_ret ?_
  refine br <| tr <| ?_
  exact rt2 F rfl rfl rfl ⟨by simp [takes, kRead, kTry, kWrite, kScan, kEnv, kKeep, kNeed, kSort, kUniq, kUpper, kCount, kFail, g1], S.bel⟩
 ·have g1 := h1
  try simp only [zi1, zi2, zi3, zi4, zi5, zi6, zi7, zi8] at g1
  refine sq fun K7 hK7 => ?_
  refine rg ?_
  refine dv F (y_se rfl rfl rfl) rfl rfl rfl fun a F => ?_
  refine dv F (y_as rfl rfl) rfl rfl rfl fun a F => ?_
  refine dn ?_
  refine tn <| hK7 _ _ ?_
  refine cb F rfl (fun h2 => ?_) (fun h2 => ?_)
  ·have g2 := h2
   try simp only [zi1, zi2, zi3, zi4, zi5, zi6, zi7, zi8] at g2
   refine wp_skip ?_
   refine tn <| hK4 _ _ ?_
   refine ct F rfl h2 ?_
   refine sq fun K8 hK8 => ?_
   refine rg ?_
   refine dv F (y_as rfl rfl) rfl rfl rfl fun a F => ?_
   refine dv F (y_as rfl rfl) rfl rfl rfl fun a F => ?_
   refine dn ?_
   refine tn <| hK8 _ _ ?_
   refine wp_ret ?_
   refine br <| tr <| ?_
   exact rt2 F rfl rfl rfl ⟨by simp [takes, kRead, kTry, kWrite, kScan, kEnv, kKeep, kNeed, kSort, kUniq, kUpper, kCount, kFail, g1, g2], S.bel⟩
  ·have g2 := h2
   try simp only [zi1, zi2, zi3, zi4, zi5, zi6, zi7, zi8] at g2
   refine rg ?_
   refine dv F (y_se rfl rfl rfl) rfl rfl rfl fun a F => ?_
   refine dv F (y_as rfl rfl) rfl rfl rfl fun a F => ?_
   refine dn ?_
   refine tn <| hK4 _ _ ?_
   refine cb F rfl (fun h3 => ?_) (fun h3 => ?_)
   ·have g3 := h3
    try simp only [zi1, zi2, zi3, zi4, zi5, zi6, zi7, zi8] at g3
    refine sq fun K9 hK9 => ?_
    refine rg ?_
    refine dv F (y_as rfl rfl) rfl rfl rfl fun a F => ?_
    refine dv F (y_as rfl rfl) rfl rfl rfl fun a F => ?_
    refine dn ?_
    refine tn <| hK9 _ _ ?_
    refine wp_ret ?_
    refine br <| tr <| ?_
    exact rt2 F rfl rfl rfl ⟨by simp [takes, kRead, kTry, kWrite, kScan, kEnv, kKeep, kNeed, kSort, kUniq, kUpper, kCount, kFail, g1, g2, g3], S.bel⟩
   ·have g3 := h3
    try simp only [zi1, zi2, zi3, zi4, zi5, zi6, zi7, zi8] at g3
    refine sq fun K10 hK10 => ?_
    refine rg ?_
    refine dv F (y_se rfl rfl rfl) rfl rfl rfl fun a F => ?_
    refine dv F (y_as rfl rfl) rfl rfl rfl fun a F => ?_
    refine dn ?_
    refine tn <| hK10 _ _ ?_
    refine cb F rfl (fun h4 => ?_) (fun h4 => ?_)
    ·have g4 := h4
     try simp only [zi1, zi2, zi3, zi4, zi5, zi6, zi7, zi8] at g4
     refine sq fun K11 hK11 => ?_
     refine rg ?_
     refine dv F (y_as rfl rfl) rfl rfl rfl fun a F => ?_
     refine dv F (y_as rfl rfl) rfl rfl rfl fun a F => ?_
     refine dn ?_
     refine tn <| hK11 _ _ ?_
     refine wp_ret ?_
     refine br <| tr <| ?_
     exact rt2 F rfl rfl rfl ⟨by simp [takes, kRead, kTry, kWrite, kScan, kEnv, kKeep, kNeed, kSort, kUniq, kUpper, kCount, kFail, g1, g2, g3, g4], S.bel⟩
    ·have g4 := h4
     try simp only [zi1, zi2, zi3, zi4, zi5, zi6, zi7, zi8] at g4
     refine sq fun K12 hK12 => ?_
     refine sq fun K13 hK13 => ?_
     refine rg ?_
     refine dv F (y_se rfl rfl rfl) rfl rfl rfl fun a F => ?_
     refine dv F (y_as rfl rfl) rfl rfl rfl fun a F => ?_
     refine dn ?_
     refine tn <| hK13 _ _ ?_
     refine cb F rfl (fun h5 => ?_) (fun h5 => ?_)
     ·have g5 := h5
      try simp only [zi1, zi2, zi3, zi4, zi5, zi6, zi7, zi8] at g5
      refine wp_skip ?_
      refine tn <| hK12 _ _ ?_
      refine ct F rfl h5 ?_
      refine sq fun K14 hK14 => ?_
      refine rg ?_
      refine dv F (y_as rfl rfl) rfl rfl rfl fun a F => ?_
      refine dv F (y_as rfl rfl) rfl rfl rfl fun a F => ?_
      refine dn ?_
      refine tn <| hK14 _ _ ?_
      refine wp_ret ?_
      refine br <| tr <| ?_
      exact rt2 F rfl rfl rfl ⟨by simp [takes, kRead, kTry, kWrite, kScan, kEnv, kKeep, kNeed, kSort, kUniq, kUpper, kCount, kFail, g1, g2, g3, g4, g5], S.bel⟩
     ·have g5 := h5
      try simp only [zi1, zi2, zi3, zi4, zi5, zi6, zi7, zi8] at g5
      refine sq fun K15 hK15 => ?_
      refine rg ?_
      refine dv F (y_se rfl rfl rfl) rfl rfl rfl fun a F => ?_
      refine dv F (y_as rfl rfl) rfl rfl rfl fun a F => ?_
      refine dn ?_
      refine tn <| hK15 _ _ ?_
      refine cb F rfl (fun h6 => ?_) (fun h6 => ?_)
      ·have g6 := h6
       try simp only [zi1, zi2, zi3, zi4, zi5, zi6, zi7, zi8] at g6
       refine wp_skip ?_
       refine tn <| hK12 _ _ ?_
       refine ct F rfl h6 ?_
       refine sq fun K16 hK16 => ?_
       refine rg ?_
       refine dv F (y_as rfl rfl) rfl rfl rfl fun a F => ?_
       refine dv F (y_as rfl rfl) rfl rfl rfl fun a F => ?_
       refine dn ?_
       refine tn <| hK16 _ _ ?_
       refine wp_ret ?_
       refine br <| tr <| ?_
       exact rt2 F rfl rfl rfl ⟨by simp [takes, kRead, kTry, kWrite, kScan, kEnv, kKeep, kNeed, kSort, kUniq, kUpper, kCount, kFail, g1, g2, g3, g4, g5, g6], S.bel⟩
      ·have g6 := h6
       try simp only [zi1, zi2, zi3, zi4, zi5, zi6, zi7, zi8] at g6
       refine rg ?_
       refine dv F (y_se rfl rfl rfl) rfl rfl rfl fun a F => ?_
       refine dv F (y_as rfl rfl) rfl rfl rfl fun a F => ?_
       refine dn ?_
       refine tn <| hK12 _ _ ?_
       refine cb F rfl (fun h7 => ?_) (fun h7 => ?_)
       ·have g7 := h7
        try simp only [zi1, zi2, zi3, zi4, zi5, zi6, zi7, zi8] at g7
        refine sq fun K17 hK17 => ?_
        refine rg ?_
        refine dv F (y_as rfl rfl) rfl rfl rfl fun a F => ?_
        refine dv F (y_as rfl rfl) rfl rfl rfl fun a F => ?_
        refine dn ?_
        refine tn <| hK17 _ _ ?_
        refine wp_ret ?_
        refine br <| tr <| ?_
        exact rt2 F rfl rfl rfl ⟨by simp [takes, kRead, kTry, kWrite, kScan, kEnv, kKeep, kNeed, kSort, kUniq, kUpper, kCount, kFail, g1, g2, g3, g4, g5, g6, g7], S.bel⟩
       ·have g7 := h7
        try simp only [zi1, zi2, zi3, zi4, zi5, zi6, zi7, zi8] at g7
        refine sq fun K18 hK18 => ?_
        refine sq fun K19 hK19 => ?_
        refine rg ?_
        refine dv F (y_se rfl rfl rfl) rfl rfl rfl fun a F => ?_
        refine dv F (y_as rfl rfl) rfl rfl rfl fun a F => ?_
        refine dn ?_
        refine tn <| hK19 _ _ ?_
        refine cb F rfl (fun h8 => ?_) (fun h8 => ?_)
        ·have g8 := h8
         try simp only [zi1, zi2, zi3, zi4, zi5, zi6, zi7, zi8] at g8
         refine wp_skip ?_
         refine tn <| hK18 _ _ ?_
         refine ct F rfl h8 ?_
         refine sq fun K20 hK20 => ?_
         refine rg ?_
         refine dv F (y_as rfl rfl) rfl rfl rfl fun a F => ?_
         refine dv F (y_as rfl rfl) rfl rfl rfl fun a F => ?_
         refine dn ?_
         refine tn <| hK20 _ _ ?_
         refine wp_ret ?_
         refine br <| tr <| ?_
         exact rt2 F rfl rfl rfl ⟨by simp [takes, kRead, kTry, kWrite, kScan, kEnv, kKeep, kNeed, kSort, kUniq, kUpper, kCount, kFail, g1, g2, g3, g4, g5, g6, g7, g8], S.bel⟩
        ·have g8 := h8
         try simp only [zi1, zi2, zi3, zi4, zi5, zi6, zi7, zi8] at g8
         refine sq fun K21 hK21 => ?_
         refine rg ?_
         refine dv F (y_se rfl rfl rfl) rfl rfl rfl fun a F => ?_
         refine dv F (y_as rfl rfl) rfl rfl rfl fun a F => ?_
         refine dn ?_
         refine tn <| hK21 _ _ ?_
         refine cb F rfl (fun h9 => ?_) (fun h9 => ?_)
         ·have g9 := h9
          try simp only [zi1, zi2, zi3, zi4, zi5, zi6, zi7, zi8] at g9
          refine wp_skip ?_
          refine tn <| hK18 _ _ ?_
          refine ct F rfl h9 ?_
          refine sq fun K22 hK22 => ?_
          refine rg ?_
          refine dv F (y_as rfl rfl) rfl rfl rfl fun a F => ?_
          refine dv F (y_as rfl rfl) rfl rfl rfl fun a F => ?_
          refine dn ?_
          refine tn <| hK22 _ _ ?_
          refine wp_ret ?_
          refine br <| tr <| ?_
          exact rt2 F rfl rfl rfl ⟨by simp [takes, kRead, kTry, kWrite, kScan, kEnv, kKeep, kNeed, kSort, kUniq, kUpper, kCount, kFail, g1, g2, g3, g4, g5, g6, g7, g8, g9], S.bel⟩
         ·have g9 := h9
          try simp only [zi1, zi2, zi3, zi4, zi5, zi6, zi7, zi8] at g9
          refine sq fun K23 hK23 => ?_
          refine rg ?_
          refine dv F (y_se rfl rfl rfl) rfl rfl rfl fun a F => ?_
          refine dv F (y_as rfl rfl) rfl rfl rfl fun a F => ?_
          refine dn ?_
          refine tn <| hK23 _ _ ?_
          refine cb F rfl (fun h10 => ?_) (fun h10 => ?_)
          ·have g10 := h10
           try simp only [zi1, zi2, zi3, zi4, zi5, zi6, zi7, zi8] at g10
           refine wp_skip ?_
           refine tn <| hK18 _ _ ?_
           refine ct F rfl h10 ?_
           refine sq fun K24 hK24 => ?_
           refine rg ?_
           refine dv F (y_as rfl rfl) rfl rfl rfl fun a F => ?_
           refine dv F (y_as rfl rfl) rfl rfl rfl fun a F => ?_
           refine dn ?_
           refine tn <| hK24 _ _ ?_
           refine wp_ret ?_
           refine br <| tr <| ?_
           exact rt2 F rfl rfl rfl ⟨by simp [takes, kRead, kTry, kWrite, kScan, kEnv, kKeep, kNeed, kSort, kUniq, kUpper, kCount, kFail, g1, g2, g3, g4, g5, g6, g7, g8, g9, g10], S.bel⟩
          ·have g10 := h10
           try simp only [zi1, zi2, zi3, zi4, zi5, zi6, zi7, zi8] at g10
           refine sq fun K25 hK25 => ?_
           refine rg ?_
           refine dv F (y_se rfl rfl rfl) rfl rfl rfl fun a F => ?_
           refine dv F (y_as rfl rfl) rfl rfl rfl fun a F => ?_
           refine dn ?_
           refine tn <| hK25 _ _ ?_
           refine cb F rfl (fun h11 => ?_) (fun h11 => ?_)
           ·have g11 := h11
            try simp only [zi1, zi2, zi3, zi4, zi5, zi6, zi7, zi8] at g11
            refine wp_skip ?_
            refine tn <| hK18 _ _ ?_
            refine ct F rfl h11 ?_
            refine sq fun K26 hK26 => ?_
            refine rg ?_
            refine dv F (y_as rfl rfl) rfl rfl rfl fun a F => ?_
            refine dv F (y_as rfl rfl) rfl rfl rfl fun a F => ?_
            refine dn ?_
            refine tn <| hK26 _ _ ?_
            refine wp_ret ?_
            refine br <| tr <| ?_
            exact rt2 F rfl rfl rfl ⟨by simp [takes, kRead, kTry, kWrite, kScan, kEnv, kKeep, kNeed, kSort, kUniq, kUpper, kCount, kFail, g1, g2, g3, g4, g5, g6, g7, g8, g9, g10, g11], S.bel⟩
           ·have g11 := h11
            try simp only [zi1, zi2, zi3, zi4, zi5, zi6, zi7, zi8] at g11
            refine rg ?_
            refine dv F (y_se rfl rfl rfl) rfl rfl rfl fun a F => ?_
            refine dv F (y_as rfl rfl) rfl rfl rfl fun a F => ?_
            refine dn ?_
            refine tn <| hK18 _ _ ?_
            refine cb F rfl (fun h12 => ?_) (fun h12 => ?_)
            ·have g12 := h12
             try simp only [zi1, zi2, zi3, zi4, zi5, zi6, zi7, zi8] at g12
             refine sq fun K27 hK27 => ?_
             refine rg ?_
             refine dv F (y_as rfl rfl) rfl rfl rfl fun a F => ?_
             refine dv F (y_as rfl rfl) rfl rfl rfl fun a F => ?_
             refine dn ?_
             refine tn <| hK27 _ _ ?_
             refine wp_ret ?_
             refine br <| tr <| ?_
             exact rt2 F rfl rfl rfl ⟨by simp [takes, kRead, kTry, kWrite, kScan, kEnv, kKeep, kNeed, kSort, kUniq, kUpper, kCount, kFail, g1, g2, g3, g4, g5, g6, g7, g8, g9, g10, g11, g12], S.bel⟩
            ·have g12 := h12
             try simp only [zi1, zi2, zi3, zi4, zi5, zi6, zi7, zi8] at g12
             refine wp_skip ?_
             refine bn <| tn <| hK2 _ _ ?_
             refine sq fun K28 hK28 => ?_
             refine rg ?_
             refine dv F (y_as rfl rfl) rfl rfl rfl fun a F => ?_
             refine dv F (y_as rfl rfl) rfl rfl rfl fun a F => ?_
             refine dn ?_
             refine tn <| hK28 _ _ ?_
             refine wp_ret ?_
             refine ?_
             exact rt2 F rfl rfl rfl ⟨by simp [takes, kRead, kTry, kWrite, kScan, kEnv, kKeep, kNeed, kSort, kUniq, kUpper, kCount, kFail, g1, g2, g3, g4, g5, g6, g7, g8, g9, g10, g11, g12], S.bel⟩
theorem c_isSpace (c : Int) (w0 : World) : Calls Tryz.prog 205 [.int .i32 c].toArray w0 (Ret fun v w' => v = .bool (decide (c = 32) || decide (c = 9)) ∧ Below w0.heap.size w0 w') := by
 refine ent Tryz.func205 Tryz.ntmps205 rfl rfl ?_
 intro a F
 have S := St.refl w0
 refine sq fun K1 hK1 => ?_
 refine rg ?_
 refine dv F (y_as rfl rfl) rfl rfl rfl fun a F => ?_
 refine dn ?_
 refine tn <| hK1 _ _ ?_
 refine sq fun K2 hK2 => ?_
 refine rg ?_
 refine dv F (y_mv rfl rfl) rfl rfl rfl fun a F => ?_
 refine dv F (y_ie rfl rfl rfl) rfl rfl rfl fun a F => ?_
 refine dv F (y_mv rfl rfl) rfl rfl rfl fun a F => ?_
 refine gsp F 5 rfl (fun h1 => ?_) (fun h1 => ?_)
 ·have g1 := h1
  try simp only [zi1, zi2, zi3, zi4, zi5, zi6, zi7, zi8] at g1
  refine gs F rfl rfl rfl h1 rfl rfl fun a F => ?_
  refine gs F rfl rfl rfl h1 rfl rfl fun a F => ?_
  refine dv F (y_pkt h1 rfl rfl rfl) rfl rfl rfl fun a F => ?_
  refine dv F (y_as rfl rfl) rfl rfl rfl fun a F => ?_
  refine dn ?_
  refine tn <| hK2 _ _ ?_
  refine wp_ret ?_
  refine ?_
  exact rt1 F rfl rfl ⟨by simp [g1], S.bel⟩
 ·have g1 := h1
  try simp only [zi1, zi2, zi3, zi4, zi5, zi6, zi7, zi8] at g1
  refine gv F rfl rfl rfl h1 (y_mv rfl rfl) rfl rfl fun a F => ?_
  refine gv F rfl rfl rfl h1 (y_ie rfl rfl rfl) rfl rfl fun a F => ?_
  refine dv F (y_pkf h1 rfl rfl rfl) rfl rfl rfl fun a F => ?_
  refine dv F (y_as rfl rfl) rfl rfl rfl fun a F => ?_
  refine dn ?_
  refine tn <| hK2 _ _ ?_
  refine wp_ret ?_
  refine ?_
  exact rt1 F rfl rfl ⟨by simp [g1], S.bel⟩
end Go.Proofs.YtgcmddaibnimjaaGreatDoor
namespace Go.Proofs.YtgcmddaibnimjaaGreatDoor
open Go.RowKit Go.Eng
def encS (p : ByteArray) : List Value := [.string p]
theorem lenS (p : ByteArray) : (encS p).length = 1 := rfl
theorem Tryz.mixed : Tryz.prog.follows .mixedOrders = true := by kernel_rfl
def idx {α : Type} (p : α → Bool) (xs : List α) : Int := match xs.findIdx? p with | some i => (i : Int) | none => -1
theorem idx_hit {α : Type} (p : α → Bool) (xs : List α) (i : Nat) (hi : i < xs.length) (h : p xs[i] = true) (hno : ∀ (j : Nat) (hj : j < xs.length), j < i → p xs[j] = false) : idx p xs = (i : Int) := by
 have : xs.findIdx? p = some i := by
  rw [List.findIdx?_eq_some_iff_getElem]
  exact ⟨hi, h, fun j hj => by simp [hno j (by omega) hj]⟩
 simp [idx, this]
theorem idx_miss {α : Type} (p : α → Bool) (xs : List α) (hno : ∀ (j : Nat) (hj : j < xs.length), p xs[j] = false) : idx p xs = -1 := by
 have : xs.findIdx? p = none := by
  rw [List.findIdx?_eq_none_iff]
  intro x hx
  obtain ⟨j, hj, rfl⟩ := List.getElem_of_mem hx
  exact hno j hj
 simp [idx, this]
theorem idx_any {α : Type} (p : α → Bool) (xs : List α) : decide (0 ≤ idx p xs) = xs.any p := by
 unfold idx
 cases h : xs.findIdx? p with
 | none =>
  rw [List.findIdx?_eq_none_iff] at h
  simp only [show ¬ ((0 : Int) ≤ -1) by omega, decide_false]
  symm
  rw [List.any_eq_false]
  intro x hx; simp [h x hx]
 | some i =>
  rw [List.findIdx?_eq_some_iff_getElem] at h
  obtain ⟨hi, h, _⟩ := h
  have : xs.any p = true := List.any_eq_true.2 ⟨xs[i], List.getElem_mem hi, h⟩
  simp [this]
theorem c_IndexFuncS {A : Option Addr} {c : Nat} {xs : List ByteArray} (w0 : World) (p : ByteArray → Bool) (g : Nat) (cap : List Value) (he : ∀ (args : Array Value) (w : World), (callFunc g args).run Tryz.prog w = .ok (.enter g args) w)
  (hp : ∀ (x : ByteArray), x ∈ xs → ∀ (W : World), Below w0.heap.size w0 W → Calls Tryz.prog g ([Value.string x] ++ cap).toArray W (Ret fun v w' => v = .bool (p x) ∧ Below W.heap.size W w')) (hA : Sl w0 1 encS A xs) (hn : xs.length ≤ 140737488351232) :
  Calls Tryz.prog 140 [.slice A xs.length c, .func (.func g) #[] cap.toArray].toArray w0 (Ret fun v w' => v = .int .i64 (idx p xs) ∧ Below w0.heap.size w0 w') := by
 refine ent Tryz.func140 Tryz.ntmps140 rfl rfl ?_
 intro a F
 have S := St.refl w0
 refine sq fun K1 hK1 => ?_
 refine rg ?_
 refine dv F (y_as rfl rfl) rfl rfl rfl fun a F => ?_
 refine dn ?_
 refine tn <| hK1 _ _ ?_
 refine sq fun K2 hK2 => ?_
 refine sq fun K3 hK3 => ?_
 refine rg ?_
 refine dv F (y_mv rfl rfl) rfl rfl rfl fun a F => ?_
 refine dv F (y_ln rfl rfl Tryz.underlying25) rfl rfl rfl fun a F => ?_
 refine dv F (y_mv rfl rfl) rfl rfl rfl fun a F => ?_
 refine dn ?_
 refine tn <| hK3 _ _ ?_
 refine bl ?_
 refine lp (fun m a w => ∃ i : Nat, m = xs.length - i ∧ (i ≤ xs.length) ∧ (∀ (j : Nat) (hj : j < xs.length), j < i → p xs[j] = false) ∧ Fr 19 a [(0, .slice A xs.length c), (1, .func (.func g) #[] cap.toArray), (7, .int .i64 (xs.length : Int)), (8, .int .i64 (i : Int))] ∧ St w0 w []) (xs.length) ?_ ?_
 ·exact ⟨0, rfl, Nat.zero_le _, fun j _ h => absurd h (Nat.not_lt_zero j), F.sub _ ⟨rfl, rfl, rfl, rfl, trivial⟩, S.pick [] _ trivial rfl⟩
 ·rintro m a w ⟨i, hm, hi, hno, F, S⟩
  refine sq fun K4 hK4 => ?_
  refine rg ?_
  refine dv F (y_lt rfl rfl rfl) rfl rfl rfl fun a F => ?_
  refine dn ?_
  refine tn <| hK4 _ _ ?_
  refine sq fun K5 hK5 => ?_
  refine cd F rfl (fun h1 => ?_) (fun h1 => ?_)
  ·refine wp_skip ?_
   refine tn <| hK5 _ _ ?_
   refine sq fun K6 hK6 => ?_
   refine bl ?_
   refine sq fun K7 hK7 => ?_
   refine rg ?_
   refine dv F (y_mv rfl rfl) rfl rfl rfl fun a F => ?_
   refine dv F (y_as rfl rfl) rfl rfl rfl fun a F => ?_
   refine dn ?_
   refine tn <| hK7 _ _ ?_
   refine sq fun K8 hK8 => ?_
   refine rg ?_
   refine dv F (y_mv rfl rfl) rfl rfl rfl fun a F => ?_
   refine dv F (y_mv rfl rfl) rfl rfl rfl fun a F => ?_
   refine dv F (y_mv rfl rfl) rfl rfl rfl fun a F => ?_
   have hlt : i < xs.length := by omega
   obtain ⟨ab, ao, rfl, hab, hcell⟩ := (hA.st S).at_ hlt
   refine dv F (y_ia rfl rfl rfl rfl Tryz.underlying25 Tryz.sizeOf9 i rfl hlt) rfl rfl rfl fun a F => ?_
   refine dv F (y_ld rfl rfl (ld1 Tryz.isAgg9 (hcell 0 _ rfl))) rfl rfl rfl fun a F => ?_
   refine dc F (c_f rfl rfl rfl he) rfl rfl rfl (hp _ (List.getElem_mem hlt) _ S.bel) fun a v w' hr F => ?_
   obtain ⟨rfl, hb⟩ := hr
   replace S := S.call hb
   refine dn ?_
   refine tn <| hK8 _ _ ?_
   refine cb F rfl (fun h2 => ?_) (fun h2 => ?_)
   ·refine sq fun K9 hK9 => ?_
    refine rg ?_
    refine dv F (y_mv rfl rfl) rfl rfl rfl fun a F => ?_
    refine dv F (y_as rfl rfl) rfl rfl rfl fun a F => ?_
    refine dn ?_
    refine tn <| hK9 _ _ ?_
    refine wp_ret ?_
    refine br <| tr <| lr <| br <| tr <| ?_
    exact rt1 F rfl rfl ⟨by rw [idx_hit p xs i hlt h2 hno], S.bel⟩
   ·refine wp_skip ?_
    refine bn <| tn <| hK6 _ _ ?_
    refine rg ?_
    refine dv F (y_add rfl rfl rfl (by omega)) rfl rfl rfl fun a F => ?_
    refine dv F (y_mv rfl rfl) rfl rfl rfl fun a F => ?_
    refine dn ?_
    exact ln (by omega) ⟨i + 1, rfl, by omega, allto hno hlt h2, F.sub _ ⟨rfl, rfl, rfl, rfl, trivial⟩, S.pick [] _ trivial rfl⟩
  ·refine wp_exit ?_
   refine tx <| lx <| bh <| tn <| hK2 _ _ ?_
   refine sq fun K10 hK10 => ?_
   refine rg ?_
   refine dv F (y_as rfl rfl) rfl rfl rfl fun a F => ?_
   refine dn ?_
   refine tn <| hK10 _ _ ?_
   refine wp_ret ?_
   refine ?_
   exact rt1 F rfl rfl ⟨by rw [idx_miss p xs fun j hj => hno j hj (by omega)], S.bel⟩
theorem c_ContainsFuncS {A : Option Addr} {c : Nat} {xs : List ByteArray} (w0 : World) (p : ByteArray → Bool) (g : Nat) (cap : List Value) (he : ∀ (args : Array Value) (w : World), (callFunc g args).run Tryz.prog w = .ok (.enter g args) w)
  (hp : ∀ (x : ByteArray), x ∈ xs → ∀ (W : World), Below w0.heap.size w0 W → Calls Tryz.prog g ([Value.string x] ++ cap).toArray W (Ret fun v w' => v = .bool (p x) ∧ Below W.heap.size W w')) (hA : Sl w0 1 encS A xs) (hn : xs.length ≤ 140737488351232) :
  Calls Tryz.prog 101 [.slice A xs.length c, .func (.func g) #[] cap.toArray].toArray w0 (Ret fun v w' => v = .bool (xs.any p) ∧ Below w0.heap.size w0 w') := by
 refine ent Tryz.func101 Tryz.ntmps101 rfl rfl ?_
 intro a F
 have S := St.refl w0
 refine sq fun K1 hK1 => ?_
 refine rg ?_
 refine dv F (y_as rfl rfl) rfl rfl rfl fun a F => ?_
 refine dn ?_
 refine tn <| hK1 _ _ ?_
 refine sq fun K2 hK2 => ?_
 refine rg ?_
 refine dv F (y_mv rfl rfl) rfl rfl rfl fun a F => ?_
 refine dv F (y_mv rfl rfl) rfl rfl rfl fun a F => ?_
 refine dc F (c_f rfl rfl rfl Tryz.call140) rfl rfl rfl (c_IndexFuncS _ p g cap he hp (hA.st S) hn) fun a v w' hr F => ?_
 obtain ⟨rfl, hb⟩ := hr
 replace S := S.call hb
 refine dv F (y_ge rfl rfl rfl) rfl rfl rfl fun a F => ?_
 refine dv F (y_as rfl rfl) rfl rfl rfl fun a F => ?_
 refine dn ?_
 refine tn <| hK2 _ _ ?_
 refine wp_ret ?_
 refine ?_
 exact rt1 F rfl rfl ⟨by rw [idx_any], S.bel⟩
theorem c_IndexS (w0 : World) (y : ByteArray) {A : Option Addr} {c : Nat} {xs : List ByteArray} (hA : Sl w0 1 encS A xs) (hn : xs.length ≤ 140737488351232) :
  Calls Tryz.prog 139 [.slice A xs.length c, .string y].toArray w0 (Ret fun v w' => v = .int .i64 (idx (fun x => decide (y = x)) xs) ∧ Below w0.heap.size w0 w') := by
 refine ent Tryz.func139 Tryz.ntmps139 rfl rfl ?_
 intro a F
 have S := St.refl w0
 refine sq fun K1 hK1 => ?_
 refine rg ?_
 refine dv F (y_as rfl rfl) rfl rfl rfl fun a F => ?_
 refine dn ?_
 refine tn <| hK1 _ _ ?_
 refine sq fun K2 hK2 => ?_
 refine sq fun K3 hK3 => ?_
 refine rg ?_
 refine dv F (y_mv rfl rfl) rfl rfl rfl fun a F => ?_
 refine dv F (y_ln rfl rfl Tryz.underlying25) rfl rfl rfl fun a F => ?_
 refine dv F (y_mv rfl rfl) rfl rfl rfl fun a F => ?_
 refine dn ?_
 refine tn <| hK3 _ _ ?_
 refine bl ?_
 refine lp (fun m a w => ∃ i : Nat, m = xs.length - i ∧ (i ≤ xs.length) ∧ (∀ (j : Nat) (hj : j < xs.length), j < i → decide (y = xs[j]) = false) ∧ Fr 19 a [(0, .slice A xs.length c), (1, .string y), (7, .int .i64 (xs.length : Int)), (8, .int .i64 (i : Int))] ∧ St w0 w []) (xs.length) ?_ ?_
 ·exact ⟨0, rfl, Nat.zero_le _, fun j _ h => absurd h (Nat.not_lt_zero j), F.sub _ ⟨rfl, rfl, rfl, rfl, trivial⟩, S.pick [] _ trivial rfl⟩
 ·rintro m a w ⟨i, hm, hi, hno, F, S⟩
  refine sq fun K4 hK4 => ?_
  refine rg ?_
  refine dv F (y_lt rfl rfl rfl) rfl rfl rfl fun a F => ?_
  refine dn ?_
  refine tn <| hK4 _ _ ?_
  refine sq fun K5 hK5 => ?_
  refine cd F rfl (fun h1 => ?_) (fun h1 => ?_)
  ·refine wp_skip ?_
   refine tn <| hK5 _ _ ?_
   refine sq fun K6 hK6 => ?_
   refine bl ?_
   refine sq fun K7 hK7 => ?_
   refine rg ?_
   refine dv F (y_mv rfl rfl) rfl rfl rfl fun a F => ?_
   refine dv F (y_as rfl rfl) rfl rfl rfl fun a F => ?_
   refine dn ?_
   refine tn <| hK7 _ _ ?_
   refine sq fun K8 hK8 => ?_
   refine rg ?_
   refine dv F (y_mv rfl rfl) rfl rfl rfl fun a F => ?_
   refine dv F (y_mv rfl rfl) rfl rfl rfl fun a F => ?_
   refine dv F (y_mv rfl rfl) rfl rfl rfl fun a F => ?_
   have hlt : i < xs.length := by omega
   obtain ⟨ab, ao, rfl, hab, hcell⟩ := (hA.st S).at_ hlt
   refine dv F (y_ia rfl rfl rfl rfl Tryz.underlying25 Tryz.sizeOf9 i rfl hlt) rfl rfl rfl fun a F => ?_
   refine dv F (y_ld rfl rfl (ld1 Tryz.isAgg9 (hcell 0 _ rfl))) rfl rfl rfl fun a F => ?_
   refine dv F (y_se rfl rfl rfl) rfl rfl rfl fun a F => ?_
   refine dn ?_
   refine tn <| hK8 _ _ ?_
   refine cb F rfl (fun h2 => ?_) (fun h2 => ?_)
   ·refine sq fun K9 hK9 => ?_
    refine rg ?_
    refine dv F (y_mv rfl rfl) rfl rfl rfl fun a F => ?_
    refine dv F (y_as rfl rfl) rfl rfl rfl fun a F => ?_
    refine dn ?_
    refine tn <| hK9 _ _ ?_
    refine wp_ret ?_
    refine br <| tr <| lr <| br <| tr <| ?_
    exact rt1 F rfl rfl ⟨by rw [idx_hit (fun x => decide (y = x)) xs i hlt h2 hno], S.bel⟩
   ·refine wp_skip ?_
    refine bn <| tn <| hK6 _ _ ?_
    refine rg ?_
    refine dv F (y_add rfl rfl rfl (by omega)) rfl rfl rfl fun a F => ?_
    refine dv F (y_mv rfl rfl) rfl rfl rfl fun a F => ?_
    refine dn ?_
    exact ln (by omega) ⟨i + 1, rfl, by omega, allto hno hlt h2, F.sub _ ⟨rfl, rfl, rfl, rfl, trivial⟩, S.pick [] _ trivial rfl⟩
  ·refine wp_exit ?_
   refine tx <| lx <| bh <| tn <| hK2 _ _ ?_
   refine sq fun K10 hK10 => ?_
   refine rg ?_
   refine dv F (y_as rfl rfl) rfl rfl rfl fun a F => ?_
   refine dn ?_
   refine tn <| hK10 _ _ ?_
   refine wp_ret ?_
   refine ?_
   exact rt1 F rfl rfl ⟨by rw [idx_miss (fun x => decide (y = x)) xs fun j hj => hno j hj (by omega)], S.bel⟩
theorem c_ContainsS (w0 : World) (y : ByteArray) {A : Option Addr} {c : Nat} {xs : List ByteArray} (hA : Sl w0 1 encS A xs) (hn : xs.length ≤ 140737488351232) :
  Calls Tryz.prog 100 [.slice A xs.length c, .string y].toArray w0 (Ret fun v w' => v = .bool (xs.any fun x => decide (y = x)) ∧ Below w0.heap.size w0 w') := by
 refine ent Tryz.func100 Tryz.ntmps100 rfl rfl ?_
 intro a F
 have S := St.refl w0
 refine sq fun K1 hK1 => ?_
 refine rg ?_
 refine dv F (y_as rfl rfl) rfl rfl rfl fun a F => ?_
 refine dn ?_
 refine tn <| hK1 _ _ ?_
 refine sq fun K2 hK2 => ?_
 refine rg ?_
 refine dv F (y_mv rfl rfl) rfl rfl rfl fun a F => ?_
 refine dv F (y_mv rfl rfl) rfl rfl rfl fun a F => ?_
 refine dc F (c_f rfl rfl rfl Tryz.call139) rfl rfl rfl (c_IndexS _ y (hA.st S) hn) fun a v w' hr F => ?_
 obtain ⟨rfl, hb⟩ := hr
 replace S := S.call hb
 refine dv F (y_ge rfl rfl rfl) rfl rfl rfl fun a F => ?_
 refine dv F (y_as rfl rfl) rfl rfl rfl fun a F => ?_
 refine dn ?_
 refine tn <| hK2 _ _ ?_
 refine wp_ret ?_
 refine ?_
 exact rt1 F rfl rfl ⟨by rw [idx_any], S.bel⟩
end Go.Proofs.YtgcmddaibnimjaaGreatDoor
namespace Go.Eng
open Go.RowKit
section
variable {P : Program}
theorem run_part1 {t : Nat} (hA : ∀ w, (isAgg t).run P w = .ok false w) {cs : Array Value} {i : Nat} {v : Value} (hv : cs[i]? = some v) (w : World) : (part t cs i).run P w = .ok v w := by
 simp [part, hA, hv]
theorem run_parta {t z : Nat} (hA : ∀ w, (isAgg t).run P w = .ok true w) (hz : ∀ w, (Go.sizeOf t).run P w = .ok z w) {cs : Array Value} {i : Nat} {vs : List Value} (hv : (cs.toList.drop i).take z = vs) (w : World) : (part t cs i).run P w = .ok (.agg vs.toArray) w := by
 subst hv
 simp [part, hA, hz]
 rw [← Array.toList_inj]
 simp [Array.toList_extract, List.drop_take, Nat.add_sub_cancel_left]
theorem eqArr {t e n : Nat} {i : TypeInfo} {k : IntKind} (hu : P.underlying t = some (.array n e)) (hi : P.info? e = some i) (hc : P.cellsOf e = 1) (hA : ∀ w, (isAgg e).run P w = .ok false w) (he : P.underlying e = some (.int k))
  (xs ys : List Int) (hx : xs.length = n) (hy : ys.length = n) (d : Nat) (w : World) :
  (Op.equalIn (d + 2) t (.agg (xs.map (Value.int k)).toArray) (.agg (ys.map (Value.int k)).toArray)).run P w = .ok (decide (xs = ys)) w := by
 rw [show d + 2 = (d + 1) + 1 from rfl, run_equalIn_array (w := w) (d + 1) _ _ hu hi, hc]
 have key : ∀ (m s : Nat), s + m = n → (Op.eqItems (d + 1) e 1 (xs.map (Value.int k)).toArray (ys.map (Value.int k)).toArray (List.range' s m)).run P w = .ok (decide (xs.drop s = ys.drop s)) w := by
  intro m
  induction m with
  | zero =>
   intro s hs
   simp only [List.range'_zero, Op.eqItems, Sem.run_pure]
   rw [List.drop_eq_nil_of_le (by omega), List.drop_eq_nil_of_le (by omega)]
   simp
  | succ m ih =>
   intro s hs
   have hxs : s < xs.length := by omega
   have hys : s < ys.length := by omega
   simp only [List.range'_succ, Op.eqItems, Sem.run_bind, Nat.mul_one]
   rw [run_part1 hA (v := .int k xs[s]) (by simp [hxs]), Result.andThen_ok]
   rw [run_part1 hA (v := .int k ys[s]) (by simp [hys]), Result.andThen_ok, run_equalIn_int w d e k k xs[s] ys[s] he, Result.andThen_ok]
   have e1 : (xs.drop s = ys.drop s) ↔ (xs[s] = ys[s] ∧ xs.drop (s + 1) = ys.drop (s + 1)) := by
    rw [List.drop_eq_getElem_cons hxs, List.drop_eq_getElem_cons hys, List.cons.injEq]
   by_cases hh : xs[s] = ys[s]
   ·have : (xs[s] == ys[s]) = true := by rw [hh]; exact beq_self_eq_true _
    rw [this]
    simp only [Bool.not_true, Bool.false_eq_true, if_false]
    rw [ih (s + 1) (by omega)]
    congr 1
    exact decide_eq_decide.2 ⟨fun h => e1.2 ⟨hh, h⟩, fun h => (e1.1 h).2⟩
   ·have : (xs[s] == ys[s]) = false := by simp [hh]
    rw [this]
    have e2 : ¬ (xs.drop s = ys.drop s) := fun h => hh (e1.1 h).1
    simp [e2]
 have := key n 0 (by omega)
 rw [List.range_eq_range', this]
 simp
end
end Go.Eng
namespace Go.Eng
open Go.RowKit
structure HOp where
 supp : List Nat
 own : Value → List Nat
 asn : Act → World → Prop
def depsOn (o : Oper) : List Nat := (o.after.toList.filter fun e => Region.binds .any e).map (·.on)
def parB (ops : List Oper) (m n : Nat) (cl : List (List Nat)) (supp : List (List Nat)) (l0 : List Nat) : Bool :=
 (List.range m).all fun i => match ops[i]? with
  | none => false
  | some o => o.guard.isNone && (match o.dst with
    | none => false
    | some d => Nat.blt d n && !l0.contains d && (List.range m).all fun j => i == j || (match ops[j]? with
      | some oj => oj.dst != some d && (!(supp.getD j []).contains d || (cl.getD j []).contains i)
      | none => false)) &&
   (depsOn o).all (· < i) && (cl.getD i []).all fun j => (depsOn o).contains j || (depsOn o).any fun k => (cl.getD k []).contains j
section
variable {P : Program} {Q : Exit → Act → World → Prop} {w : World} {n : Nat} {l0 : List (Nat × Value)} {l' : List Oper} {m : Nat} {cl supp : List (List Nat)} {H : Nat → HOp}
theorem parB_spec (hB : parB l' m n cl supp (l0.map Prod.fst) = true) {i : Nat} (hi : i < m) : ∃ o d, l'[i]? = some o ∧ o.guard = none ∧ o.dst = some d ∧ (d ∉ l0.map Prod.fst ∧ d < n) ∧
  (∀ j, j < m → i ≠ j → ∃ oj, l'[j]? = some oj ∧ oj.dst ≠ some d ∧ (d ∈ supp.getD j [] → i ∈ cl.getD j [])) ∧ (∀ e ∈ o.after, Region.binds .any e = true → e.on < i) ∧
  (∀ j ∈ cl.getD i [], (∃ e ∈ o.after, Region.binds .any e = true ∧ e.on = j) ∨ ∃ e ∈ o.after, Region.binds .any e = true ∧ j ∈ cl.getD e.on []) := by
 have h := List.all_eq_true.1 hB i (List.mem_range.2 hi)
 cases ho : l'[i]? with
 | none => simp [ho] at h
 | some o =>
  simp only [ho] at h
  cases hd : o.dst with
  | none => simp [hd] at h
  | some d =>
   simp only [hd, Bool.and_eq_true, Option.isNone_iff_eq_none, Bool.not_eq_true', List.all_eq_true, List.mem_range] at h
   obtain ⟨⟨⟨hg, ⟨hdn, hl⟩, hj⟩, hdep⟩, hcl⟩ := h
   refine ⟨o, d, rfl, hg, hd, ⟨by simpa using hl, by simpa [Nat.blt_eq] using hdn⟩, fun j hjm hne => ?_, fun e he hb => ?_, fun j hjc => ?_⟩
   ·have := hj j hjm
    have hne' : (i == j) = false := by simpa using hne
    cases hoj : l'[j]? with
    | none => simp [hne', hoj] at this
    | some oj =>
     simp only [hne', hoj, Bool.false_or, Bool.and_eq_true, bne_iff_ne, ne_eq, Bool.or_eq_true, Bool.not_eq_true'] at this
     refine ⟨oj, rfl, this.1, fun hs => ?_⟩
     rcases this.2 with h' | h'
     ·simp at h'; exact absurd hs h'
     ·simpa using h'
   ·have := hdep e.on (by simp only [depsOn, List.mem_map, List.mem_filter]; exact ⟨e, ⟨Array.mem_toList_iff.2 he, hb⟩, rfl⟩)
    simpa using this
   ·have := hcl j hjc
    simp only [Bool.or_eq_true, List.contains_iff_mem, List.any_eq_true] at this
    rcases this with h' | ⟨k, hk, hjk⟩
    ·simp only [depsOn, List.mem_map, List.mem_filter] at h'
     obtain ⟨e, ⟨he, hb⟩, rfl⟩ := h'
     exact .inl ⟨e, Array.mem_toList_iff.1 he, hb, rfl⟩
    ·simp only [depsOn, List.mem_map, List.mem_filter] at hk
     obtain ⟨e, ⟨he, hb⟩, rfl⟩ := hk
     exact .inr ⟨e, Array.mem_toList_iff.1 he, hb, hjk⟩
def dsl (l' : List Oper) (i : Nat) : Nat := ((l'[i]?).bind (·.dst)).getD 0
structure PJ (P : Program) (w : World) (n : Nat) (l0 : List (Nat × Value)) (l' : List Oper) (m : Nat) (H : Nat → HOp) (listed : Array Bool) (a : Act) (w1 : World) : Prop where
 inv : HeadInv .any l'.toArray m listed
 bel : Below w.heap.size w w1
 fr : Fr n a l0
 asn : ∀ i, i < m → listed.getD i false = true → (H i).asn a w1
 own : ∀ i, i < m → listed.getD i false = true → ∀ b ∈ (H i).own (a.tmps.getD (dsl l' i) undef), w.heap.size ≤ b ∧ b < w1.heap.size
 sep : ∀ i j, i < m → j < m → listed.getD i false = true → listed.getD j false = true → i ≠ j → ∀ b ∈ (H i).own (a.tmps.getD (dsl l' i) undef), b ∉ (H j).own (a.tmps.getD (dsl l' j) undef)
theorem cl_listed (hB : parB l' m n cl supp (l0.map Prod.fst) = true) {listed : Array Bool} (inv : HeadInv .any l'.toArray m listed) :
  ∀ i, i < m → (∀ o, l'[i]? = some o → ∀ e ∈ o.after, Region.binds .any e = true → listed.getD e.on false = true) → ∀ j ∈ cl.getD i [], listed.getD j false = true := by
 intro i
 induction i using Nat.strongRecOn with
 | _ i ih =>
  intro hi hd j hj
  obtain ⟨o, d, ho, _, _, _, _, h5, h6⟩ := parB_spec hB hi
  rcases h6 j hj with ⟨e, he, hb, rfl⟩ | ⟨e, he, hb, hjk⟩
  ·exact hd o ho e he hb
  ·have hlt := h5 e he hb
   refine ih e.on hlt (by omega) (fun o' ho' e' he' hb' => ?_) j hjk
   exact inv.closed e.on o' (by simpa using ho') (hd o ho e he hb) e' he' hb'
theorem Fr.put_out {a : Act} (F : Fr n a l0) {d : Nat} (hd : d ∉ l0.map Prod.fst) (v : Value) : Fr n (a.put (some d) v) l0 := by
 refine ⟨by simp [Act.put, F.size], by simp [Act.put, F.defers], fun i u h => ?_⟩
 have hne : d ≠ i := by
  rintro rfl
  apply hd
  clear hd F
  induction l0 with
  | nil => cases h
  | cons x xs ih =>
   obtain ⟨k, y⟩ := x
   simp only [look] at h
   cases hb : Nat.beq k d with
   | true => simp [Nat.eq_of_beq_eq_true hb]
   | false => rw [hb] at h; simp [ih h]
 simp only [Act.put]
 rw [Array.getElem?_setIfInBounds_ne hne]
 exact F.get i u h
theorem parA (m : Nat) (cl supp : List (List Nat)) (l0 : List (Nat × Value)) (H : Nat → HOp) {a : Act} (F : Fr n a l0) (hm : P.follows .mixedOrders = true)
  (hB : parB l' m n cl supp (l0.map Prod.fst) = true)
  (hT : m = l'.length ∨ (m < l'.length ∧ Region.sinkB .any l'.toArray m = true ∧ Region.chainB .any l'.toArray m = true))
  (hS : Region.seqB .any l'.toArray (l'.drop m).length m ((Array.replicate m true) ++ Array.replicate (l'.length - m) false) = true)
  (hper : ∀ i, i < m → ∀ a w1 w2, Below w1.heap.size w1 w2 → (H i).asn a w1 → (H i).asn a w2)
  (hsup : ∀ i, i < m → ∀ a w d v, d ∉ supp.getD i [] → (H i).asn a w → (H i).asn (a.put (some d) v) w)
  (hrun : ∀ i, i < m → ∀ o, l'[i]? = some o → ∀ a w1, Below w.heap.size w w1 → Fr n a l0 → (∀ j ∈ cl.getD i [], (H j).asn a w1) →
   o.wp P a w1 (fun a' w2 => ∃ v, a' = a.put o.dst v ∧ Below w1.heap.size w1 w2 ∧ (H i).asn a' w2 ∧ ∀ b ∈ (H i).own v, w1.heap.size ≤ b ∧ b < w2.heap.size) Q)
  (hend : ∀ a w1, PJ P w n l0 l' m H (Array.replicate m true ++ Array.replicate (l'.length - m) false) a w1 → wpList P l'.toArray Q (l'.drop m) a w1) : wpAny P .any l'.toArray Q l'.toArray.size (Array.replicate l'.toArray.size false) a { w with drawn := w.drawn + 1 } := by
 have hml : m ≤ l'.length := by rcases hT with h | h <;> omega
 have key : ∀ (c : Nat) (listed : Array Bool) (a : Act) (w1 : World), ((List.range m).filter fun i => listed.getD i true == false).length = c → PJ P w n l0 l' m H listed a w1 → wpAny P .any l'.toArray Q (c + (l'.length - m)) listed a w1 := by
  intro c
  induction c with
  | zero =>
   intro listed a w1 hc J
   have hall : ∀ i, i < m → listed.getD i true = true := by
    intro i hi
    have := List.filter_eq_nil_iff.1 (List.eq_nil_of_length_eq_zero hc) i (List.mem_range.2 hi)
    simpa using this
   have hl : listed = Array.replicate m true ++ Array.replicate (l'.length - m) false := by
    refine Array.ext_getElem? fun i => ?_
    have hsz : listed.size = l'.length := by simpa using J.inv.size
    rcases Nat.lt_or_ge i m with h | h
    ·have h1 := hall i h
     have hi : i < listed.size := by omega
     simp only [Array.getD_eq_getD_getElem?, Array.getElem?_eq_getElem hi] at h1 ⊢
     simp at h1
     rw [Array.getElem?_append_left (by simpa using h)]
     simp [h, h1]
    ·rcases Nat.lt_or_ge i l'.length with h' | h'
     ·have h1 := J.inv.tail i h (by simpa using h')
      have hi : i < listed.size := by omega
      simp only [Array.getD_eq_getD_getElem?, Array.getElem?_eq_getElem hi] at h1 ⊢
      simp at h1
      rw [Array.getElem?_append_right (by simpa using h)]
      have hlt : i - m < l'.length - m := by omega
      simp [h1, hlt]
     ·rw [Array.getElem?_eq_none (by omega), Array.getElem?_eq_none (by simp; omega)]
   subst hl
   have hd := hend a w1 J
   rw [Nat.zero_add, show l'.length - m = (l'.drop m).length by simp]
   exact wpAny_of_seq (l'.drop m) m _ a w1 (fun j => by simp) (by simpa using hS) hd
  | succ c ih =>
   intro listed a w1 hc J
   have hsz : listed.size = l'.length := by simpa using J.inv.size
   -- there is an unlisted head operation
   have hex : ∃ i, i < m ∧ listed.getD i true = false := by
    have : 0 < ((List.range m).filter fun i => listed.getD i true == false).length := by omega
    obtain ⟨i, hi⟩ := List.exists_mem_of_length_pos this
    simp at hi
    exact ⟨i, hi.1, by simpa using hi.2⟩
   have hready : ∀ i, i ∈ Region.ready .any l'.toArray listed → i < m := by
    intro i hi
    obtain ⟨hun, oi, hoi, _⟩ := mem_ready.1 hi
    rcases Nat.lt_or_ge i m with h | h
    ·exact h
    ·rcases hT with h' | ⟨h', h1, h2⟩
     ·have : i < l'.length := by
       have := (Array.getElem?_eq_some_iff.1 hoi).1
       simpa using this
      omega
     ·obtain ⟨k, hk, hku⟩ := hex
      exact absurd hi (tail_waits h1 h2 (by simpa using h') J.inv (m - k) k rfl hk hku i h)
   have hne : Region.ready .any l'.toArray listed ≠ [] := by
    obtain ⟨i, hi, hu⟩ := hex
    -- the least one
    have : ∃ i, (i < m ∧ listed.getD i true = false) ∧ ∀ j, j < i → listed.getD j true = true := by
     induction i using Nat.strongRecOn with
     | _ i ihi =>
      by_cases hj : ∃ j, j < i ∧ listed.getD j true = false
      ·obtain ⟨j, hji, hju⟩ := hj
       exact ihi j hji (by omega) hju
      ·refine ⟨i, ⟨hi, hu⟩, fun j hji => ?_⟩
       cases hb : listed.getD j true with
       | true => rfl
       | false => exact absurd ⟨j, hji, hb⟩ hj
    obtain ⟨i, ⟨hi, hu⟩, hmin⟩ := this
    obtain ⟨o, d, ho, _, _, _, _, h5, _⟩ := parB_spec hB hi
    intro hnil
    have hmem : i ∈ Region.ready .any l'.toArray listed := by
     refine mem_ready.2 ⟨hu, o, by simpa using ho, fun e he hb => ?_⟩
     have hlt := h5 e he hb
     have := hmin e.on hlt
     have hi' : e.on < listed.size := by omega
     simp only [Array.getD_eq_getD_getElem?, Array.getElem?_eq_getElem hi'] at this ⊢
     simpa using this
    rw [hnil] at hmem; cases hmem
   rw [show c + 1 + (l'.length - m) = (c + (l'.length - m)) + 1 by omega]
   refine ⟨fun h => absurd h hne, fun i hi => ?_⟩
   have him := hready i hi
   obtain ⟨hun, oi, hoi, hdeps⟩ := mem_ready.1 hi
   obtain ⟨o, d, ho, hg, hd, ⟨hl0, hdn⟩, hoth, h5, h6⟩ := parB_spec hB him
   have hoo : oi = o := by
    have : l'[i]? = some oi := by simpa using hoi
    rw [ho] at this; exact (Option.some.inj this).symm
   subst hoo
   have hcl := cl_listed hB J.inv i him (fun o' ho' e he hb => by
    rw [ho] at ho'; cases ho'
    exact hdeps e he hb)
   have hclm : ∀ j ∈ cl.getD i [], j < m := by
    have : ∀ i, i < m → ∀ j ∈ cl.getD i [], j < m := by
     intro i
     induction i using Nat.strongRecOn with
     | _ i ihi =>
      intro hi j hj
      obtain ⟨o, d, ho, _, _, _, _, h5, h6⟩ := parB_spec hB hi
      rcases h6 j hj with ⟨e, he, hb, rfl⟩ | ⟨e, he, hb, hjk⟩
      ·have := h5 e he hb; omega
      ·have := h5 e he hb
       exact ihi e.on this (by omega) j hjk
    exact this i him
   have hw := hrun i him oi ho a w1 J.bel J.fr (fun j hj => J.asn j (hclm j hj) (hcl j hj))
   have hunF : listed.getD i false = false := getD_both hun
   have hstep : oi.wp P a w1 (wpAny P .any l'.toArray Q (c + (l'.length - m)) (listed.setIfInBounds i true)) Q := by
    refine Oper.wp_mono (fun a' w2 hh => ?_) hw
    obtain ⟨v, rfl, hb, hasn, hown⟩ := hh
    rw [hd] at hasn ⊢
    have hset : ∀ j, j ≠ i → (listed.setIfInBounds i true).getD j false = listed.getD j false := fun j hj => getD_set_ne false (Ne.symm hj)
    -- slots of the others
    have hslot : ∀ j, j < m → j ≠ i → (a.put (some d) v).tmps.getD (dsl l' j) undef = a.tmps.getD (dsl l' j) undef := by
     intro j hj hji
     obtain ⟨oj, hoj, hdj, _⟩ := hoth j hj (Ne.symm hji)
     obtain ⟨oj', dj, hoj', _, hdj', _⟩ := parB_spec hB hj
     rw [hoj] at hoj'; cases hoj'
     have hne' : d ≠ dj := by rintro rfl; exact hdj hdj'
     have hdsl : dsl l' j = dj := by simp [dsl, hoj, hdj']
     rw [hdsl]
     simp only [Act.put, Array.getD_eq_getD_getElem?]
     rw [Array.getElem?_setIfInBounds_ne hne']
    have hdsl : dsl l' i = d := by simp [dsl, ho, hd]
    have hslotI : ∀ x, x ∈ (H i).own ((a.put (some d) v).tmps.getD (dsl l' i) undef) → w1.heap.size ≤ x ∧ x < w2.heap.size := by
     intro x hx
     rw [hdsl] at hx
     simp only [Act.put, Array.getD_eq_getD_getElem?] at hx
     rw [Array.getElem?_setIfInBounds_self_of_lt (by rw [J.fr.size]; exact hdn)] at hx
     exact hown x hx
    have hcount : ((List.range m).filter fun k => (listed.setIfInBounds i true).getD k true == false).length = c := by
     have hsz' : i < listed.size := by omega
     have e : ∀ k, ((listed.setIfInBounds i true).getD k true == false) = ((listed.getD k true == false) && !(k == i)) := by
      intro k
      by_cases hk : k = i
      ·subst hk; simp [hsz']
      ·rw [getD_set_ne true (Ne.symm hk)]; simp [hk]
     have e2 : ((List.range m).filter fun k => (listed.setIfInBounds i true).getD k true == false) = ((List.range m).filter fun k => listed.getD k true == false).filter fun k => !(k == i) := by
      rw [List.filter_filter]
      congr 1
      funext k
      rw [e k, Bool.and_comm]
     rw [e2]
     have hmem : i ∈ (List.range m).filter fun k => listed.getD k true == false := List.mem_filter.2 ⟨List.mem_range.2 him, by rw [hun]; rfl⟩
     have hnd : ((List.range m).filter fun k => listed.getD k true == false).Nodup := List.Pairwise.filter _ List.nodup_range
     have h1 : (((List.range m).filter fun k => listed.getD k true == false).filter fun k => !(k == i)) = ((List.range m).filter fun k => listed.getD k true == false).erase i := by
      rw [hnd.erase_eq_filter]; rfl
     rw [h1, List.length_erase_of_mem hmem]; omega
    refine ih _ _ _ hcount ⟨J.inv.set hi him, J.bel.trans (hb.mono J.bel.size), J.fr.put_out hl0 v, ?_, ?_, ?_⟩
    ·intro j hj hjl
     by_cases hji : j = i
     ·subst hji; exact hasn
     ·rw [hset j hji] at hjl
      refine hsup j hj _ _ d v ?_ (hper j hj _ _ _ hb (J.asn j hj hjl))
      intro hds
      obtain ⟨oj, hoj, _, hcj⟩ := hoth j hj (Ne.symm hji)
      have := cl_listed hB J.inv j hj (fun o' ho' e he hb' => J.inv.closed j o' (by simpa using ho') hjl e he hb') i (hcj hds)
      rw [hunF] at this; cases this
    ·intro j hj hjl b hbm
     by_cases hji : j = i
     ·subst hji
      have := hslotI b hbm
      exact ⟨Nat.le_trans J.bel.size this.1, this.2⟩
     ·rw [hset j hji] at hjl
      rw [hslot j hj hji] at hbm
      have := J.own j hj hjl b hbm
      exact ⟨this.1, Nat.lt_of_lt_of_le this.2 hb.size⟩
    ·intro j k hj hk hjl hkl hne' b hbj hbk
     by_cases hji : j = i
     ·subst hji
      have h1 := hslotI b hbj
      rw [hset k (Ne.symm hne')] at hkl
      rw [hslot k hk (Ne.symm hne')] at hbk
      have := J.own k hk hkl b hbk
      omega
     ·rw [hset j hji] at hjl
      rw [hslot j hj hji] at hbj
      by_cases hki : k = i
      ·subst hki
       have h1 := hslotI b hbk
       have := J.own j hj hjl b hbj
       omega
      ·rw [hset k hki] at hkl
       rw [hslot k hk hki] at hbk
       exact J.sep j k hj hk hjl hkl hne' b hbj hbk
   unfold wpOp
   simp only [hoi, wanted_none hg, if_true]
   exact .inl hstep
 have h0 := key m (Array.replicate l'.length false) a w.drew (by
  rw [List.filter_eq_self.2]
  ·simp
  ·intro i hi
   have : i < l'.length := by have := List.mem_range.1 hi; omega
   simp [this]) ⟨⟨by simp, fun j oj hj hl => (by rw [getD_replicate_false] at hl; cases hl), fun t _ ht => getD_in (by simpa using ht) (getD_replicate_false _ _)⟩, (Below.refl _ _).drew, F, fun i _ h => (by rw [getD_replicate_false] at h; cases h), fun i _ h => (by rw [getD_replicate_false] at h; cases h), fun i j _ _ h => (by rw [getD_replicate_false] at h; cases h)⟩
 rw [show m + (l'.length - m) = l'.length by omega] at h0
 simpa using h0
theorem PJ.get {a : Act} {w1 : World} (J : PJ P w n l0 l' m H (Array.replicate m true ++ Array.replicate (l'.length - m) false) a w1) {i : Nat} (hi : i < m) : (H i).asn a w1 := J.asn i hi (by simp [Array.getD_eq_getD_getElem?, Array.getElem?_append_left, hi])
end
structure HS where
 supp : List Nat
 own : Value → List Nat
 asn : Act → World → Prop
 per : ∀ a w1 w2, Below w1.heap.size w1 w2 → asn a w1 → asn a w2
 sup : ∀ a w d v, d ∉ supp → asn a w → asn (a.put (some d) v) w
def HS.h (x : HS) : HOp := ⟨x.supp, x.own, x.asn⟩
def hs0 : HS := ⟨[], fun _ => [], fun _ _ => True, fun _ _ _ _ _ => trivial, fun _ _ _ _ _ _ => trivial⟩
theorem put_getD {a : Act} {d e : Nat} {v : Value} (h : e ≠ d) : (a.put (some d) v).tmps.getD e undef = a.tmps.getD e undef := by
 simp only [Act.put, Array.getD_eq_getD_getElem?]
 rw [Array.getElem?_setIfInBounds_ne (Ne.symm h)]
def tmpsOf : List Operand → List Nat
 | [] => []
 | .tmp t :: l => t :: tmpsOf l
 | _ :: l => tmpsOf l
theorem mem_tmpsOf {t : Nat} : ∀ {l : List Operand}, .tmp t ∈ l → t ∈ tmpsOf l
 | x :: l, h => by
  rcases List.mem_cons.1 h with e | h'
  ·subst e; simp [tmpsOf]
  ·cases x <;> simp [tmpsOf, mem_tmpsOf h']
def notSel : Op → Bool
 | .select .. => false
 | _ => true
theorem exec_put {o : Oper} (hs : notSel o.op = true) {a : Act} {d : Nat} {v : Value} (h : d ∉ tmpsOf o.op.operands.toList) : execOp (a.put (some d) v).eval o = execOp a.eval o := by
 refine execOp_congr o (fun cs b e => by rw [e] at hs; cases hs) fun x hxm => ?_
 refine Act.eval_put fun d' hd' => ?_
 cases hd'
 rintro rfl
 exact h (mem_tmpsOf (Array.mem_toList_iff.2 hxm))
def dof (o : Oper) : Nat := o.dst.getD 0
def hsP (P : Program) (o : Oper) : HS where
 supp := dof o :: tmpsOf o.op.operands.toList
 own := fun _ => []
 asn := fun a w => notSel o.op = true ∧ ∀ w2, Below w.heap.size w w2 → (execOp a.eval o).run P w2 = .ok (.value (a.tmps.getD (dof o) undef)) w2
 per := fun a w1 w2 hb h => ⟨h.1, fun w3 hb3 => h.2 w3 (hb.trans (hb3.mono hb.size))⟩
 sup := fun a w e v he h => by
  simp only [List.mem_cons, not_or] at he
  refine ⟨h.1, fun w2 hb => ?_⟩
  rw [exec_put h.1 he.2, put_getD (Ne.symm he.1)]
  exact h.2 w2 hb
def blkOf : Value → Nat
 | .pointer (some p) => p.block
 | .slice (some p) _ _ => p.block
 | _ => 0
def hsB (o : Oper) (e : Nat) (mk : Nat → Value) (xs : List Operand) (cs : List Value → List Value) : HS where
 supp := dof o :: tmpsOf xs
 own := fun v => [blkOf v]
 asn := fun a w => ∃ b, a.tmps.getD (dof o) undef = mk b ∧ blkOf (mk b) = b ∧ w.heap[b]? = some (.cells (cs (xs.map a.eval)).toArray e (0, 0))
 per := fun a w1 w2 hb ⟨b, h1, h2, h3⟩ => ⟨b, h1, h2, (hb.block b (Array.getElem?_eq_some_iff.1 h3).1).trans h3⟩
 sup := fun a w f v he ⟨b, h1, h2, h3⟩ => by
  simp only [List.mem_cons, not_or] at he
  refine ⟨b, by rw [put_getD (Ne.symm he.1)]; exact h1, h2, ?_⟩
  have : xs.map (a.put (some f) v).eval = xs.map a.eval := List.map_congr_left fun x hx => Act.eval_put fun d' hd' => by
   cases hd'; rintro rfl; exact he.2 (mem_tmpsOf hx)
  rw [this]; exact h3
def hsC (o : Oper) (own : Value → List Nat) (C : Value → World → Prop) (hC : ∀ v w1 w2, Below w1.heap.size w1 w2 → C v w1 → C v w2) : HS where
 supp := [dof o]
 own := own
 asn := fun a w => C (a.tmps.getD (dof o) undef) w
 per := fun a w1 w2 hb h => hC _ _ _ hb h
 sup := fun a w e v he h => by
  simp only [List.mem_cons, List.not_mem_nil, or_false] at he
  rw [put_getD (Ne.symm he)]; exact h
inductive HK where
 | p
 | b (e : Nat) (mk : Nat → Value) (xs : List Operand) (cs : List Value → List Value)
 | c (own : Value → List Nat) (C : Value → World → Prop) (hC : ∀ v w1 w2, Below w1.heap.size w1 w2 → C v w1 → C v w2)
def hsOf (P : Program) (o : Oper) : HK → HS
 | .p => hsP P o
 | .b e mk xs cs => hsB o e mk xs cs
 | .c own C hC => hsC o own C hC
@[reducible] def HK.v (v : Value) : HK := .c (fun _ => []) (fun u _ => u = v) fun _ _ _ _ h => h
@[reducible] def HK.q (p : Value → Prop) : HK := .c (fun _ => []) (fun u _ => p u) fun _ _ _ _ h => h
section
variable {P : Program} {Q : Exit → Act → World → Prop} {w : World} {n : Nat} {l0 : List (Nat × Value)} {l' : List Oper}
def Run1 (P : Program) (Q : Exit → Act → World → Prop) (w : World) (n : Nat) (l0 : List (Nat × Value)) (H : List HS) (cl : List Nat) (o : Oper) (h : HS) : Prop :=
 ∀ a w1, Below w.heap.size w w1 → Fr n a l0 → (∀ j ∈ cl, (H.getD j hs0).asn a w1) →
  o.wp P a w1 (fun a' w2 => ∃ v, a' = a.put o.dst v ∧ Below w1.heap.size w1 w2 ∧ h.asn a' w2 ∧ ∀ b ∈ h.own v, w1.heap.size ≤ b ∧ b < w2.heap.size) Q
def RunAll (P : Program) (Q : Exit → Act → World → Prop) (w : World) (n : Nat) (l0 : List (Nat × Value)) (H : List HS) : List (List Nat) → List Oper → List HK → Prop
 | c :: cs, o :: os, k :: ks => Run1 P Q w n l0 H c o (hsOf P o k) ∧ RunAll P Q w n l0 H cs os ks
 | _, _, [] => True
 | _, _, _ => False
theorem runAll_get {H : List HS} : ∀ {cl : List (List Nat)} {os : List Oper} {hs : List HK}, RunAll P Q w n l0 H cl os hs → ∀ i o h, os[i]? = some o → (List.zipWith (hsOf P) os hs)[i]? = some h → Run1 P Q w n l0 H (cl.getD i []) o h
 | c :: cs, o :: os, h :: hs, hr, 0, o', h', ho, hh => by
  simp at ho hh; subst ho hh; exact hr.1
 | c :: cs, o :: os, h :: hs, hr, i + 1, o', h', ho, hh => by
  have := runAll_get hr.2 i o' h' (by simpa using ho) (by simpa using hh)
  simpa using this
 | _, _, [], hr, i, o', h', ho, hh => by simp at hh
 | [], _, _ :: _, hr, _, _, _, _, _ => hr.elim
 | _ :: _, [], _ :: _, hr, _, _, _, _, _ => hr.elim
theorem rpA (ks : List HK) (m : Nat) (cl : List (List Nat)) (l0 : List (Nat × Value)) {a : Act} {l : List (Nat × Value)} (F : Fr n a l) (hl : Eng.sub l l0) (hm : P.follows .mixedOrders = true)
  (hB : parB l' m n cl ((List.zipWith (hsOf P) l' ks).map HS.supp) (l0.map Prod.fst) = true) (hlen : (List.zipWith (hsOf P) l' ks).length = m)
  (hT : m = l'.length ∨ (m < l'.length ∧ Region.sinkB .any l'.toArray m = true ∧ Region.chainB .any l'.toArray m = true))
  (hS : Region.seqB .any l'.toArray (l'.drop m).length m ((Array.replicate m true) ++ Array.replicate (l'.length - m) false) = true)
  (hrun : RunAll P Q w n l0 (List.zipWith (hsOf P) l' ks) cl l' ks)
  (hend : ∀ a w1, PJ P w n l0 l' m (fun i => ((List.zipWith (hsOf P) l' ks).getD i hs0).h) (Array.replicate m true ++ Array.replicate (l'.length - m) false) a w1 → wpList P l'.toArray Q (l'.drop m) a w1) : wpAny P .any l'.toArray Q l'.toArray.size (Array.replicate l'.toArray.size false) a { w with drawn := w.drawn + 1 } := by
 have hg : ∀ i, i < m → ∃ h, (List.zipWith (hsOf P) l' ks)[i]? = some h ∧ (List.zipWith (hsOf P) l' ks).getD i hs0 = h ∧ ((List.zipWith (hsOf P) l' ks).map HS.supp).getD i [] = h.supp := fun i hi => by
  have hi' : i < (List.zipWith (hsOf P) l' ks).length := by omega
  exact ⟨(List.zipWith (hsOf P) l' ks)[i], List.getElem?_eq_getElem hi', by rw [List.getD_eq_getElem?_getD, List.getElem?_eq_getElem hi']; rfl, by rw [List.getD_eq_getElem?_getD, List.getElem?_map, List.getElem?_eq_getElem hi']; rfl⟩
 refine parA m cl ((List.zipWith (hsOf P) l' ks).map HS.supp) l0 (fun i => ((List.zipWith (hsOf P) l' ks).getD i hs0).h) (F.sub l0 hl) hm hB hT hS (fun i hi a w1 w2 hb h => ?_) (fun i hi a w d v hd h => ?_) (fun i hi o ho a w1 hb Fa hA => ?_) hend
 ·exact ((List.zipWith (hsOf P) l' ks).getD i hs0).per a w1 w2 hb h
 ·obtain ⟨h', _, h2, h3⟩ := hg i hi
  rw [h3] at hd
  refine ((List.zipWith (hsOf P) l' ks).getD i hs0).sup a w d v ?_ h
  rw [h2]; exact hd
 ·obtain ⟨h', h1, h2, _⟩ := hg i hi
  have := runAll_get hrun i o h' ho h1 a w1 hb Fa hA
  simp only [HS.h, h2]
  exact this
theorem rp {id : Nat} (ks : List HK) (m : Nat) (cl : List (List Nat)) (l0 : List (Nat × Value)) {a : Act} {l : List (Nat × Value)} (F : Fr n a l) (hl : Eng.sub l l0) (hm : P.follows .mixedOrders = true)
  (hB : parB l' m n cl ((List.zipWith (hsOf P) l' ks).map HS.supp) (l0.map Prod.fst) = true) (hlen : (List.zipWith (hsOf P) l' ks).length = m)
  (hT : m = l'.length ∨ (m < l'.length ∧ Region.sinkB .any l'.toArray m = true ∧ Region.chainB .any l'.toArray m = true))
  (hS : Region.seqB .any l'.toArray (l'.drop m).length m ((Array.replicate m true) ++ Array.replicate (l'.length - m) false) = true)
  (hrun : RunAll P Q w n l0 (List.zipWith (hsOf P) l' ks) cl l' ks)
  (hend : ∀ a w1, PJ P w n l0 l' m (fun i => ((List.zipWith (hsOf P) l' ks).getD i hs0).h) (Array.replicate m true ++ Array.replicate (l'.length - m) false) a w1 → wpList P l'.toArray Q (l'.drop m) a w1) : (Code.region id l'.toArray true).wp P Q a w :=
 wp_region_any hm (rpA ks m cl l0 F hl hm hB hlen hT hS hrun hend)
variable {o : Oper} {a : Act} {w1 w2 : World} {l : List (Nat × Value)}
theorem put_self {a : Act} (F : Fr n a l) {d : Nat} (hn : Nat.blt d n = true) (v : Value) : (a.put (some d) v).tmps.getD d undef = v := by
 have hd' : d < n := by simpa [Nat.blt_eq] using hn
 simp only [Act.put, Array.getD_eq_getD_getElem?]
 rw [Array.getElem?_setIfInBounds_self_of_lt (by rw [F.size]; exact hd')]
 rfl
theorem pv (F : Fr n a l) {v : Value} (y : ∀ w2, Below w1.heap.size w1 w2 → Yl P o l w2 v w2) {d : Nat} (hd : o.dst = some d) (hn : Nat.blt d n = true) (hs : notSel o.op = true) (hdx : (tmpsOf o.op.operands.toList).contains d = false) :
  o.wp P a w1 (fun a' w2 => ∃ v, a' = a.put o.dst v ∧ Below w1.heap.size w1 w2 ∧ (hsOf P o .p).asn a' w2 ∧ ∀ b ∈ (hsOf P o .p).own v, w1.heap.size ≤ b ∧ b < w2.heap.size) Q := by
 unfold Oper.wp
 rw [y w1 (Below.refl _ _) n a F, Oper.upon_value, hd]
 refine ⟨v, rfl, Below.refl _ _, ⟨hs, fun w2 hb => ?_⟩, fun b hb => by cases hb⟩
 have hd' : dof o = d := by simp [dof, hd]
 rw [exec_put hs (by simpa using hdx), y w2 hb n a F, hd', put_self F hn]
theorem pb (F : Fr n a l) {vs : List Value} {e : Nat} {mk : Nat → Value} {xs : List Operand} {cs : List Value → List Value} (hxs : evls l xs = some vs) (y : Yl P o l w1 (mk w1.heap.size) (w1.alloc (.cells (cs vs).toArray e))) (hbo : ∀ b, blkOf (mk b) = b) {d : Nat} (hd : o.dst = some d) (hn : Nat.blt d n = true) (hdx : (tmpsOf xs).contains d = false) :
  o.wp P a w1 (fun a' w2 => ∃ v, a' = a.put o.dst v ∧ Below w1.heap.size w1 w2 ∧ (hsOf P o (.b e mk xs cs)).asn a' w2 ∧ ∀ b ∈ (hsOf P o (.b e mk xs cs)).own v, w1.heap.size ≤ b ∧ b < w2.heap.size) Q := by
 unfold Oper.wp
 rw [y n a F, Oper.upon_value, hd]
 have hdo : dof o = d := by simp [dof, hd]
 refine ⟨_, rfl, (Below.refl _ _).alloc (Nat.le_refl _) _, ⟨w1.heap.size, ?_, hbo _, ?_⟩, fun b hb => ?_⟩
 ·rw [hdo, put_self F hn]
 ·have : xs.map (a.put (some d) (mk w1.heap.size)).eval = vs := by
   rw [← F.evs hxs]
   refine List.map_congr_left fun x hx => Act.eval_put fun d' hd' => ?_
   cases hd'; rintro rfl
   have := mem_tmpsOf hx
   simp at hdx
   exact hdx this
  rw [this]
  show (w1.heap.push _)[w1.heap.size]? = _
  simp
 ·have : b = blkOf (mk w1.heap.size) := by simpa [hsOf, hsB] using hb
  rw [this, hbo]; simp
theorem pc (F : Fr n a l) {g : Nat} {vs : List Value} (y : Cl P o l w1 g vs) {d : Nat} (hd : o.dst = some d) (hn : Nat.blt d n = true) {R : Value → World → Prop} (hc : Calls P g vs.toArray w1 (Ret R))
  {own : Value → List Nat} {C : Value → World → Prop} {hC : ∀ v w1 w2, Below w1.heap.size w1 w2 → C v w1 → C v w2} (h : ∀ v w2, R v w2 → Below w1.heap.size w1 w2 ∧ C v w2 ∧ ∀ b ∈ own v, w1.heap.size ≤ b ∧ b < w2.heap.size) :
  o.wp P a w1 (fun a' w2 => ∃ v, a' = a.put o.dst v ∧ Below w1.heap.size w1 w2 ∧ (hsOf P o (.c own C hC)).asn a' w2 ∧ ∀ b ∈ (hsOf P o (.c own C hC)).own v, w1.heap.size ≤ b ∧ b < w2.heap.size) Q := by
 unfold Oper.wp
 rw [y n a F, Oper.upon_enter]
 refine hc.mono fun e w2 hr => ?_
 cases e with
 | returned v =>
  obtain ⟨h1, h2, h3⟩ := h v w2 hr
  rw [hd]
  refine ⟨v, rfl, h1, ?_, h3⟩
  show C ((a.put (some d) v).tmps.getD (dof o) undef) w2
  rw [show dof o = d by simp [dof, hd], put_self F hn]
  exact h2
 | panicked c => exact hr.elim
 | outgrown => exact hr.elim
theorem pcv (F : Fr n a l) {g : Nat} {vs : List Value} (y : Cl P o l w1 g vs) {d : Nat} (hd : o.dst = some d) (hn : Nat.blt d n = true) {r : Value} (hc : Calls P g vs.toArray w1 (Ret fun u w' => u = r ∧ Below w1.heap.size w1 w')) :
  o.wp P a w1 (fun a' w2 => ∃ v, a' = a.put o.dst v ∧ Below w1.heap.size w1 w2 ∧ (hsOf P o (HK.v r)).asn a' w2 ∧ ∀ b ∈ (hsOf P o (HK.v r)).own v, w1.heap.size ≤ b ∧ b < w2.heap.size) Q :=
 pc (own := fun _ => []) (C := fun u _ => u = r) (hC := fun _ _ _ _ h => h) F y hd hn hc fun u w2 h => ⟨h.2, h.1, fun b hb => by cases hb⟩
theorem pe (F : Fr n a l) {v : Value} (y : Yl P o l w1 v w2) {d : Nat} (hd : o.dst = some d) (hn : Nat.blt d n = true) (hb : Below w1.heap.size w1 w2)
  {own : Value → List Nat} {C : Value → World → Prop} {hC : ∀ v w1 w2, Below w1.heap.size w1 w2 → C v w1 → C v w2} (h : C v w2) (ho : ∀ b ∈ own v, w1.heap.size ≤ b ∧ b < w2.heap.size) :
  o.wp P a w1 (fun a' w2 => ∃ v, a' = a.put o.dst v ∧ Below w1.heap.size w1 w2 ∧ (hsOf P o (.c own C hC)).asn a' w2 ∧ ∀ b ∈ (hsOf P o (.c own C hC)).own v, w1.heap.size ≤ b ∧ b < w2.heap.size) Q := by
 unfold Oper.wp
 rw [y n a F, Oper.upon_value, hd]
 refine ⟨v, rfl, hb, ?_, ho⟩
 show C ((a.put (some d) v).tmps.getD (dof o) undef) w2
 rw [show dof o = d by simp [dof, hd], put_self F hn]
 exact h
theorem Fr.learn (F : Fr n a l) {d : Nat} (hd : Nat.blt d n = true) {v : Value} (h : a.tmps.getD d undef = v) : Fr n a ((d, v) :: l) := by
 refine ⟨F.size, F.defers, fun i u hu => ?_⟩
 simp only [look] at hu
 cases hb : Nat.beq d i with
 | true =>
  rw [hb] at hu
  injection hu with hu
  subst hu
  obtain rfl := Nat.eq_of_beq_eq_true hb
  have hd' : d < a.tmps.size := by rw [F.size]; simpa [Nat.blt_eq] using hd
  simp only [Array.getD_eq_getD_getElem?, Array.getElem?_eq_getElem hd'] at h ⊢
  simpa using h
 | false => rw [hb] at hu; exact F.get i u hu
theorem Fr.eP (F : Fr n a l) {h : HS} (A : h.asn a w1) (e : h = hsOf P o .p) {d : Nat} (hd : dof o = d) (hn : Nat.blt d n = true) {v : Value} (y : Yl P o l w1 v w1) : Fr n a ((d, v) :: l) := by
 subst e hd
 refine F.learn hn ?_
 have h1 : (execOp a.eval o).run P w1 = .ok (.value (a.tmps.getD (dof o) undef)) w1 := A.2 w1 (Below.refl _ _)
 rw [y n a F] at h1
 injection h1 with h1
 injection h1 with h1
 exact h1.symm
theorem Fr.eC (F : Fr n a l) {h : HS} {own : Value → List Nat} {C : Value → World → Prop} {hC : ∀ v w1 w2, Below w1.heap.size w1 w2 → C v w1 → C v w2} (A : h.asn a w1) (e : h = hsOf P o (.c own C hC)) {d : Nat} (hd : dof o = d) (hn : Nat.blt d n = true) : ∃ v, Fr n a ((d, v) :: l) ∧ C v w1 ∧ h.own (a.tmps.getD d undef) = own v := by
 subst e hd
 exact ⟨_, F.learn hn rfl, A, rfl⟩
theorem Fr.eV (F : Fr n a l) {h : HS} {v : Value} (A : h.asn a w1) (e : h = hsOf P o (HK.v v)) {d : Nat} (hd : dof o = d) (hn : Nat.blt d n = true) : Fr n a ((d, v) :: l) := by
 subst e hd
 exact F.learn hn A
theorem Fr.eB (F : Fr n a l) {h : HS} {e : Nat} {mk : Nat → Value} {xs : List Operand} {cs : List Value → List Value} (A : h.asn a w1) (eh : h = hsOf P o (.b e mk xs cs)) {d : Nat} (hd : dof o = d) (hn : Nat.blt d n = true) {vs : List Value} (hxs : evls l xs = some vs) :
  ∃ b, Fr n a ((d, mk b) :: l) ∧ w1.heap[b]? = some (.cells (cs vs).toArray e (0, 0)) ∧ h.own (a.tmps.getD d undef) = [b] := by
 subst eh hd
 obtain ⟨b, h1, h2, h3⟩ := A
 refine ⟨b, F.learn hn h1, by rw [← F.evs hxs]; exact h3, ?_⟩
 show [blkOf (a.tmps.getD (dof o) undef)] = [b]
 rw [h1, h2]
end
structure EX (w0 w w1 : World) (l' : List Oper) (H : Nat → HOp) (a : Act) (ds : List Nat) (hs : List Res) : Prop where
 st : St w0 w1 hs
 of : ∀ i s, nth hs i = some s → ∀ k, s.fp k → k < w.heap.size ∨ ∃ j ∈ ds, k ∈ (H j).own (a.tmps.getD (dsl l' j) undef)
theorem EX.start {P : Program} {n m : Nat} {l0 : List (Nat × Value)} {w0 w w1 : World} {l' : List Oper} {H : Nat → HOp} {a : Act} {listed : Array Bool} {hs : List Res} (J : PJ P w n l0 l' m H listed a w1) (S : St w0 w hs) : EX w0 w w1 l' H a [] hs :=
 ⟨S.call J.bel, fun i s h k hk => .inl ((S.own i s h).2 k hk).2⟩
theorem EX.add {P : Program} {n m : Nat} {l0 : List (Nat × Value)} {w0 w w1 : World} {l' : List Oper} {H : Nat → HOp} {a : Act} {ds : List Nat} {hs : List Res} (J : PJ P w n l0 l' m H (Array.replicate m true ++ Array.replicate (l'.length - m) false) a w1) (hw : w0.heap.size ≤ w.heap.size) (E : EX w0 w w1 l' H a ds hs) (i : Nat) (hi : i < m) (hds : (ds.all fun j => !Nat.beq j i && Nat.blt j m) = true) (r : Res) (hr : r.ok w1)
  (hf : ∀ k, r.fp k → k ∈ (H i).own (a.tmps.getD (dsl l' i) undef)) : EX w0 w w1 l' H a (i :: ds) (hs ++ [r]) := by
 have hlis : ∀ j, j < m → (Array.replicate m true ++ Array.replicate (l'.length - m) false).getD j false = true := fun j hj => by simp [Array.getD_eq_getD_getElem?, Array.getElem?_append_left, hj]
 have hb : ∀ k, r.fp k → w.heap.size ≤ k ∧ k < w1.heap.size := fun k hk => J.own i hi (hlis i hi) k (hf k hk)
 refine ⟨E.st.add r hr (fun k hk => ⟨Nat.le_trans hw (hb k hk).1, (hb k hk).2⟩) fun i' s hs' k hk hks => ?_, fun i' s hs' k hk => ?_⟩
 ·rcases E.of i' s hs' k hks with h | ⟨j, hj, hkj⟩
  ·have := (hb k hk).1; omega
  ·have := List.all_eq_true.1 hds j hj
   simp only [Bool.and_eq_true, Bool.not_eq_true', Nat.blt_eq] at this
   have hne : i ≠ j := by
    rintro rfl
    have h1 := this.1
    rw [Nat.beq_refl] at h1; cases h1
   exact J.sep i j hi this.2 (hlis i hi) (hlis j this.2) hne k (hf k hk) hkj
 ·rcases nth_snoc _ _ _ _ hs' with h | ⟨_, rfl⟩
  ·rcases E.of i' s h k hk with h' | ⟨j, hj, hkj⟩
   ·exact .inl h'
   ·exact .inr ⟨j, List.mem_cons_of_mem _ hj, hkj⟩
  ·exact .inr ⟨i, List.mem_cons_self .., hf k hk⟩
section
variable {P : Program} {n m : Nat} {l0 : List (Nat × Value)} {w0 w w1 : World} {l' : List Oper} {L : List HS} {a : Act} {hs : List Res}
theorem PJ.at (J : PJ P w n l0 l' m (fun i => (L.getD i hs0).h) (Array.replicate m true ++ Array.replicate (l'.length - m) false) a w1) (i : Nat) (hi : Nat.blt i m = true) : (L.getD i hs0).asn a w1 := J.get (i := i) (by simpa [Nat.blt_eq] using hi)
theorem EX.row {ds : List Nat} (J : PJ P w n l0 l' m (fun i => (L.getD i hs0).h) (Array.replicate m true ++ Array.replicate (l'.length - m) false) a w1) (hw : w0.heap.size ≤ w.heap.size) (E : EX w0 w w1 l' (fun i => (L.getD i hs0).h) a ds hs) (i : Nat) (hi : Nat.blt i m = true) (hds : (ds.all fun j => !Nat.beq j i && Nat.blt j m) = true) {b e d : Nat} {cs : List Value}
  (hd : dsl l' i = d) (hb : w1.heap[b]? = some (.cells cs.toArray e (0, 0))) (ho : (L.getD i hs0).own (a.tmps.getD d undef) = [b]) : EX w0 w w1 l' (fun i => (L.getD i hs0).h) a (i :: ds) (hs ++ [bk b e cs]) :=
 EX.add J hw E i (by simpa [Nat.blt_eq] using hi) hds (bk b e cs) hb fun k hk => by
  have : k = b := hk
  subst this
  rw [hd]
  show k ∈ (L.getD i hs0).own _
  rw [ho]; simp
end
section
variable {P : Program} {Q : Exit → Act → World → Prop} {w w0 : World} {n : Nat} {l : List (Nat × Value)} {o : Oper} {rest : List Oper} {ops : Array Oper} {a : Act} {hs : List Res}
theorem y_bs {t len e : Nat} {parts : List (Nat × Operand)} {vs cs : List Value} (ho : o.op = .buildSlice t len parts.toArray) (hx : evls l (parts.map Prod.snd) = some vs)
  (hr : ∀ w, (Instr.buildSlice t len ((parts.map Prod.fst).zip vs).toArray).run P w = .ok (.slice (some ⟨w.heap.size, 0, none⟩) len len) (w.alloc (.cells cs.toArray e))) : Yl P o l w (.slice (some ⟨w.heap.size, 0, none⟩) len len) (w.alloc (.cells cs.toArray e)) := fun n a F => by
 have : (parts.toArray.map fun (x : Nat × Operand) => (x.1, a.eval x.2)) = ((parts.map Prod.fst).zip vs).toArray := by
  rw [← F.evs hx]
  simp [List.zip_map']
 simp only [execOp, ho]
 rw [show (parts.toArray.map fun x => match x with | (i, x) => (i, a.eval x)) = ((parts.map Prod.fst).zip vs).toArray from this]
 simp [hr]
theorem dbs (F : Fr n a l) (S : St w0 w hs) {t len e : Nat} {parts : List (Nat × Operand)} {vs cs : List Value} (ho : o.op = .buildSlice t len parts.toArray) (hx : evls l (parts.map Prod.snd) = some vs)
  (hr : ∀ w, (Instr.buildSlice t len ((parts.map Prod.fst).zip vs).toArray).run P w = .ok (.slice (some ⟨w.heap.size, 0, none⟩) len len) (w.alloc (.cells cs.toArray e))) (hg : o.guard = none) {d : Nat} (hd : o.dst = some d) (hn : Nat.blt d n = true)
  (k : ∀ a w' b, Fr n a ((d, .slice (some ⟨b, 0, none⟩) len len) :: l) → St w0 w' (hs ++ [bk b e cs]) → wpList P ops Q rest a w') : wpList P ops Q (o :: rest) a w :=
 dv F (y_bs ho hx hr) hg hd hn fun a F => k a _ _ F (S.row e cs)
theorem y_al {t : Nat} {z : Value} {cs : List Value} (ho : o.op = .alloc t) (hz : ∀ w, (zeroValue t).run P w = .ok z w) (hv : cellsOf z = cs) : Yl P o l w (.pointer (some ⟨w.heap.size, 0, none⟩)) (w.alloc (.cells cs.toArray t)) := fun n a F => by
 subst hv
 simp [execOp, ho, Instr.alloc, hz, newVar, newRow, newObj, Sem.run, ← cellsOf_eq]
theorem y_bx {t : Nat} {x : Operand} {v : Value} {cs : List Value} (ho : o.op = .box t x) (hx : evl l x = some v) (hv : cellsOf v = cs) : Yl P o l w (.pointer (some ⟨w.heap.size, 0, none⟩)) (w.alloc (.cells cs.toArray t)) := fun n a F => by
 subst hv
 simp [execOp, ho, F.ev hx, Instr.box, newVar, newRow, newObj, Sem.run, ← cellsOf_eq]
end
def mkP (b : Nat) : Value := .pointer (some ⟨b, 0, none⟩)
def mkS (n : Nat) (b : Nat) : Value := .slice (some ⟨b, 0, none⟩) n n
end Go.Eng
namespace Go.Proofs.YtgcmddaibnimjaaGreatDoor
open Go.RowKit Go.Eng
abbrev Dig := { l : List Int // l.length = 32 }
def dig0 : Dig := ⟨List.replicate 32 0, rfl⟩
instance : Inhabited Dig := ⟨dig0⟩
structure Rd where
 path : ByteArray
 is : Bool
 sum : Dig
 deriving DecidableEq, Inhabited
def encD (d : Dig) : List Value := d.1.map (Value.int .u8)
def encRd (r : Rd) : List Value := .string r.path :: .bool r.is :: encD r.sum
theorem len32 (d : Dig) : (encD d).length = 32 := by simp [encD, d.2]
theorem len37 (r : Rd) : (encRd r).length = 34 := by simp [encRd, len32]
theorem one32 (d : Dig) : ∀ u ∈ encD d, u.oneCell' = true := fun u hu => by
 simp [encD] at hu; obtain ⟨x, _, rfl⟩ := hu; rfl
theorem one37 (d : Rd) : ∀ u ∈ encRd d, u.oneCell' = true := fun u hu => by
 simp only [encRd, List.mem_cons] at hu
 rcases hu with rfl | rfl | hu
 ·rfl
 ·rfl
 ·exact one32 _ u hu
theorem info5s : (Tryz.prog.info? 5).isSome = true := by kernel_rfl
theorem info5 : ∃ i, Tryz.prog.info? 5 = some i := Option.isSome_iff_exists.1 info5s
theorem cellsOf5 : Tryz.prog.cellsOf 5 = 1 := by kernel_rfl
theorem eqD (x y : Dig) (d : Nat) (w : World) : (Op.equalIn (d + 2) 50 (.agg (encD x).toArray) (.agg (encD y).toArray)).run Tryz.prog w = .ok (decide (x = y)) w := by
 obtain ⟨i, hi⟩ := info5
 have := eqArr (P := Tryz.prog) Tryz.underlying50 hi cellsOf5 Tryz.isAgg5 Tryz.underlying5 x.1 y.1 x.2 y.2 d w
 rw [show encD x = x.1.map (Value.int .u8) from rfl, show encD y = y.1.map (Value.int .u8) from rfl, this]
 exact congrArg (fun b => Result.ok b w) (decide_eq_decide.2 ⟨Subtype.ext, fun h => congrArg _ h⟩)
theorem eqRd (x y : Rd) (d : Nat) (w : World) : (Op.equalIn (d + 3) 52 (.agg (encRd x).toArray) (.agg (encRd y).toArray)).run Tryz.prog w = .ok (decide (x = y)) w := by
 have hS : Tryz.prog.underlying 52 = some (.struct (Tryz.prog.fieldsOf 52)) := by kernel_rfl
 have hp : Tryz.prog.stoodInHeld 52 = false := by kernel_rfl
 rw [show d + 3 = (d + 2) + 1 from rfl, run_equalIn_agg w (d + 2) 52 _ _ hS hp]
 simp only [Program.fieldsOf, Tryz.underlying52, Op.eqFields]
 simp only [ne_eq, String.reduceEq, not_false_eq_true, if_true, Sem.run_bind]
 rw [run_part1 Tryz.isAgg9 (v := .string x.path) rfl, Result.andThen_ok, run_part1 Tryz.isAgg9 (v := .string y.path) rfl, Result.andThen_ok, run_equalIn_string w _ 9 _ _ Tryz.underlying9, Result.andThen_ok, toList_eq]
 have e : (x = y) ↔ (x.path = y.path ∧ x.is = y.is ∧ x.sum = y.sum) := by cases x; cases y; simp
 by_cases h1 : x.path = y.path
 ·simp only [h1, decide_true, Bool.not_true, Bool.false_eq_true, if_false, Sem.run_bind]
  rw [run_part1 Tryz.isAgg4 (v := .bool x.is) rfl, Result.andThen_ok, run_part1 Tryz.isAgg4 (v := .bool y.is) rfl, Result.andThen_ok, run_equalIn_bool w _ 4 _ _ Tryz.underlying4, Result.andThen_ok]
  by_cases h2 : x.is = y.is
  ·simp only [h2, beq_self_eq_true, Bool.not_true, Bool.false_eq_true, if_false, Sem.run_bind]
   rw [run_parta Tryz.isAgg50 Tryz.sizeOf50 (vs := encD x.sum) (by simp [encRd, List.take_of_length_le, len32]), Result.andThen_ok, run_parta Tryz.isAgg50 Tryz.sizeOf50 (vs := encD y.sum) (by simp [encRd, List.take_of_length_le, len32]), Result.andThen_ok, eqD x.sum y.sum d, Result.andThen_ok]
   by_cases h3 : x.sum = y.sum
   ·simp [e, h1, h2, h3]
   ·simp [e, h3]
  ·have : (x.is == y.is) = false := by simp [h2]
   simp [this, e, h2]
 ·simp [h1, e]
section
variable {Q : Exit → Act → World → Prop} {w : World} {n : Nat} {l : List (Nat × Value)} {o : Oper}
theorem y_ne37 {s : Nat} {x y : Operand} {p q : Rd} (ho : o.op = .binOp .neq 52 x y s) (hx : evl l x = some (.agg (encRd p).toArray)) (hy : evl l y = some (.agg (encRd q).toArray)) : Yl Tryz.prog o l w (.bool (!decide (p = q))) w := fun n a F => by
 simp only [execOp, ho, F.ev hx, F.ev hy, Sem.run_bind, Sem.run_pure]
 rw [run_eqGuard_agg w _ _ _ _ _ _ Tryz.eqGuardType52, Result.andThen_ok, run_neq_struct, eqRd p q 9997]
 rfl
end
theorem _root_.Go.Eng.St.callRow {w0 w w' : World} {hs : List Res} {b e : Nat} {cs : List Value} (S : St w0 w hs) (hb : Below w.heap.size w w') (h : w'.heap[b]? = some (.cells cs.toArray e (0, 0))) (hlo : w.heap.size ≤ b) : St w0 w' (hs ++ [bk b e cs]) :=
 S.callAdd hb _ h fun k hk => by
  have : k = b := hk
  subst this
  exact ⟨hlo, (Array.getElem?_eq_some_iff.1 h).1⟩
end Go.Proofs.YtgcmddaibnimjaaGreatDoor
namespace Go.Proofs.YtgcmddaibnimjaaGreatDoor
open Go.RowKit Go.Eng
def isSp (x : Nat) : Bool := decide ((x : Int) = 32) || decide ((x : Int) = 9)
def words (s : ByteArray) : List ByteArray := Lib.goFieldsP isSp s
def nlB : ByteArray := ⟨#[10]⟩
def trimS (s : ByteArray) : ByteArray := ⟨(Lib.trimSuffix s.data.toList nlB.data.toList).toArray⟩
def splitOn (sep s : ByteArray) : List ByteArray := Lib.splitB sep 0 (Lib.countB s sep) s
def lines (s : ByteArray) : List ByteArray := if s = ⟨#[]⟩ then [] else splitOn nlB (trimS s)
def sgn (c : Int) : Bool := (decide (97 ≤ c) && decide (c ≤ 122)) || (decide (65 ≤ c) && decide (c ≤ 90)) || (decide (48 ≤ c) && decide (c ≤ 57)) || (decide (c < 128) && decide (0 ≤ Lib.indexByte [95, 46, 45, 43] c.toNat.toUInt8))
def ppart (s : ByteArray) : Bool := !decide (s = ⟨#[]⟩) && decide ((s.size : Int) ≤ 64) && !decide (s = ⟨#[46]⟩) && !decide (s = ⟨#[46, 46]⟩) && !decide (0 ≤ Lib.idxFunc (fun x : Nat => !sgn x) true s)
def oneMu (p s : ByteArray) (i k : Nat) (st : Int) (at_ : Nat) : Nat := (p.size - (st + 1).toNat) * ((s.size + 1) * (p.size + 1)) + (s.size - at_) * (p.size + 1) + (p.size - i)
def oneGo (p s : ByteArray) : Nat → Nat → Nat → Int → Nat → Option Nat
 | 0, _, _, _, _ => none
 | f + 1, i, k, st, at_ =>
  if k < s.size then
   if i < p.size ∧ bt p i = 42 then oneGo p s f (i + 1) k i k
   else if i < p.size ∧ (bt p i = 63 ∨ bt p i = bt s k) then oneGo p s f (i + 1) (k + 1) st at_
   else if 0 ≤ st then oneGo p s f (st.toNat + 1) (at_ + 1) st (at_ + 1) else none
  else some i
def oneR (p s : ByteArray) : Option Nat := oneGo p s (oneMu p s 0 0 (-1) 0 + 1) 0 0 (-1) 0
def one (p s : ByteArray) : Bool := match oneR p s with
 | none => false
 | some i => decide (Lib.trimB (p.data.toList.drop i) 42 = [])
theorem oneMu_star (p s : ByteArray) (i k : Nat) (st : Int) (at_ : Nat) (h : i < p.size ∧ at_ ≤ k ∧ k ≤ s.size ∧ -1 ≤ st ∧ st < i) : oneMu p s (i + 1) k i k < oneMu p s i k st at_ := by
 have e : ((i : Int) + 1).toNat = i + 1 := by omega
 have h1 : p.size - (i + 1) ≤ p.size - (st + 1).toNat := by omega
 have h2 := Nat.mul_le_mul_right ((s.size + 1) * (p.size + 1)) h1
 have h3 : (s.size - k) * (p.size + 1) ≤ (s.size - at_) * (p.size + 1) := Nat.mul_le_mul_right _ (by omega)
 simp only [oneMu, e]; omega
theorem oneMu_next (p s : ByteArray) (i k k' : Nat) (st : Int) (at_ : Nat) (h : i < p.size) : oneMu p s (i + 1) k' st at_ < oneMu p s i k st at_ := by
 simp only [oneMu]; omega
theorem oneMu_back (p s : ByteArray) (i k : Nat) (st : Int) (at_ : Nat) (h : at_ < s.size ∧ i ≤ p.size) : oneMu p s (st.toNat + 1) (at_ + 1) st (at_ + 1) < oneMu p s i k st at_ := by
 have h3 : (s.size - at_) * (p.size + 1) = (s.size - (at_ + 1)) * (p.size + 1) + (p.size + 1) := by
  rw [show s.size - at_ = (s.size - (at_ + 1)) + 1 by omega, Nat.add_one_mul]
 simp only [oneMu]; omega
theorem trim_eq (p : ByteArray) (i : Nat) : (Value.bool (decide ((⟨(Lib.trimB (p.extract i p.size).data.toList 42).toArray⟩ : ByteArray) = ⟨#[]⟩))) = .bool (decide (Lib.trimB (p.data.toList.drop i) 42 = [])) := by
 have e : (p.extract i p.size).data.toList = p.data.toList.drop i := by
  simp [ByteArray.data_extract]
  rw [List.take_of_length_le]; simp
 rw [e]
 congr 1
 simp
structure Gl (w : World) : Prop where
 ml : ∃ m : Int, w.cell? ⟨0, 0, none⟩ = some (.int .i64 m)
 tb : Lib.TabIs Tryz.prog w "internal/strconv.uint64pow10" .u64 Lib.pow10Tab
theorem cell_lt {w : World} {a : Addr} {v : Value} (h : w.cell? a = some v) : a.block < w.heap.size := by
 unfold World.cell? at h
 split at h
 ·rename_i hb; exact (Array.getElem?_eq_some_iff.1 hb).1
 ·cases h
theorem Gl.below {w w' : World} {B : Nat} (G : Gl w) (hb : Below B w w') (hB : w.heap.size ≤ B) : Gl w' :=
 ⟨let ⟨m, hm⟩ := G.ml; ⟨m, (hb.cell (by have := cell_lt hm; omega)).trans hm⟩, Go.Joins.tab_stays (g := 1) (by kernel_rfl) G.tb hb hB⟩
theorem Gl.st {w w0 : World} {hs : List Res} (G : Gl w0) (S : St w0 w hs) : Gl w := G.below S.bel (Nat.le_refl _)
theorem _root_.Go.Eng.shelfB {P : Program} {f : FuncId} {args : Array Value} {w : World} {v : Value} (h : Calls P f args w fun e w' => e = .returned v ∧ Below w.heap.size w w') : Calls P f args w (Ret fun u w' => u = v ∧ Below w.heap.size w w') :=
 h.mono fun e w' he => by obtain ⟨rfl, hb⟩ := he; exact ⟨rfl, hb⟩
def NewS (w0 w' : World) (v : Value) (xs : List ByteArray) : Prop := ∃ A c, v = .slice A xs.length c ∧ OwOk w' 9 1 A c xs.length (xs.flatMap encS) ∧ ∀ k, v.ownBlock = some k → w0.heap.size ≤ k
theorem flatS (xs : List ByteArray) : xs.flatMap encS = xs.map Value.string := by
 induction xs with
 | nil => rfl
 | cons x xs ih => rw [List.flatMap_cons, ih]; rfl
theorem c_sign (c : Int) (h0 : 0 ≤ c) (w0 : World) : Calls Tryz.prog 219 [.int .i32 c].toArray w0 (Ret fun v w' => v = .bool (sgn c) ∧ Below w0.heap.size w0 w') := by
 have hw : c < 128 → IntKind.u8.wrap c = c := fun h => IntWalk.u8_in _ (by omega)
 refine ent Tryz.func219 Tryz.ntmps219 rfl rfl ?_
 intro a F
 have S := St.refl w0
 refine sq fun K1 hK1 => ?_
 refine rg ?_
 refine dv F (y_as rfl rfl) rfl rfl rfl fun a F => ?_
 refine dn ?_
 refine tn <| hK1 _ _ ?_
 refine sq fun K2 hK2 => ?_
 refine rg ?_
 refine dv F (y_mv rfl rfl) rfl rfl rfl fun a F => ?_
 refine dv F (y_ge rfl rfl rfl) rfl rfl rfl fun a F => ?_
 refine dv F (y_mv rfl rfl) rfl rfl rfl fun a F => ?_
 refine gsp F 5 rfl (fun h1 => ?_) (fun h1 => ?_)
 ·have g1 := h1
  try simp only [zi1, zi2, zi3, zi4, zi5, zi6, zi7, zi8] at g1
  refine gv F rfl rfl rfl h1 (y_mv rfl rfl) rfl rfl fun a F => ?_
  refine gv F rfl rfl rfl h1 (y_le rfl rfl rfl) rfl rfl fun a F => ?_
  refine dv F (y_pkt h1 rfl rfl rfl) rfl rfl rfl fun a F => ?_
  refine dv F (y_mv rfl rfl) rfl rfl rfl fun a F => ?_
  refine gsp F 9 rfl (fun h2 => ?_) (fun h2 => ?_)
  ·have g2 := h2
   try simp only [zi1, zi2, zi3, zi4, zi5, zi6, zi7, zi8] at g2
   refine gs F rfl rfl rfl h2 rfl rfl fun a F => ?_
   refine gs F rfl rfl rfl h2 rfl rfl fun a F => ?_
   refine gs F rfl rfl rfl h2 rfl rfl fun a F => ?_
   refine gu F rfl rfl rfl rfl rfl fun a F => ?_
   refine gu F rfl rfl rfl rfl rfl fun a F => ?_
   refine gs F rfl rfl rfl h2 rfl rfl fun a F => ?_
   refine dv F (y_pkt h2 rfl rfl rfl) rfl rfl rfl fun a F => ?_
   refine dv F (y_mv rfl rfl) rfl rfl rfl fun a F => ?_
   refine gs F rfl rfl rfl rfl rfl rfl fun a F => ?_
   refine gs F rfl rfl rfl rfl rfl rfl fun a F => ?_
   refine gs F rfl rfl rfl rfl rfl rfl fun a F => ?_
   refine gu F rfl rfl rfl rfl rfl fun a F => ?_
   refine gu F rfl rfl rfl rfl rfl fun a F => ?_
   refine gs F rfl rfl rfl rfl rfl rfl fun a F => ?_
   refine dv F (y_pkt rfl rfl rfl rfl) rfl rfl rfl fun a F => ?_
   refine dv F (y_mv rfl rfl) rfl rfl rfl fun a F => ?_
   refine gs F rfl rfl rfl rfl rfl rfl fun a F => ?_
   refine gs F rfl rfl rfl rfl rfl rfl fun a F => ?_
   refine gs F rfl rfl rfl rfl rfl rfl fun a F => ?_
   refine gu F rfl rfl rfl rfl rfl fun a F => ?_
   refine gu F rfl rfl rfl rfl rfl fun a F => ?_
   refine gu F rfl rfl rfl rfl rfl fun a F => ?_
   refine gu F rfl rfl rfl rfl rfl fun a F => ?_
   refine gs F rfl rfl rfl rfl rfl rfl fun a F => ?_
   refine dv F (y_pkt rfl rfl rfl rfl) rfl rfl rfl fun a F => ?_
   refine dv F (y_as rfl rfl) rfl rfl rfl fun a F => ?_
   refine dn ?_
   refine tn <| hK2 _ _ ?_
   refine wp_ret ?_
   refine ?_
   exact rt1 F rfl rfl ⟨by simp [sgn, hw, g1, g2], S.bel⟩
  ·have g2 := h2
   try simp only [zi1, zi2, zi3, zi4, zi5, zi6, zi7, zi8] at g2
   refine gv F rfl rfl rfl h2 (y_mv rfl rfl) rfl rfl fun a F => ?_
   refine gv F rfl rfl rfl h2 (y_ge rfl rfl rfl) rfl rfl fun a F => ?_
   refine gv F rfl rfl rfl h2 (y_mv rfl rfl) rfl rfl fun a F => ?_
   refine gsp F 12 rfl (fun h3 => ?_) (fun h3 => ?_)
   ·have g3 := h3
    try simp only [zi1, zi2, zi3, zi4, zi5, zi6, zi7, zi8] at g3
    refine gv F rfl rfl rfl h3 (y_mv rfl rfl) rfl rfl fun a F => ?_
    refine gv F rfl rfl rfl h3 (y_le rfl rfl rfl) rfl rfl fun a F => ?_
    refine gv F rfl rfl rfl h2 (y_pkt h3 rfl rfl rfl) rfl rfl fun a F => ?_
    refine dv F (y_pkf h2 rfl rfl rfl) rfl rfl rfl fun a F => ?_
    refine dv F (y_mv rfl rfl) rfl rfl rfl fun a F => ?_
    refine gsp F 17 rfl (fun h4 => ?_) (fun h4 => ?_)
    ·have g4 := h4
     try simp only [zi1, zi2, zi3, zi4, zi5, zi6, zi7, zi8] at g4
     refine gs F rfl rfl rfl h4 rfl rfl fun a F => ?_
     refine gs F rfl rfl rfl h4 rfl rfl fun a F => ?_
     refine gs F rfl rfl rfl h4 rfl rfl fun a F => ?_
     refine gu F rfl rfl rfl rfl rfl fun a F => ?_
     refine gu F rfl rfl rfl rfl rfl fun a F => ?_
     refine gs F rfl rfl rfl h4 rfl rfl fun a F => ?_
     refine dv F (y_pkt h4 rfl rfl rfl) rfl rfl rfl fun a F => ?_
     refine dv F (y_mv rfl rfl) rfl rfl rfl fun a F => ?_
     refine gs F rfl rfl rfl rfl rfl rfl fun a F => ?_
     refine gs F rfl rfl rfl rfl rfl rfl fun a F => ?_
     refine gs F rfl rfl rfl rfl rfl rfl fun a F => ?_
     refine gu F rfl rfl rfl rfl rfl fun a F => ?_
     refine gu F rfl rfl rfl rfl rfl fun a F => ?_
     refine gu F rfl rfl rfl rfl rfl fun a F => ?_
     refine gu F rfl rfl rfl rfl rfl fun a F => ?_
     refine gs F rfl rfl rfl rfl rfl rfl fun a F => ?_
     refine dv F (y_pkt rfl rfl rfl rfl) rfl rfl rfl fun a F => ?_
     refine dv F (y_as rfl rfl) rfl rfl rfl fun a F => ?_
     refine dn ?_
     refine tn <| hK2 _ _ ?_
     refine wp_ret ?_
     refine ?_
     exact rt1 F rfl rfl ⟨by simp [sgn, hw, g1, g2, g3, g4], S.bel⟩
    ·have g4 := h4
     try simp only [zi1, zi2, zi3, zi4, zi5, zi6, zi7, zi8] at g4
     refine gv F rfl rfl rfl h4 (y_mv rfl rfl) rfl rfl fun a F => ?_
     refine gv F rfl rfl rfl h4 (y_ge rfl rfl rfl) rfl rfl fun a F => ?_
     refine gv F rfl rfl rfl h4 (y_mv rfl rfl) rfl rfl fun a F => ?_
     refine gsp F 20 rfl (fun h5 => ?_) (fun h5 => ?_)
     ·have g5 := h5
      try simp only [zi1, zi2, zi3, zi4, zi5, zi6, zi7, zi8] at g5
      refine gv F rfl rfl rfl h5 (y_mv rfl rfl) rfl rfl fun a F => ?_
      refine gv F rfl rfl rfl h5 (y_le rfl rfl rfl) rfl rfl fun a F => ?_
      refine gv F rfl rfl rfl h4 (y_pkt h5 rfl rfl rfl) rfl rfl fun a F => ?_
      refine dv F (y_pkf h4 rfl rfl rfl) rfl rfl rfl fun a F => ?_
      refine dv F (y_mv rfl rfl) rfl rfl rfl fun a F => ?_
      refine gsp F 25 rfl (fun h6 => ?_) (fun h6 => ?_)
      ·have g6 := h6
       try simp only [zi1, zi2, zi3, zi4, zi5, zi6, zi7, zi8] at g6
       refine gs F rfl rfl rfl h6 rfl rfl fun a F => ?_
       refine gs F rfl rfl rfl h6 rfl rfl fun a F => ?_
       refine gs F rfl rfl rfl h6 rfl rfl fun a F => ?_
       refine gu F rfl rfl rfl rfl rfl fun a F => ?_
       refine gu F rfl rfl rfl rfl rfl fun a F => ?_
       refine gu F rfl rfl rfl rfl rfl fun a F => ?_
       refine gu F rfl rfl rfl rfl rfl fun a F => ?_
       refine gs F rfl rfl rfl h6 rfl rfl fun a F => ?_
       refine dv F (y_pkt h6 rfl rfl rfl) rfl rfl rfl fun a F => ?_
       refine dv F (y_as rfl rfl) rfl rfl rfl fun a F => ?_
       refine dn ?_
       refine tn <| hK2 _ _ ?_
       refine wp_ret ?_
       refine ?_
       exact rt1 F rfl rfl ⟨by simp [sgn, hw, g1, g2, g3, g4, g5, g6], S.bel⟩
      ·have g6 := h6
       try simp only [zi1, zi2, zi3, zi4, zi5, zi6, zi7, zi8] at g6
       refine gv F rfl rfl rfl h6 (y_mv rfl rfl) rfl rfl fun a F => ?_
       refine gv F rfl rfl rfl h6 (y_lt rfl rfl rfl) rfl rfl fun a F => ?_
       refine gv F rfl rfl rfl h6 (y_mv rfl rfl) rfl rfl fun a F => ?_
       refine gsp F 28 rfl (fun h7 => ?_) (fun h7 => ?_)
       ·have g7 := h7
        try simp only [zi1, zi2, zi3, zi4, zi5, zi6, zi7, zi8] at g7
        refine gv F rfl rfl rfl h7 (y_mv rfl rfl) rfl rfl fun a F => ?_
        refine gv F rfl rfl rfl h7 (y_cvt rfl rfl ⟨_, Tryz.underlying21⟩ Tryz.underlying5) rfl rfl fun a F => ?_
        refine gc F rfl rfl rfl h7 (c_f rfl rfl rfl Tryz.call250) rfl rfl (shelf (Tryz.strings_IndexByte _ _ _)) fun a v w' hr F => ?_
        obtain ⟨rfl, hb⟩ := hr
        replace S := S.call hb
        refine gv F rfl rfl rfl h7 (y_ge rfl rfl rfl) rfl rfl fun a F => ?_
        refine gv F rfl rfl rfl h6 (y_pkt h7 rfl rfl rfl) rfl rfl fun a F => ?_
        refine dv F (y_pkf h6 rfl rfl rfl) rfl rfl rfl fun a F => ?_
        refine dv F (y_as rfl rfl) rfl rfl rfl fun a F => ?_
        refine dn ?_
        refine tn <| hK2 _ _ ?_
        refine wp_ret ?_
        refine ?_
        exact rt1 F rfl rfl ⟨by simp [sgn, hw, g1, g2, g3, g4, g5, g6, g7], S.bel⟩
       ·have g7 := h7
        try simp only [zi1, zi2, zi3, zi4, zi5, zi6, zi7, zi8] at g7
        refine gs F rfl rfl rfl h7 rfl rfl fun a F => ?_
        refine gs F rfl rfl rfl h7 rfl rfl fun a F => ?_
        refine gs F rfl rfl rfl h7 rfl rfl fun a F => ?_
        refine gs F rfl rfl rfl h7 rfl rfl fun a F => ?_
        refine gv F rfl rfl rfl h6 (y_pkf h7 rfl rfl rfl) rfl rfl fun a F => ?_
        refine dv F (y_pkf h6 rfl rfl rfl) rfl rfl rfl fun a F => ?_
        refine dv F (y_as rfl rfl) rfl rfl rfl fun a F => ?_
        refine dn ?_
        refine tn <| hK2 _ _ ?_
        refine wp_ret ?_
        refine ?_
        exact rt1 F rfl rfl ⟨by simp [sgn, hw, g1, g2, g3, g4, g5, g6, g7], S.bel⟩
     ·have g5 := h5
      try simp only [zi1, zi2, zi3, zi4, zi5, zi6, zi7, zi8] at g5
      refine gs F rfl rfl rfl h5 rfl rfl fun a F => ?_
      refine gs F rfl rfl rfl h5 rfl rfl fun a F => ?_
      refine gv F rfl rfl rfl h4 (y_pkf h5 rfl rfl rfl) rfl rfl fun a F => ?_
      refine dv F (y_pkf h4 rfl rfl rfl) rfl rfl rfl fun a F => ?_
      refine dv F (y_mv rfl rfl) rfl rfl rfl fun a F => ?_
      refine gv F rfl rfl rfl rfl (y_mv rfl rfl) rfl rfl fun a F => ?_
      refine gv F rfl rfl rfl rfl (y_lt rfl rfl rfl) rfl rfl fun a F => ?_
      refine gv F rfl rfl rfl rfl (y_mv rfl rfl) rfl rfl fun a F => ?_
      refine gsp F 28 rfl (fun h8 => ?_) (fun h8 => ?_)
      ·have g8 := h8
       try simp only [zi1, zi2, zi3, zi4, zi5, zi6, zi7, zi8] at g8
       refine gv F rfl rfl rfl h8 (y_mv rfl rfl) rfl rfl fun a F => ?_
       refine gv F rfl rfl rfl h8 (y_cvt rfl rfl ⟨_, Tryz.underlying21⟩ Tryz.underlying5) rfl rfl fun a F => ?_
       refine gc F rfl rfl rfl h8 (c_f rfl rfl rfl Tryz.call250) rfl rfl (shelf (Tryz.strings_IndexByte _ _ _)) fun a v w' hr F => ?_
       obtain ⟨rfl, hb⟩ := hr
       replace S := S.call hb
       refine gv F rfl rfl rfl h8 (y_ge rfl rfl rfl) rfl rfl fun a F => ?_
       refine gv F rfl rfl rfl rfl (y_pkt h8 rfl rfl rfl) rfl rfl fun a F => ?_
       refine dv F (y_pkf rfl rfl rfl rfl) rfl rfl rfl fun a F => ?_
       refine dv F (y_as rfl rfl) rfl rfl rfl fun a F => ?_
       refine dn ?_
       refine tn <| hK2 _ _ ?_
       refine wp_ret ?_
       refine ?_
       exact rt1 F rfl rfl ⟨by simp [sgn, hw, g1, g2, g3, g4, g5, g8], S.bel⟩
      ·have g8 := h8
       try simp only [zi1, zi2, zi3, zi4, zi5, zi6, zi7, zi8] at g8
       refine gs F rfl rfl rfl h8 rfl rfl fun a F => ?_
       refine gs F rfl rfl rfl h8 rfl rfl fun a F => ?_
       refine gs F rfl rfl rfl h8 rfl rfl fun a F => ?_
       refine gs F rfl rfl rfl h8 rfl rfl fun a F => ?_
       refine gv F rfl rfl rfl rfl (y_pkf h8 rfl rfl rfl) rfl rfl fun a F => ?_
       refine dv F (y_pkf rfl rfl rfl rfl) rfl rfl rfl fun a F => ?_
       refine dv F (y_as rfl rfl) rfl rfl rfl fun a F => ?_
       refine dn ?_
       refine tn <| hK2 _ _ ?_
       refine wp_ret ?_
       refine ?_
       exact rt1 F rfl rfl ⟨by simp [sgn, hw, g1, g2, g3, g4, g5, g8], S.bel⟩
   ·have g3 := h3
    try simp only [zi1, zi2, zi3, zi4, zi5, zi6, zi7, zi8] at g3
    refine gs F rfl rfl rfl h3 rfl rfl fun a F => ?_
    refine gs F rfl rfl rfl h3 rfl rfl fun a F => ?_
    refine gv F rfl rfl rfl h2 (y_pkf h3 rfl rfl rfl) rfl rfl fun a F => ?_
    refine dv F (y_pkf h2 rfl rfl rfl) rfl rfl rfl fun a F => ?_
    refine dv F (y_mv rfl rfl) rfl rfl rfl fun a F => ?_
    refine gv F rfl rfl rfl rfl (y_mv rfl rfl) rfl rfl fun a F => ?_
    refine gv F rfl rfl rfl rfl (y_ge rfl rfl rfl) rfl rfl fun a F => ?_
    refine gv F rfl rfl rfl rfl (y_mv rfl rfl) rfl rfl fun a F => ?_
    refine gsp F 20 rfl (fun h9 => ?_) (fun h9 => ?_)
    ·have g9 := h9
     try simp only [zi1, zi2, zi3, zi4, zi5, zi6, zi7, zi8] at g9
     refine gv F rfl rfl rfl h9 (y_mv rfl rfl) rfl rfl fun a F => ?_
     refine gv F rfl rfl rfl h9 (y_le rfl rfl rfl) rfl rfl fun a F => ?_
     refine gv F rfl rfl rfl rfl (y_pkt h9 rfl rfl rfl) rfl rfl fun a F => ?_
     refine dv F (y_pkf rfl rfl rfl rfl) rfl rfl rfl fun a F => ?_
     refine dv F (y_mv rfl rfl) rfl rfl rfl fun a F => ?_
     refine gsp F 25 rfl (fun h10 => ?_) (fun h10 => ?_)
     ·have g10 := h10
      try simp only [zi1, zi2, zi3, zi4, zi5, zi6, zi7, zi8] at g10
      refine gs F rfl rfl rfl h10 rfl rfl fun a F => ?_
      refine gs F rfl rfl rfl h10 rfl rfl fun a F => ?_
      refine gs F rfl rfl rfl h10 rfl rfl fun a F => ?_
      refine gu F rfl rfl rfl rfl rfl fun a F => ?_
      refine gu F rfl rfl rfl rfl rfl fun a F => ?_
      refine gu F rfl rfl rfl rfl rfl fun a F => ?_
      refine gu F rfl rfl rfl rfl rfl fun a F => ?_
      refine gs F rfl rfl rfl h10 rfl rfl fun a F => ?_
      refine dv F (y_pkt h10 rfl rfl rfl) rfl rfl rfl fun a F => ?_
      refine dv F (y_as rfl rfl) rfl rfl rfl fun a F => ?_
      refine dn ?_
      refine tn <| hK2 _ _ ?_
      refine wp_ret ?_
      refine ?_
      exact rt1 F rfl rfl ⟨by simp [sgn, hw, g1, g2, g3, g9, g10], S.bel⟩
     ·have g10 := h10
      try simp only [zi1, zi2, zi3, zi4, zi5, zi6, zi7, zi8] at g10
      refine gv F rfl rfl rfl h10 (y_mv rfl rfl) rfl rfl fun a F => ?_
      refine gv F rfl rfl rfl h10 (y_lt rfl rfl rfl) rfl rfl fun a F => ?_
      refine gv F rfl rfl rfl h10 (y_mv rfl rfl) rfl rfl fun a F => ?_
      refine gsp F 28 rfl (fun h11 => ?_) (fun h11 => ?_)
      ·have g11 := h11
       try simp only [zi1, zi2, zi3, zi4, zi5, zi6, zi7, zi8] at g11
       refine gv F rfl rfl rfl h11 (y_mv rfl rfl) rfl rfl fun a F => ?_
       refine gv F rfl rfl rfl h11 (y_cvt rfl rfl ⟨_, Tryz.underlying21⟩ Tryz.underlying5) rfl rfl fun a F => ?_
       refine gc F rfl rfl rfl h11 (c_f rfl rfl rfl Tryz.call250) rfl rfl (shelf (Tryz.strings_IndexByte _ _ _)) fun a v w' hr F => ?_
       obtain ⟨rfl, hb⟩ := hr
       replace S := S.call hb
       refine gv F rfl rfl rfl h11 (y_ge rfl rfl rfl) rfl rfl fun a F => ?_
       refine gv F rfl rfl rfl h10 (y_pkt h11 rfl rfl rfl) rfl rfl fun a F => ?_
       refine dv F (y_pkf h10 rfl rfl rfl) rfl rfl rfl fun a F => ?_
       refine dv F (y_as rfl rfl) rfl rfl rfl fun a F => ?_
       refine dn ?_
       refine tn <| hK2 _ _ ?_
       refine wp_ret ?_
       refine ?_
       exact rt1 F rfl rfl ⟨by simp [sgn, hw, g1, g2, g3, g9, g10, g11], S.bel⟩
      ·have g11 := h11
       try simp only [zi1, zi2, zi3, zi4, zi5, zi6, zi7, zi8] at g11
       refine gs F rfl rfl rfl h11 rfl rfl fun a F => ?_
       refine gs F rfl rfl rfl h11 rfl rfl fun a F => ?_
       refine gs F rfl rfl rfl h11 rfl rfl fun a F => ?_
       refine gs F rfl rfl rfl h11 rfl rfl fun a F => ?_
       refine gv F rfl rfl rfl h10 (y_pkf h11 rfl rfl rfl) rfl rfl fun a F => ?_
       refine dv F (y_pkf h10 rfl rfl rfl) rfl rfl rfl fun a F => ?_
       refine dv F (y_as rfl rfl) rfl rfl rfl fun a F => ?_
       refine dn ?_
       refine tn <| hK2 _ _ ?_
       refine wp_ret ?_
       refine ?_
       exact rt1 F rfl rfl ⟨by simp [sgn, hw, g1, g2, g3, g9, g10, g11], S.bel⟩
    ·have g9 := h9
     try simp only [zi1, zi2, zi3, zi4, zi5, zi6, zi7, zi8] at g9
     refine gs F rfl rfl rfl h9 rfl rfl fun a F => ?_
     refine gs F rfl rfl rfl h9 rfl rfl fun a F => ?_
     refine gv F rfl rfl rfl rfl (y_pkf h9 rfl rfl rfl) rfl rfl fun a F => ?_
     refine dv F (y_pkf rfl rfl rfl rfl) rfl rfl rfl fun a F => ?_
     refine dv F (y_mv rfl rfl) rfl rfl rfl fun a F => ?_
     refine gv F rfl rfl rfl rfl (y_mv rfl rfl) rfl rfl fun a F => ?_
     refine gv F rfl rfl rfl rfl (y_lt rfl rfl rfl) rfl rfl fun a F => ?_
     refine gv F rfl rfl rfl rfl (y_mv rfl rfl) rfl rfl fun a F => ?_
     refine gsp F 28 rfl (fun h12 => ?_) (fun h12 => ?_)
     ·have g12 := h12
      try simp only [zi1, zi2, zi3, zi4, zi5, zi6, zi7, zi8] at g12
      refine gv F rfl rfl rfl h12 (y_mv rfl rfl) rfl rfl fun a F => ?_
      refine gv F rfl rfl rfl h12 (y_cvt rfl rfl ⟨_, Tryz.underlying21⟩ Tryz.underlying5) rfl rfl fun a F => ?_
      refine gc F rfl rfl rfl h12 (c_f rfl rfl rfl Tryz.call250) rfl rfl (shelf (Tryz.strings_IndexByte _ _ _)) fun a v w' hr F => ?_
      obtain ⟨rfl, hb⟩ := hr
      replace S := S.call hb
      refine gv F rfl rfl rfl h12 (y_ge rfl rfl rfl) rfl rfl fun a F => ?_
      refine gv F rfl rfl rfl rfl (y_pkt h12 rfl rfl rfl) rfl rfl fun a F => ?_
      refine dv F (y_pkf rfl rfl rfl rfl) rfl rfl rfl fun a F => ?_
      refine dv F (y_as rfl rfl) rfl rfl rfl fun a F => ?_
      refine dn ?_
      refine tn <| hK2 _ _ ?_
      refine wp_ret ?_
      refine ?_
      exact rt1 F rfl rfl ⟨by simp [sgn, hw, g1, g2, g3, g9, g12], S.bel⟩
     ·have g12 := h12
      try simp only [zi1, zi2, zi3, zi4, zi5, zi6, zi7, zi8] at g12
      refine gs F rfl rfl rfl h12 rfl rfl fun a F => ?_
      refine gs F rfl rfl rfl h12 rfl rfl fun a F => ?_
      refine gs F rfl rfl rfl h12 rfl rfl fun a F => ?_
      refine gs F rfl rfl rfl h12 rfl rfl fun a F => ?_
      refine gv F rfl rfl rfl rfl (y_pkf h12 rfl rfl rfl) rfl rfl fun a F => ?_
      refine dv F (y_pkf rfl rfl rfl rfl) rfl rfl rfl fun a F => ?_
      refine dv F (y_as rfl rfl) rfl rfl rfl fun a F => ?_
      refine dn ?_
      refine tn <| hK2 _ _ ?_
      refine wp_ret ?_
      refine ?_
      exact rt1 F rfl rfl ⟨by simp [sgn, hw, g1, g2, g3, g9, g12], S.bel⟩
 ·have g1 := h1
  try simp only [zi1, zi2, zi3, zi4, zi5, zi6, zi7, zi8] at g1
  refine gs F rfl rfl rfl h1 rfl rfl fun a F => ?_
  refine gs F rfl rfl rfl h1 rfl rfl fun a F => ?_
  refine dv F (y_pkf h1 rfl rfl rfl) rfl rfl rfl fun a F => ?_
  refine dv F (y_mv rfl rfl) rfl rfl rfl fun a F => ?_
  refine gv F rfl rfl rfl rfl (y_mv rfl rfl) rfl rfl fun a F => ?_
  refine gv F rfl rfl rfl rfl (y_ge rfl rfl rfl) rfl rfl fun a F => ?_
  refine gv F rfl rfl rfl rfl (y_mv rfl rfl) rfl rfl fun a F => ?_
  refine gsp F 12 rfl (fun h13 => ?_) (fun h13 => ?_)
  ·have g13 := h13
   try simp only [zi1, zi2, zi3, zi4, zi5, zi6, zi7, zi8] at g13
   refine gv F rfl rfl rfl h13 (y_mv rfl rfl) rfl rfl fun a F => ?_
   refine gv F rfl rfl rfl h13 (y_le rfl rfl rfl) rfl rfl fun a F => ?_
   refine gv F rfl rfl rfl rfl (y_pkt h13 rfl rfl rfl) rfl rfl fun a F => ?_
   refine dv F (y_pkf rfl rfl rfl rfl) rfl rfl rfl fun a F => ?_
   refine dv F (y_mv rfl rfl) rfl rfl rfl fun a F => ?_
   refine gsp F 17 rfl (fun h14 => ?_) (fun h14 => ?_)
   ·have g14 := h14
    try simp only [zi1, zi2, zi3, zi4, zi5, zi6, zi7, zi8] at g14
    refine gs F rfl rfl rfl h14 rfl rfl fun a F => ?_
    refine gs F rfl rfl rfl h14 rfl rfl fun a F => ?_
    refine gs F rfl rfl rfl h14 rfl rfl fun a F => ?_
    refine gu F rfl rfl rfl rfl rfl fun a F => ?_
    refine gu F rfl rfl rfl rfl rfl fun a F => ?_
    refine gs F rfl rfl rfl h14 rfl rfl fun a F => ?_
    refine dv F (y_pkt h14 rfl rfl rfl) rfl rfl rfl fun a F => ?_
    refine dv F (y_mv rfl rfl) rfl rfl rfl fun a F => ?_
    refine gs F rfl rfl rfl rfl rfl rfl fun a F => ?_
    refine gs F rfl rfl rfl rfl rfl rfl fun a F => ?_
    refine gs F rfl rfl rfl rfl rfl rfl fun a F => ?_
    refine gu F rfl rfl rfl rfl rfl fun a F => ?_
    refine gu F rfl rfl rfl rfl rfl fun a F => ?_
    refine gu F rfl rfl rfl rfl rfl fun a F => ?_
    refine gu F rfl rfl rfl rfl rfl fun a F => ?_
    refine gs F rfl rfl rfl rfl rfl rfl fun a F => ?_
    refine dv F (y_pkt rfl rfl rfl rfl) rfl rfl rfl fun a F => ?_
    refine dv F (y_as rfl rfl) rfl rfl rfl fun a F => ?_
    refine dn ?_
    refine tn <| hK2 _ _ ?_
    refine wp_ret ?_
    refine ?_
    exact rt1 F rfl rfl ⟨by simp [sgn, hw, g1, g13, g14], S.bel⟩
   ·have g14 := h14
    try simp only [zi1, zi2, zi3, zi4, zi5, zi6, zi7, zi8] at g14
    refine gv F rfl rfl rfl h14 (y_mv rfl rfl) rfl rfl fun a F => ?_
    refine gv F rfl rfl rfl h14 (y_ge rfl rfl rfl) rfl rfl fun a F => ?_
    refine gv F rfl rfl rfl h14 (y_mv rfl rfl) rfl rfl fun a F => ?_
    refine gsp F 20 rfl (fun h15 => ?_) (fun h15 => ?_)
    ·have g15 := h15
     try simp only [zi1, zi2, zi3, zi4, zi5, zi6, zi7, zi8] at g15
     refine gv F rfl rfl rfl h15 (y_mv rfl rfl) rfl rfl fun a F => ?_
     refine gv F rfl rfl rfl h15 (y_le rfl rfl rfl) rfl rfl fun a F => ?_
     refine gv F rfl rfl rfl h14 (y_pkt h15 rfl rfl rfl) rfl rfl fun a F => ?_
     refine dv F (y_pkf h14 rfl rfl rfl) rfl rfl rfl fun a F => ?_
     refine dv F (y_mv rfl rfl) rfl rfl rfl fun a F => ?_
     refine gsp F 25 rfl (fun h16 => ?_) (fun h16 => ?_)
     ·have g16 := h16
      try simp only [zi1, zi2, zi3, zi4, zi5, zi6, zi7, zi8] at g16
      refine gs F rfl rfl rfl h16 rfl rfl fun a F => ?_
      refine gs F rfl rfl rfl h16 rfl rfl fun a F => ?_
      refine gs F rfl rfl rfl h16 rfl rfl fun a F => ?_
      refine gu F rfl rfl rfl rfl rfl fun a F => ?_
      refine gu F rfl rfl rfl rfl rfl fun a F => ?_
      refine gu F rfl rfl rfl rfl rfl fun a F => ?_
      refine gu F rfl rfl rfl rfl rfl fun a F => ?_
      refine gs F rfl rfl rfl h16 rfl rfl fun a F => ?_
      refine dv F (y_pkt h16 rfl rfl rfl) rfl rfl rfl fun a F => ?_
      refine dv F (y_as rfl rfl) rfl rfl rfl fun a F => ?_
      refine dn ?_
      refine tn <| hK2 _ _ ?_
      refine wp_ret ?_
      refine ?_
      exact rt1 F rfl rfl ⟨by simp [sgn, hw, g1, g13, g14, g15, g16], S.bel⟩
     ·have g16 := h16
      try simp only [zi1, zi2, zi3, zi4, zi5, zi6, zi7, zi8] at g16
      refine gv F rfl rfl rfl h16 (y_mv rfl rfl) rfl rfl fun a F => ?_
      refine gv F rfl rfl rfl h16 (y_lt rfl rfl rfl) rfl rfl fun a F => ?_
      refine gv F rfl rfl rfl h16 (y_mv rfl rfl) rfl rfl fun a F => ?_
      refine gsp F 28 rfl (fun h17 => ?_) (fun h17 => ?_)
      ·have g17 := h17
       try simp only [zi1, zi2, zi3, zi4, zi5, zi6, zi7, zi8] at g17
       refine gv F rfl rfl rfl h17 (y_mv rfl rfl) rfl rfl fun a F => ?_
       refine gv F rfl rfl rfl h17 (y_cvt rfl rfl ⟨_, Tryz.underlying21⟩ Tryz.underlying5) rfl rfl fun a F => ?_
       refine gc F rfl rfl rfl h17 (c_f rfl rfl rfl Tryz.call250) rfl rfl (shelf (Tryz.strings_IndexByte _ _ _)) fun a v w' hr F => ?_
       obtain ⟨rfl, hb⟩ := hr
       replace S := S.call hb
       refine gv F rfl rfl rfl h17 (y_ge rfl rfl rfl) rfl rfl fun a F => ?_
       refine gv F rfl rfl rfl h16 (y_pkt h17 rfl rfl rfl) rfl rfl fun a F => ?_
       refine dv F (y_pkf h16 rfl rfl rfl) rfl rfl rfl fun a F => ?_
       refine dv F (y_as rfl rfl) rfl rfl rfl fun a F => ?_
       refine dn ?_
       refine tn <| hK2 _ _ ?_
       refine wp_ret ?_
       refine ?_
       exact rt1 F rfl rfl ⟨by simp [sgn, hw, g1, g13, g14, g15, g16, g17], S.bel⟩
      ·have g17 := h17
       try simp only [zi1, zi2, zi3, zi4, zi5, zi6, zi7, zi8] at g17
       refine gs F rfl rfl rfl h17 rfl rfl fun a F => ?_
       refine gs F rfl rfl rfl h17 rfl rfl fun a F => ?_
       refine gs F rfl rfl rfl h17 rfl rfl fun a F => ?_
       refine gs F rfl rfl rfl h17 rfl rfl fun a F => ?_
       refine gv F rfl rfl rfl h16 (y_pkf h17 rfl rfl rfl) rfl rfl fun a F => ?_
       refine dv F (y_pkf h16 rfl rfl rfl) rfl rfl rfl fun a F => ?_
       refine dv F (y_as rfl rfl) rfl rfl rfl fun a F => ?_
       refine dn ?_
       refine tn <| hK2 _ _ ?_
       refine wp_ret ?_
       refine ?_
       exact rt1 F rfl rfl ⟨by simp [sgn, hw, g1, g13, g14, g15, g16, g17], S.bel⟩
    ·have g15 := h15
     try simp only [zi1, zi2, zi3, zi4, zi5, zi6, zi7, zi8] at g15
     refine gs F rfl rfl rfl h15 rfl rfl fun a F => ?_
     refine gs F rfl rfl rfl h15 rfl rfl fun a F => ?_
     refine gv F rfl rfl rfl h14 (y_pkf h15 rfl rfl rfl) rfl rfl fun a F => ?_
     refine dv F (y_pkf h14 rfl rfl rfl) rfl rfl rfl fun a F => ?_
     refine dv F (y_mv rfl rfl) rfl rfl rfl fun a F => ?_
     refine gv F rfl rfl rfl rfl (y_mv rfl rfl) rfl rfl fun a F => ?_
     refine gv F rfl rfl rfl rfl (y_lt rfl rfl rfl) rfl rfl fun a F => ?_
     refine gv F rfl rfl rfl rfl (y_mv rfl rfl) rfl rfl fun a F => ?_
     refine gsp F 28 rfl (fun h18 => ?_) (fun h18 => ?_)
     ·have g18 := h18
      try simp only [zi1, zi2, zi3, zi4, zi5, zi6, zi7, zi8] at g18
      refine gv F rfl rfl rfl h18 (y_mv rfl rfl) rfl rfl fun a F => ?_
      refine gv F rfl rfl rfl h18 (y_cvt rfl rfl ⟨_, Tryz.underlying21⟩ Tryz.underlying5) rfl rfl fun a F => ?_
      refine gc F rfl rfl rfl h18 (c_f rfl rfl rfl Tryz.call250) rfl rfl (shelf (Tryz.strings_IndexByte _ _ _)) fun a v w' hr F => ?_
      obtain ⟨rfl, hb⟩ := hr
      replace S := S.call hb
      refine gv F rfl rfl rfl h18 (y_ge rfl rfl rfl) rfl rfl fun a F => ?_
      refine gv F rfl rfl rfl rfl (y_pkt h18 rfl rfl rfl) rfl rfl fun a F => ?_
      refine dv F (y_pkf rfl rfl rfl rfl) rfl rfl rfl fun a F => ?_
      refine dv F (y_as rfl rfl) rfl rfl rfl fun a F => ?_
      refine dn ?_
      refine tn <| hK2 _ _ ?_
      refine wp_ret ?_
      refine ?_
      exact rt1 F rfl rfl ⟨by simp [sgn, hw, g1, g13, g14, g15, g18], S.bel⟩
     ·have g18 := h18
      try simp only [zi1, zi2, zi3, zi4, zi5, zi6, zi7, zi8] at g18
      refine gs F rfl rfl rfl h18 rfl rfl fun a F => ?_
      refine gs F rfl rfl rfl h18 rfl rfl fun a F => ?_
      refine gs F rfl rfl rfl h18 rfl rfl fun a F => ?_
      refine gs F rfl rfl rfl h18 rfl rfl fun a F => ?_
      refine gv F rfl rfl rfl rfl (y_pkf h18 rfl rfl rfl) rfl rfl fun a F => ?_
      refine dv F (y_pkf rfl rfl rfl rfl) rfl rfl rfl fun a F => ?_
      refine dv F (y_as rfl rfl) rfl rfl rfl fun a F => ?_
      refine dn ?_
      refine tn <| hK2 _ _ ?_
      refine wp_ret ?_
      refine ?_
      exact rt1 F rfl rfl ⟨by simp [sgn, hw, g1, g13, g14, g15, g18], S.bel⟩
  ·have g13 := h13
   try simp only [zi1, zi2, zi3, zi4, zi5, zi6, zi7, zi8] at g13
   refine gs F rfl rfl rfl h13 rfl rfl fun a F => ?_
   refine gs F rfl rfl rfl h13 rfl rfl fun a F => ?_
   refine gv F rfl rfl rfl rfl (y_pkf h13 rfl rfl rfl) rfl rfl fun a F => ?_
   refine dv F (y_pkf rfl rfl rfl rfl) rfl rfl rfl fun a F => ?_
   refine dv F (y_mv rfl rfl) rfl rfl rfl fun a F => ?_
   refine gv F rfl rfl rfl rfl (y_mv rfl rfl) rfl rfl fun a F => ?_
   refine gv F rfl rfl rfl rfl (y_ge rfl rfl rfl) rfl rfl fun a F => ?_
   refine gv F rfl rfl rfl rfl (y_mv rfl rfl) rfl rfl fun a F => ?_
   refine gsp F 20 rfl (fun h19 => ?_) (fun h19 => ?_)
   ·have g19 := h19
    try simp only [zi1, zi2, zi3, zi4, zi5, zi6, zi7, zi8] at g19
    refine gv F rfl rfl rfl h19 (y_mv rfl rfl) rfl rfl fun a F => ?_
    refine gv F rfl rfl rfl h19 (y_le rfl rfl rfl) rfl rfl fun a F => ?_
    refine gv F rfl rfl rfl rfl (y_pkt h19 rfl rfl rfl) rfl rfl fun a F => ?_
    refine dv F (y_pkf rfl rfl rfl rfl) rfl rfl rfl fun a F => ?_
    refine dv F (y_mv rfl rfl) rfl rfl rfl fun a F => ?_
    refine gsp F 25 rfl (fun h20 => ?_) (fun h20 => ?_)
    ·have g20 := h20
     try simp only [zi1, zi2, zi3, zi4, zi5, zi6, zi7, zi8] at g20
     refine gs F rfl rfl rfl h20 rfl rfl fun a F => ?_
     refine gs F rfl rfl rfl h20 rfl rfl fun a F => ?_
     refine gs F rfl rfl rfl h20 rfl rfl fun a F => ?_
     refine gu F rfl rfl rfl rfl rfl fun a F => ?_
     refine gu F rfl rfl rfl rfl rfl fun a F => ?_
     refine gu F rfl rfl rfl rfl rfl fun a F => ?_
     refine gu F rfl rfl rfl rfl rfl fun a F => ?_
     refine gs F rfl rfl rfl h20 rfl rfl fun a F => ?_
     refine dv F (y_pkt h20 rfl rfl rfl) rfl rfl rfl fun a F => ?_
     refine dv F (y_as rfl rfl) rfl rfl rfl fun a F => ?_
     refine dn ?_
     refine tn <| hK2 _ _ ?_
     refine wp_ret ?_
     refine ?_
     exact rt1 F rfl rfl ⟨by simp [sgn, hw, g1, g13, g19, g20], S.bel⟩
    ·have g20 := h20
     try simp only [zi1, zi2, zi3, zi4, zi5, zi6, zi7, zi8] at g20
     refine gv F rfl rfl rfl h20 (y_mv rfl rfl) rfl rfl fun a F => ?_
     refine gv F rfl rfl rfl h20 (y_lt rfl rfl rfl) rfl rfl fun a F => ?_
     refine gv F rfl rfl rfl h20 (y_mv rfl rfl) rfl rfl fun a F => ?_
     refine gsp F 28 rfl (fun h21 => ?_) (fun h21 => ?_)
     ·have g21 := h21
      try simp only [zi1, zi2, zi3, zi4, zi5, zi6, zi7, zi8] at g21
      refine gv F rfl rfl rfl h21 (y_mv rfl rfl) rfl rfl fun a F => ?_
      refine gv F rfl rfl rfl h21 (y_cvt rfl rfl ⟨_, Tryz.underlying21⟩ Tryz.underlying5) rfl rfl fun a F => ?_
      refine gc F rfl rfl rfl h21 (c_f rfl rfl rfl Tryz.call250) rfl rfl (shelf (Tryz.strings_IndexByte _ _ _)) fun a v w' hr F => ?_
      obtain ⟨rfl, hb⟩ := hr
      replace S := S.call hb
      refine gv F rfl rfl rfl h21 (y_ge rfl rfl rfl) rfl rfl fun a F => ?_
      refine gv F rfl rfl rfl h20 (y_pkt h21 rfl rfl rfl) rfl rfl fun a F => ?_
      refine dv F (y_pkf h20 rfl rfl rfl) rfl rfl rfl fun a F => ?_
      refine dv F (y_as rfl rfl) rfl rfl rfl fun a F => ?_
      refine dn ?_
      refine tn <| hK2 _ _ ?_
      refine wp_ret ?_
      refine ?_
      exact rt1 F rfl rfl ⟨by simp [sgn, hw, g1, g13, g19, g20, g21], S.bel⟩
     ·have g21 := h21
      try simp only [zi1, zi2, zi3, zi4, zi5, zi6, zi7, zi8] at g21
      refine gs F rfl rfl rfl h21 rfl rfl fun a F => ?_
      refine gs F rfl rfl rfl h21 rfl rfl fun a F => ?_
      refine gs F rfl rfl rfl h21 rfl rfl fun a F => ?_
      refine gs F rfl rfl rfl h21 rfl rfl fun a F => ?_
      refine gv F rfl rfl rfl h20 (y_pkf h21 rfl rfl rfl) rfl rfl fun a F => ?_
      refine dv F (y_pkf h20 rfl rfl rfl) rfl rfl rfl fun a F => ?_
      refine dv F (y_as rfl rfl) rfl rfl rfl fun a F => ?_
      refine dn ?_
      refine tn <| hK2 _ _ ?_
      refine wp_ret ?_
      refine ?_
      exact rt1 F rfl rfl ⟨by simp [sgn, hw, g1, g13, g19, g20, g21], S.bel⟩
   ·have g19 := h19
    try simp only [zi1, zi2, zi3, zi4, zi5, zi6, zi7, zi8] at g19
    refine gs F rfl rfl rfl h19 rfl rfl fun a F => ?_
    refine gs F rfl rfl rfl h19 rfl rfl fun a F => ?_
    refine gv F rfl rfl rfl rfl (y_pkf h19 rfl rfl rfl) rfl rfl fun a F => ?_
    refine dv F (y_pkf rfl rfl rfl rfl) rfl rfl rfl fun a F => ?_
    refine dv F (y_mv rfl rfl) rfl rfl rfl fun a F => ?_
    refine gv F rfl rfl rfl rfl (y_mv rfl rfl) rfl rfl fun a F => ?_
    refine gv F rfl rfl rfl rfl (y_lt rfl rfl rfl) rfl rfl fun a F => ?_
    refine gv F rfl rfl rfl rfl (y_mv rfl rfl) rfl rfl fun a F => ?_
    refine gsp F 28 rfl (fun h22 => ?_) (fun h22 => ?_)
    ·have g22 := h22
     try simp only [zi1, zi2, zi3, zi4, zi5, zi6, zi7, zi8] at g22
     refine gv F rfl rfl rfl h22 (y_mv rfl rfl) rfl rfl fun a F => ?_
     refine gv F rfl rfl rfl h22 (y_cvt rfl rfl ⟨_, Tryz.underlying21⟩ Tryz.underlying5) rfl rfl fun a F => ?_
     refine gc F rfl rfl rfl h22 (c_f rfl rfl rfl Tryz.call250) rfl rfl (shelf (Tryz.strings_IndexByte _ _ _)) fun a v w' hr F => ?_
     obtain ⟨rfl, hb⟩ := hr
     replace S := S.call hb
     refine gv F rfl rfl rfl h22 (y_ge rfl rfl rfl) rfl rfl fun a F => ?_
     refine gv F rfl rfl rfl rfl (y_pkt h22 rfl rfl rfl) rfl rfl fun a F => ?_
     refine dv F (y_pkf rfl rfl rfl rfl) rfl rfl rfl fun a F => ?_
     refine dv F (y_as rfl rfl) rfl rfl rfl fun a F => ?_
     refine dn ?_
     refine tn <| hK2 _ _ ?_
     refine wp_ret ?_
     refine ?_
     exact rt1 F rfl rfl ⟨by simp [sgn, hw, g1, g13, g19, g22], S.bel⟩
    ·have g22 := h22
     try simp only [zi1, zi2, zi3, zi4, zi5, zi6, zi7, zi8] at g22
     refine gs F rfl rfl rfl h22 rfl rfl fun a F => ?_
     refine gs F rfl rfl rfl h22 rfl rfl fun a F => ?_
     refine gs F rfl rfl rfl h22 rfl rfl fun a F => ?_
     refine gs F rfl rfl rfl h22 rfl rfl fun a F => ?_
     refine gv F rfl rfl rfl rfl (y_pkf h22 rfl rfl rfl) rfl rfl fun a F => ?_
     refine dv F (y_pkf rfl rfl rfl rfl) rfl rfl rfl fun a F => ?_
     refine dv F (y_as rfl rfl) rfl rfl rfl fun a F => ?_
     refine dn ?_
     refine tn <| hK2 _ _ ?_
     refine wp_ret ?_
     refine ?_
     exact rt1 F rfl rfl ⟨by simp [sgn, hw, g1, g13, g19, g22], S.bel⟩
theorem c_nsign (c : Int) (h0 : 0 ≤ c) (w0 : World) : Calls Tryz.prog 218 [.int .i32 c].toArray w0 (Ret fun v w' => v = .bool (!sgn c) ∧ Below w0.heap.size w0 w') := by
 refine ent Tryz.func218 Tryz.ntmps218 rfl rfl ?_
 intro a F
 have S := St.refl w0
 refine sq fun K1 hK1 => ?_
 refine rg ?_
 refine dv F (y_as rfl rfl) rfl rfl rfl fun a F => ?_
 refine dn ?_
 refine tn <| hK1 _ _ ?_
 refine sq fun K2 hK2 => ?_
 refine rg ?_
 refine dv F (y_mv rfl rfl) rfl rfl rfl fun a F => ?_
 refine dc F (c_f rfl rfl rfl Tryz.call219) rfl rfl rfl (c_sign c h0 _) fun a v w' hr F => ?_
 obtain ⟨rfl, hb⟩ := hr
 replace S := S.call hb
 refine dv F (y_nt rfl rfl) rfl rfl rfl fun a F => ?_
 refine dv F (y_as rfl rfl) rfl rfl rfl fun a F => ?_
 refine dn ?_
 refine tn <| hK2 _ _ ?_
 refine wp_ret ?_
 refine ?_
 exact rt1 F rfl rfl ⟨rfl, S.bel⟩
end Go.Proofs.YtgcmddaibnimjaaGreatDoor
namespace Go.Proofs.YtgcmddaibnimjaaGreatDoor
open Go.RowKit Go.Eng
theorem isSp_grows {w : World} : Proofs.PredGrows Tryz.prog 205 #[] isSp w := fun W x hx hb => (c_isSpace x W).mono fun e w' h => by
 cases e with
 | returned v => obtain ⟨rfl, hb⟩ := h; exact ⟨rfl, hb⟩
 | panicked c => exact h.elim
 | outgrown => exact h.elim
theorem words_c (s : ByteArray) (w0 : World) (hs : s.size ≤ 1000000) : Calls Tryz.prog 204 [.string s, .func (.func 205) #[] #[]].toArray w0 (Ret fun v w' => NewS w0 w' v (words s) ∧ Below w0.heap.size w0 w') :=
 (Tryz.strings_FieldsFunc_grows 205 #[] Tryz.call205 isSp s w0 (by omega) isSp_grows).mono fun e w' h => by
  obtain ⟨A, rfl, hA, ho, hb⟩ := h
  obtain ⟨A', c, e, ho'⟩ := OwOk.of_own ho
  cases e
  exact ⟨⟨_, _, rfl, by rw [flatS]; exact ho', fun k hk => by cases hk; exact hA⟩, hb⟩
theorem alloc_new (w : World) (o : Obj) : (w.alloc o).heap[w.heap.size]? = some o := by
 show (w.heap.push o)[w.heap.size]? = some o
 simp
theorem split_c {w0 : World} (G : Gl w0) (s sep : ByteArray) (hs : s.size ≤ 1000000) (h1 : 1 ≤ sep.size) : Calls Tryz.prog 143 [.string s, .string sep].toArray w0 (Ret fun v w' => NewS w0 w' v (splitOn sep s) ∧ Below w0.heap.size w0 w') := by
 obtain ⟨m, hm⟩ := G.ml
 refine (Tryz.strings_Split s sep m w0 (by omega) hm h1).mono fun e w' h => ?_
 obtain ⟨rfl, rfl⟩ := h
 have hl : (splitOn sep s).length = Lib.countB s sep + 1 := Lib.splitB_all sep h1 0 _ s rfl
 refine ⟨⟨_, _, by rw [hl], ?_, fun k hk => by cases hk; exact Nat.le_refl _⟩, (Below.refl _ _).alloc (Nat.le_refl _) _⟩
 rw [flatS, hl]
 refine ⟨by rw [List.length_map, hl]; omega, Nat.le_refl _, ?_, .inr ⟨w0.heap.size, 0, _, (0, 0), rfl, alloc_new _ _, .inl rfl, ?_, fun j u hj => ?_⟩⟩
 ·have := Lib.countB_le sep h1 s.size s (Nat.le_refl _)
  simp only [maxLen]; omega
 ·simp [show (Lib.splitB sep 0 (Lib.countB s sep) s).length = _ from hl]
 ·simpa [splitOn] using hj
theorem trimS_le (s : ByteArray) : (trimS s).size ≤ s.size := by
 show (Lib.trimSuffix s.data.toList nlB.data.toList).length ≤ s.data.toList.length
 simp only [Lib.trimSuffix]
 split
 ·exact (List.length_take_le' ..)
 ·exact Nat.le_refl _
theorem trim_c (s : ByteArray) (w0 : World) (hs : s.size ≤ 1000000) : Calls Tryz.prog 184 [.string s, .string ⟨#[42]⟩].toArray w0 (Ret fun v w' => v = .string ⟨(Lib.trimB s.data.toList 42).toArray⟩ ∧ Below w0.heap.size w0 w') :=
 (Tryz.strings_Trim_one s 42 (by decide) w0 (by omega)).mono fun e w' h => by
  obtain ⟨rfl, rfl | rfl⟩ := h
  ·exact ⟨rfl, Below.refl _ _⟩
  ·exact ⟨rfl, (Below.refl _ _).drew⟩
theorem nsign_grows {w : World} : Proofs.PredGrows Tryz.prog 218 #[] (fun x => !sgn x) w := fun W x hx hb => (c_nsign x (Int.natCast_nonneg x) W).mono fun e w' h => by
 cases e with
 | returned v => obtain ⟨rfl, hb⟩ := h; exact ⟨rfl, hb⟩
 | panicked c => exact h.elim
 | outgrown => exact h.elim
theorem c_ppart (s : ByteArray) (w0 : World) : Calls Tryz.prog 182 [.string s].toArray w0 (Ret fun v w' => v = .bool (ppart s) ∧ Below w0.heap.size w0 w') := by
 refine ent Tryz.func182 Tryz.ntmps182 rfl rfl ?_
 intro a F
 have S := St.refl w0
 refine sq fun K1 hK1 => ?_
 refine rg ?_
 refine dv F (y_as rfl rfl) rfl rfl rfl fun a F => ?_
 refine dn ?_
 refine tn <| hK1 _ _ ?_
 refine sq fun K2 hK2 => ?_
 refine rg ?_
 refine dv F (y_mv rfl rfl) rfl rfl rfl fun a F => ?_
 refine dv F (y_sn rfl rfl rfl) rfl rfl rfl fun a F => ?_
 refine dv F (y_mv rfl rfl) rfl rfl rfl fun a F => ?_
 refine gsp F 5 rfl (fun h1 => ?_) (fun h1 => ?_)
 ·have g1 := h1
  try simp only [zi1, zi2, zi3, zi4, zi5, zi6, zi7, zi8] at g1
  refine gv F rfl rfl rfl h1 (y_mv rfl rfl) rfl rfl fun a F => ?_
  refine gv F rfl rfl rfl h1 (y_ls rfl rfl Tryz.underlying9) rfl rfl fun a F => ?_
  refine gv F rfl rfl rfl h1 (y_le rfl rfl rfl) rfl rfl fun a F => ?_
  refine dv F (y_pkt h1 rfl rfl rfl) rfl rfl rfl fun a F => ?_
  refine dv F (y_mv rfl rfl) rfl rfl rfl fun a F => ?_
  refine gsp F 10 rfl (fun h2 => ?_) (fun h2 => ?_)
  ·have g2 := h2
   try simp only [zi1, zi2, zi3, zi4, zi5, zi6, zi7, zi8] at g2
   refine gv F rfl rfl rfl h2 (y_mv rfl rfl) rfl rfl fun a F => ?_
   refine gv F rfl rfl rfl h2 (y_sn rfl rfl rfl) rfl rfl fun a F => ?_
   refine dv F (y_pkt h2 rfl rfl rfl) rfl rfl rfl fun a F => ?_
   refine dv F (y_mv rfl rfl) rfl rfl rfl fun a F => ?_
   refine gsp F 14 rfl (fun h3 => ?_) (fun h3 => ?_)
   ·have g3 := h3
    try simp only [zi1, zi2, zi3, zi4, zi5, zi6, zi7, zi8] at g3
    refine gv F rfl rfl rfl h3 (y_mv rfl rfl) rfl rfl fun a F => ?_
    refine gv F rfl rfl rfl h3 (y_sn rfl rfl rfl) rfl rfl fun a F => ?_
    refine dv F (y_pkt h3 rfl rfl rfl) rfl rfl rfl fun a F => ?_
    refine dv F (y_mv rfl rfl) rfl rfl rfl fun a F => ?_
    refine gsp F 18 rfl (fun h4 => ?_) (fun h4 => ?_)
    ·have g4 := h4
     try simp only [zi1, zi2, zi3, zi4, zi5, zi6, zi7, zi8] at g4
     refine gv F rfl rfl rfl h4 (y_mv rfl rfl) rfl rfl fun a F => ?_
     refine gc F rfl rfl rfl h4 (c_f rfl rfl rfl Tryz.call217) rfl rfl (shelfB (Tryz.strings_ContainsFunc_grows 218 #[] Tryz.call218 (fun x => !sgn x) s _ nsign_grows)) fun a v w' hr F => ?_
     obtain ⟨rfl, hb⟩ := hr
     replace S := S.call hb
     refine gv F rfl rfl rfl h4 (y_nt rfl rfl) rfl rfl fun a F => ?_
     refine dv F (y_pkt h4 rfl rfl rfl) rfl rfl rfl fun a F => ?_
     refine dv F (y_as rfl rfl) rfl rfl rfl fun a F => ?_
     refine dn ?_
     refine tn <| hK2 _ _ ?_
     refine wp_ret ?_
     refine ?_
     exact rt1 F rfl rfl ⟨by simp [ppart, g1, g2, g3, g4], S.bel⟩
    ·have g4 := h4
     try simp only [zi1, zi2, zi3, zi4, zi5, zi6, zi7, zi8] at g4
     refine gs F rfl rfl rfl h4 rfl rfl fun a F => ?_
     refine gs F rfl rfl rfl h4 rfl rfl fun a F => ?_
     refine gs F rfl rfl rfl h4 rfl rfl fun a F => ?_
     refine dv F (y_pkf h4 rfl rfl rfl) rfl rfl rfl fun a F => ?_
     refine dv F (y_as rfl rfl) rfl rfl rfl fun a F => ?_
     refine dn ?_
     refine tn <| hK2 _ _ ?_
     refine wp_ret ?_
     refine ?_
     exact rt1 F rfl rfl ⟨by simp [ppart, g1, g2, g3, g4], S.bel⟩
   ·have g3 := h3
    try simp only [zi1, zi2, zi3, zi4, zi5, zi6, zi7, zi8] at g3
    refine gs F rfl rfl rfl h3 rfl rfl fun a F => ?_
    refine gs F rfl rfl rfl h3 rfl rfl fun a F => ?_
    refine dv F (y_pkf h3 rfl rfl rfl) rfl rfl rfl fun a F => ?_
    refine dv F (y_mv rfl rfl) rfl rfl rfl fun a F => ?_
    refine gs F rfl rfl rfl rfl rfl rfl fun a F => ?_
    refine gs F rfl rfl rfl rfl rfl rfl fun a F => ?_
    refine gs F rfl rfl rfl rfl rfl rfl fun a F => ?_
    refine dv F (y_pkf rfl rfl rfl rfl) rfl rfl rfl fun a F => ?_
    refine dv F (y_as rfl rfl) rfl rfl rfl fun a F => ?_
    refine dn ?_
    refine tn <| hK2 _ _ ?_
    refine wp_ret ?_
    refine ?_
    exact rt1 F rfl rfl ⟨by simp [ppart, g1, g2, g3], S.bel⟩
  ·have g2 := h2
   try simp only [zi1, zi2, zi3, zi4, zi5, zi6, zi7, zi8] at g2
   refine gs F rfl rfl rfl h2 rfl rfl fun a F => ?_
   refine gs F rfl rfl rfl h2 rfl rfl fun a F => ?_
   refine dv F (y_pkf h2 rfl rfl rfl) rfl rfl rfl fun a F => ?_
   refine dv F (y_mv rfl rfl) rfl rfl rfl fun a F => ?_
   refine gs F rfl rfl rfl rfl rfl rfl fun a F => ?_
   refine gs F rfl rfl rfl rfl rfl rfl fun a F => ?_
   refine dv F (y_pkf rfl rfl rfl rfl) rfl rfl rfl fun a F => ?_
   refine dv F (y_mv rfl rfl) rfl rfl rfl fun a F => ?_
   refine gs F rfl rfl rfl rfl rfl rfl fun a F => ?_
   refine gs F rfl rfl rfl rfl rfl rfl fun a F => ?_
   refine gs F rfl rfl rfl rfl rfl rfl fun a F => ?_
   refine dv F (y_pkf rfl rfl rfl rfl) rfl rfl rfl fun a F => ?_
   refine dv F (y_as rfl rfl) rfl rfl rfl fun a F => ?_
   refine dn ?_
   refine tn <| hK2 _ _ ?_
   refine wp_ret ?_
   refine ?_
   exact rt1 F rfl rfl ⟨by simp [ppart, g1, g2], S.bel⟩
 ·have g1 := h1
  try simp only [zi1, zi2, zi3, zi4, zi5, zi6, zi7, zi8] at g1
  refine gs F rfl rfl rfl h1 rfl rfl fun a F => ?_
  refine gs F rfl rfl rfl h1 rfl rfl fun a F => ?_
  refine gs F rfl rfl rfl h1 rfl rfl fun a F => ?_
  refine dv F (y_pkf h1 rfl rfl rfl) rfl rfl rfl fun a F => ?_
  refine dv F (y_mv rfl rfl) rfl rfl rfl fun a F => ?_
  refine gs F rfl rfl rfl rfl rfl rfl fun a F => ?_
  refine gs F rfl rfl rfl rfl rfl rfl fun a F => ?_
  refine dv F (y_pkf rfl rfl rfl rfl) rfl rfl rfl fun a F => ?_
  refine dv F (y_mv rfl rfl) rfl rfl rfl fun a F => ?_
  refine gs F rfl rfl rfl rfl rfl rfl fun a F => ?_
  refine gs F rfl rfl rfl rfl rfl rfl fun a F => ?_
  refine dv F (y_pkf rfl rfl rfl rfl) rfl rfl rfl fun a F => ?_
  refine dv F (y_mv rfl rfl) rfl rfl rfl fun a F => ?_
  refine gs F rfl rfl rfl rfl rfl rfl fun a F => ?_
  refine gs F rfl rfl rfl rfl rfl rfl fun a F => ?_
  refine gs F rfl rfl rfl rfl rfl rfl fun a F => ?_
  refine dv F (y_pkf rfl rfl rfl rfl) rfl rfl rfl fun a F => ?_
  refine dv F (y_as rfl rfl) rfl rfl rfl fun a F => ?_
  refine dn ?_
  refine tn <| hK2 _ _ ?_
  refine wp_ret ?_
  refine ?_
  exact rt1 F rfl rfl ⟨by simp [ppart, g1], S.bel⟩
theorem c_words (s : ByteArray) (w0 : World) (hs : s.size ≤ 1000000) : Calls Tryz.prog 153 [.string s].toArray w0 (Ret fun v w' => NewS w0 w' v (words s) ∧ Below w0.heap.size w0 w') := by
 refine ent Tryz.func153 Tryz.ntmps153 rfl rfl ?_
 intro a F
 have S := St.refl w0
 refine sq fun K1 hK1 => ?_
 refine rg ?_
 refine dv F (y_as rfl rfl) rfl rfl rfl fun a F => ?_
 refine dn ?_
 refine tn <| hK1 _ _ ?_
 refine sq fun K2 hK2 => ?_
 refine rg ?_
 refine dv F (y_mv rfl rfl) rfl rfl rfl fun a F => ?_
 refine dc F (c_f rfl rfl rfl Tryz.call204) rfl rfl rfl (words_c s _ hs) fun a v w' hr F => ?_
 obtain ⟨⟨A, c, rfl, hO, hlo⟩, hb⟩ := hr
 replace S := S.call hb
 refine dv F (y_as rfl rfl) rfl rfl rfl fun a F => ?_
 refine dn ?_
 refine tn <| hK2 _ _ ?_
 refine wp_ret ?_
 refine ?_
 exact rt1 F rfl rfl ⟨⟨A, c, rfl, hO, hlo⟩, S.bel⟩
theorem c_lines (s : ByteArray) (w0 : World) (G : Gl w0) (hs : s.size ≤ 1000000) : Calls Tryz.prog 113 [.string s].toArray w0 (Ret fun v w' => NewS w0 w' v (lines s) ∧ Below w0.heap.size w0 w') := by
 refine ent Tryz.func113 Tryz.ntmps113 rfl rfl ?_
 intro a F
 have S := St.refl w0
 refine sq fun K1 hK1 => ?_
 refine rg ?_
 refine dv F (y_as rfl rfl) rfl rfl rfl fun a F => ?_
 refine dn ?_
 refine tn <| hK1 _ _ ?_
 refine sq fun K2 hK2 => ?_
 refine sq fun K3 hK3 => ?_
 refine rg ?_
 refine dv F (y_mv rfl rfl) rfl rfl rfl fun a F => ?_
 refine dv F (y_se rfl rfl rfl) rfl rfl rfl fun a F => ?_
 refine dn ?_
 refine tn <| hK3 _ _ ?_
 refine cb F rfl (fun h1 => ?_) (fun h1 => ?_)
 ·have g1 := h1
  try simp only [zi1, zi2, zi3, zi4, zi5, zi6, zi7, zi8] at g1
  refine sq fun K4 hK4 => ?_
  refine rg ?_
  refine dv F (y_as rfl rfl) rfl rfl rfl fun a F => ?_
  refine dn ?_
  refine tn <| hK4 _ _ ?_
  refine wp_ret ?_
  refine tr <| ?_
  exact rt1 F rfl rfl ⟨⟨none, 0, by rw [lines, if_pos (by simpa using g1)]; rfl, by rw [lines, if_pos (by simpa using g1)]; exact ⟨rfl, Nat.le_refl _, Nat.zero_le _, .inl ⟨rfl, rfl⟩⟩, fun k hk => by cases hk⟩, S.bel⟩
 ·have g1 := h1
  try simp only [zi1, zi2, zi3, zi4, zi5, zi6, zi7, zi8] at g1
  refine wp_skip ?_
  refine tn <| hK2 _ _ ?_
  refine sq fun K5 hK5 => ?_
  refine rg ?_
  refine dv F (y_mv rfl rfl) rfl rfl rfl fun a F => ?_
  refine dc F (c_f rfl rfl rfl Tryz.call152) rfl rfl rfl (shelf (Tryz.strings_TrimSuffix _ _ _ (by omega))) fun a v w' hr F => ?_
  obtain ⟨rfl, hb⟩ := hr
  replace S := S.call hb
  refine dc F (c_f rfl rfl rfl Tryz.call143) rfl rfl rfl (split_c (G.st S) (trimS s) nlB (by have := trimS_le s; omega) (by decide)) fun a v w' hr F => ?_
  obtain ⟨⟨A, c, rfl, hO, hlo⟩, hb⟩ := hr
  replace hlo := fun k hk => Nat.le_trans S.bel.size (hlo k hk)
  replace S := S.call hb
  refine dv F (y_as rfl rfl) rfl rfl rfl fun a F => ?_
  refine dn ?_
  refine tn <| hK5 _ _ ?_
  refine wp_ret ?_
  refine ?_
  exact rt1 F rfl rfl ⟨⟨A, c, by rw [lines, if_neg (by simpa using g1)], by rw [lines, if_neg (by simpa using g1)]; exact hO, hlo⟩, S.bel⟩
theorem c_one (p s : ByteArray) (w0 : World) (hp : p.size ≤ 1000000) (hs : s.size ≤ 1000000) : Calls Tryz.prog 145 [.string p, .string s].toArray w0 (Ret fun v w' => v = .bool (one p s) ∧ Below w0.heap.size w0 w') := by
 refine ent Tryz.func145 Tryz.ntmps145 rfl rfl ?_
 intro a F
 have S := St.refl w0
 refine sq fun K1 hK1 => ?_
 refine rg ?_
 refine dv F (y_as rfl rfl) rfl rfl rfl fun a F => ?_
 refine dn ?_
 refine tn <| hK1 _ _ ?_
 refine sq fun K2 hK2 => ?_
 refine rg ?_
 refine dv F (y_as rfl rfl) rfl rfl rfl fun a F => ?_
 refine dv F (y_as rfl rfl) rfl rfl rfl fun a F => ?_
 refine dv F (y_as rfl rfl) rfl rfl rfl fun a F => ?_
 refine dv F (y_as rfl rfl) rfl rfl rfl fun a F => ?_
 refine dn ?_
 refine tn <| hK2 _ _ ?_
 refine sq fun K3 hK3 => ?_
 refine bl ?_
 refine lp (fun m a w => ∃ (f : Nat) (i : Nat) (k : Nat) (st : Int) (at_ : Nat), m = f ∧ (i ≤ p.size ∧ k ≤ s.size ∧ at_ ≤ k ∧ -1 ≤ st ∧ st < i) ∧ (oneMu p s i k st at_ < f) ∧ (oneGo p s f i k st at_ = oneR p s) ∧ Fr 65 a [(0, .string p), (1, .string s), (5, .int .i64 (i : Int)), (6, .int .i64 (k : Int)), (7, .int .i64 st), (8, .int .i64 (at_ : Int))] ∧ St w0 w []) (oneMu p s 0 0 (-1) 0 + 1) ?_ ?_
 ·exact ⟨_, 0, 0, -1, 0, rfl, ⟨Nat.zero_le _, Nat.zero_le _, Nat.le_refl _, by omega, by omega⟩, Nat.lt_succ_self _, rfl, F.sub _ ⟨rfl, rfl, rfl, rfl, rfl, rfl, trivial⟩, S.pick [] _ trivial rfl⟩
 ·rintro m a w ⟨f, i, k, st, at_, hm, hb, hf, he, F, S⟩
  obtain ⟨hi, hk, hat, hst, hsi⟩ := hb
  obtain ⟨f, rfl⟩ : ∃ f', f = f' + 1 := ⟨f - 1, by omega⟩
  rw [oneGo] at he
  refine sq fun K4 hK4 => ?_
  refine sq fun K5 hK5 => ?_
  refine rg ?_
  refine dv F (y_mv rfl rfl) rfl rfl rfl fun a F => ?_
  refine dv F (y_mv rfl rfl) rfl rfl rfl fun a F => ?_
  refine dv F (y_ls rfl rfl Tryz.underlying9) rfl rfl rfl fun a F => ?_
  refine dv F (y_lt rfl rfl rfl) rfl rfl rfl fun a F => ?_
  refine dn ?_
  refine tn <| hK5 _ _ ?_
  refine cb F rfl (fun h1 => ?_) (fun h1 => ?_)
  ·have g1 := h1
   try simp only [zi1, zi2, zi3, zi4, zi5, zi6, zi7, zi8] at g1
   refine wp_skip ?_
   refine tn <| hK4 _ _ ?_
   refine bl ?_
   refine bl ?_
   refine sq fun K6 hK6 => ?_
   refine rg ?_
   refine dv F (y_mv rfl rfl) rfl rfl rfl fun a F => ?_
   refine dv F (y_mv rfl rfl) rfl rfl rfl fun a F => ?_
   refine dv F (y_ls rfl rfl Tryz.underlying9) rfl rfl rfl fun a F => ?_
   refine dv F (y_lt rfl rfl rfl) rfl rfl rfl fun a F => ?_
   refine dv F (y_mv rfl rfl) rfl rfl rfl fun a F => ?_
   refine gsp F 18 rfl (fun h2 => ?_) (fun h2 => ?_)
   ·have g2 := h2
    try simp only [zi1, zi2, zi3, zi4, zi5, zi6, zi7, zi8] at g2
    refine gv F rfl rfl rfl h2 (y_mv rfl rfl) rfl rfl fun a F => ?_
    refine gv F rfl rfl rfl h2 (y_mv rfl rfl) rfl rfl fun a F => ?_
    refine gv F rfl rfl rfl h2 (y_sx rfl rfl rfl Tryz.underlying9 i rfl (by omega)) rfl rfl fun a F => ?_
    refine gv F rfl rfl rfl h2 (y_ie rfl rfl rfl) rfl rfl fun a F => ?_
    refine dv F (y_pkt h2 rfl rfl rfl) rfl rfl rfl fun a F => ?_
    refine dv F (y_as rfl rfl) rfl rfl rfl fun a F => ?_
    refine dn ?_
    refine tn <| hK6 _ _ ?_
    refine cb F rfl (fun h3 => ?_) (fun h3 => ?_)
    ·have g3 := h3
     try simp only [zi1, zi2, zi3, zi4, zi5, zi6, zi7, zi8] at g3
     refine sq fun K7 hK7 => ?_
     refine rg ?_
     refine dv F (y_mv rfl rfl) rfl rfl rfl fun a F => ?_
     refine dv F (y_mv rfl rfl) rfl rfl rfl fun a F => ?_
     refine dv F (y_as rfl rfl) rfl rfl rfl fun a F => ?_
     refine dv F (y_as rfl rfl) rfl rfl rfl fun a F => ?_
     refine dn ?_
     refine tn <| hK7 _ _ ?_
     refine rg ?_
     refine dv F (y_mv rfl rfl) rfl rfl rfl fun a F => ?_
     refine dv F (y_add rfl rfl rfl (by omega)) rfl rfl rfl fun a F => ?_
     refine dv F (y_as rfl rfl) rfl rfl rfl fun a F => ?_
     refine dn ?_
     exact bn <| bn <| ln (by omega) ⟨f, i + 1, k, _, k, rfl, by omega, by have := oneMu_star p s i k st at_ (by omega); omega, by rw [if_pos (by omega), if_pos (by omega)] at he; exact he, F.sub _ ⟨rfl, rfl, rfl, rfl, rfl, rfl, trivial⟩, S.pick [] _ trivial rfl⟩
    ·have g3 := h3
     try simp only [zi1, zi2, zi3, zi4, zi5, zi6, zi7, zi8] at g3
     refine sq fun K8 hK8 => ?_
     refine rq (C := fun w => St _ w _) Tryz.mixed (by kernel_rfl) (S.drewN 1) ?_
     refine qv F (fun w S => y_mv rfl rfl) rfl rfl rfl fun a F => ?_
     refine qv F (fun w S => y_mv rfl rfl) rfl rfl rfl fun a F => ?_
     refine qv F (fun w S => y_ls rfl rfl Tryz.underlying9) rfl rfl rfl fun a F => ?_
     refine qv F (fun w S => y_lt rfl rfl rfl) rfl rfl rfl fun a F => ?_
     refine qv F (fun w S => y_mv rfl rfl) rfl rfl rfl fun a F => ?_
     refine gsp F 33 rfl (fun h4 => ?_) (fun h4 => ?_)
     ·have g4 := h4
      try simp only [zi1, zi2, zi3, zi4, zi5, zi6, zi7, zi8] at g4
      refine qgv F rfl rfl rfl h4 (fun w S => y_mv rfl rfl) rfl rfl fun a F => ?_
      refine qgv F rfl rfl rfl h4 (fun w S => y_mv rfl rfl) rfl rfl fun a F => ?_
      refine qgv F rfl rfl rfl h4 (fun w S => y_sx rfl rfl rfl Tryz.underlying9 i rfl (by omega)) rfl rfl fun a F => ?_
      refine qgv F rfl rfl rfl h4 (fun w S => y_ie rfl rfl rfl) rfl rfl fun a F => ?_
      refine qgv F rfl rfl rfl h4 (fun w S => y_mv rfl rfl) rfl rfl fun a F => ?_
      refine gsp F 38 rfl (fun h5 => ?_) (fun h5 => ?_)
      ·have g5 := h5
       try simp only [zi1, zi2, zi3, zi4, zi5, zi6, zi7, zi8] at g5
       refine qgs F rfl rfl rfl h5 rfl rfl fun a F => ?_
       refine qgs F rfl rfl rfl h5 rfl rfl fun a F => ?_
       refine qgs F rfl rfl rfl h5 rfl rfl fun a F => ?_
       refine qgs F rfl rfl rfl h5 rfl rfl fun a F => ?_
       refine qgs F rfl rfl rfl h5 rfl rfl fun a F => ?_
       refine qgs F rfl rfl rfl h5 rfl rfl fun a F => ?_
       refine qgs F rfl rfl rfl h5 rfl rfl fun a F => ?_
       refine qgv F rfl rfl rfl h4 (fun w S => y_pkt h5 rfl rfl rfl) rfl rfl fun a F => ?_
       refine qv F (fun w S => y_pkt h4 rfl rfl rfl) rfl rfl rfl fun a F => ?_
       refine qv F (fun w S => y_as rfl rfl) rfl rfl rfl fun a F => ?_
       refine qn fun w S => ?_
       refine tn <| hK8 _ _ ?_
       refine ct F rfl rfl ?_
       refine sq fun K9 hK9 => ?_
       refine rg ?_
       refine dv F (y_mv rfl rfl) rfl rfl rfl fun a F => ?_
       refine dv F (y_add rfl rfl rfl (by omega)) rfl rfl rfl fun a F => ?_
       refine dv F (y_as rfl rfl) rfl rfl rfl fun a F => ?_
       refine dn ?_
       refine tn <| hK9 _ _ ?_
       refine rg ?_
       refine dv F (y_mv rfl rfl) rfl rfl rfl fun a F => ?_
       refine dv F (y_add rfl rfl rfl (by omega)) rfl rfl rfl fun a F => ?_
       refine dv F (y_as rfl rfl) rfl rfl rfl fun a F => ?_
       refine dn ?_
       exact bn <| bn <| ln (by omega) ⟨f, i + 1, k + 1, _, at_, rfl, by omega, by have := oneMu_next p s i k (k + 1) st at_ (by omega); omega, by rw [if_pos (by omega), if_neg (by omega), if_pos (by omega)] at he; exact he, F.sub _ ⟨rfl, rfl, rfl, rfl, rfl, rfl, trivial⟩, S.pick [] _ trivial rfl⟩
      ·have g5 := h5
       try simp only [zi1, zi2, zi3, zi4, zi5, zi6, zi7, zi8] at g5
       refine qgv F rfl rfl rfl h5 (fun w S => y_mv rfl rfl) rfl rfl fun a F => ?_
       refine qgv F rfl rfl rfl h5 (fun w S => y_mv rfl rfl) rfl rfl fun a F => ?_
       refine qgv F rfl rfl rfl h5 (fun w S => y_sx rfl rfl rfl Tryz.underlying9 i rfl (by omega)) rfl rfl fun a F => ?_
       refine qgv F rfl rfl rfl h5 (fun w S => y_mv rfl rfl) rfl rfl fun a F => ?_
       refine qgv F rfl rfl rfl h5 (fun w S => y_mv rfl rfl) rfl rfl fun a F => ?_
       refine qgv F rfl rfl rfl h5 (fun w S => y_sx rfl rfl rfl Tryz.underlying9 k rfl (by omega)) rfl rfl fun a F => ?_
       refine qgv F rfl rfl rfl h5 (fun w S => y_ie rfl rfl rfl) rfl rfl fun a F => ?_
       refine qgv F rfl rfl rfl h4 (fun w S => y_pkf h5 rfl rfl rfl) rfl rfl fun a F => ?_
       refine qv F (fun w S => y_pkt h4 rfl rfl rfl) rfl rfl rfl fun a F => ?_
       refine qv F (fun w S => y_as rfl rfl) rfl rfl rfl fun a F => ?_
       refine qn fun w S => ?_
       refine tn <| hK8 _ _ ?_
       refine cb F rfl (fun h6 => ?_) (fun h6 => ?_)
       ·have g6 := h6
        try simp only [zi1, zi2, zi3, zi4, zi5, zi6, zi7, zi8] at g6
        refine sq fun K10 hK10 => ?_
        refine rg ?_
        refine dv F (y_mv rfl rfl) rfl rfl rfl fun a F => ?_
        refine dv F (y_add rfl rfl rfl (by omega)) rfl rfl rfl fun a F => ?_
        refine dv F (y_as rfl rfl) rfl rfl rfl fun a F => ?_
        refine dn ?_
        refine tn <| hK10 _ _ ?_
        refine rg ?_
        refine dv F (y_mv rfl rfl) rfl rfl rfl fun a F => ?_
        refine dv F (y_add rfl rfl rfl (by omega)) rfl rfl rfl fun a F => ?_
        refine dv F (y_as rfl rfl) rfl rfl rfl fun a F => ?_
        refine dn ?_
        exact bn <| bn <| ln (by omega) ⟨f, i + 1, k + 1, _, at_, rfl, by omega, by have := oneMu_next p s i k (k + 1) st at_ (by omega); omega, by rw [if_pos (by omega), if_neg (by omega), if_pos (by omega)] at he; exact he, F.sub _ ⟨rfl, rfl, rfl, rfl, rfl, rfl, trivial⟩, S.pick [] _ trivial rfl⟩
       ·have g6 := h6
        try simp only [zi1, zi2, zi3, zi4, zi5, zi6, zi7, zi8] at g6
        refine sq fun K11 hK11 => ?_
        refine rg ?_
        refine dv F (y_mv rfl rfl) rfl rfl rfl fun a F => ?_
        refine dv F (y_ge rfl rfl rfl) rfl rfl rfl fun a F => ?_
        refine dv F (y_as rfl rfl) rfl rfl rfl fun a F => ?_
        refine dn ?_
        refine tn <| hK11 _ _ ?_
        refine cb F rfl (fun h7 => ?_) (fun h7 => ?_)
        ·have g7 := h7
         try simp only [zi1, zi2, zi3, zi4, zi5, zi6, zi7, zi8] at g7
         refine sq fun K12 hK12 => ?_
         refine rg ?_
         refine dv F (y_mv rfl rfl) rfl rfl rfl fun a F => ?_
         refine dv F (y_add rfl rfl rfl (by omega)) rfl rfl rfl fun a F => ?_
         refine dv F (y_as rfl rfl) rfl rfl rfl fun a F => ?_
         refine dn ?_
         refine tn <| hK12 _ _ ?_
         refine rg ?_
         refine dv F (y_mv rfl rfl) rfl rfl rfl fun a F => ?_
         refine dv F (y_add rfl rfl rfl (by omega)) rfl rfl rfl fun a F => ?_
         refine dv F (y_mv rfl rfl) rfl rfl rfl fun a F => ?_
         refine dv F (y_as rfl rfl) rfl rfl rfl fun a F => ?_
         refine dv F (y_as rfl rfl) rfl rfl rfl fun a F => ?_
         refine dn ?_
         rw [show st + 1 = ((st.toNat + 1 : Nat) : Int) by omega] at F
         exact bn <| bn <| ln (by omega) ⟨f, st.toNat + 1, at_ + 1, _, at_ + 1, rfl, by omega, by have := oneMu_back p s i k st at_ (by omega); omega, by rw [if_pos (by omega), if_neg (by omega), if_neg (by omega), if_pos (by omega)] at he; exact he, F.sub _ ⟨rfl, rfl, rfl, rfl, rfl, rfl, trivial⟩, S.pick [] _ trivial rfl⟩
        ·have g7 := h7
         try simp only [zi1, zi2, zi3, zi4, zi5, zi6, zi7, zi8] at g7
         refine sq fun K13 hK13 => ?_
         refine rg ?_
         refine dv F (y_as rfl rfl) rfl rfl rfl fun a F => ?_
         refine dn ?_
         refine tn <| hK13 _ _ ?_
         refine wp_ret ?_
         refine br <| br <| lr <| br <| tr <| ?_
         exact rt1 F rfl rfl ⟨by rw [if_pos (by omega), if_neg (by omega), if_neg (by omega), if_neg (by omega)] at he; rw [one, ← he], S.bel⟩
     ·have g4 := h4
      try simp only [zi1, zi2, zi3, zi4, zi5, zi6, zi7, zi8] at g4
      refine qgs F rfl rfl rfl h4 rfl rfl fun a F => ?_
      refine qgs F rfl rfl rfl h4 rfl rfl fun a F => ?_
      refine qgs F rfl rfl rfl h4 rfl rfl fun a F => ?_
      refine qgs F rfl rfl rfl h4 rfl rfl fun a F => ?_
      refine qgs F rfl rfl rfl h4 rfl rfl fun a F => ?_
      refine qgu F rfl rfl rfl rfl rfl fun a F => ?_
      refine qgu F rfl rfl rfl rfl rfl fun a F => ?_
      refine qgu F rfl rfl rfl rfl rfl fun a F => ?_
      refine qgu F rfl rfl rfl rfl rfl fun a F => ?_
      refine qgu F rfl rfl rfl rfl rfl fun a F => ?_
      refine qgu F rfl rfl rfl rfl rfl fun a F => ?_
      refine qgu F rfl rfl rfl rfl rfl fun a F => ?_
      refine qgs F rfl rfl rfl h4 rfl rfl fun a F => ?_
      refine qv F (fun w S => y_pkf h4 rfl rfl rfl) rfl rfl rfl fun a F => ?_
      refine qv F (fun w S => y_as rfl rfl) rfl rfl rfl fun a F => ?_
      refine qn fun w S => ?_
      refine tn <| hK8 _ _ ?_
      refine cf F rfl rfl ?_
      refine sq fun K14 hK14 => ?_
      refine rg ?_
      refine dv F (y_mv rfl rfl) rfl rfl rfl fun a F => ?_
      refine dv F (y_ge rfl rfl rfl) rfl rfl rfl fun a F => ?_
      refine dv F (y_as rfl rfl) rfl rfl rfl fun a F => ?_
      refine dn ?_
      refine tn <| hK14 _ _ ?_
      refine cb F rfl (fun h8 => ?_) (fun h8 => ?_)
      ·have g8 := h8
       try simp only [zi1, zi2, zi3, zi4, zi5, zi6, zi7, zi8] at g8
       refine sq fun K15 hK15 => ?_
       refine rg ?_
       refine dv F (y_mv rfl rfl) rfl rfl rfl fun a F => ?_
       refine dv F (y_add rfl rfl rfl (by omega)) rfl rfl rfl fun a F => ?_
       refine dv F (y_as rfl rfl) rfl rfl rfl fun a F => ?_
       refine dn ?_
       refine tn <| hK15 _ _ ?_
       refine rg ?_
       refine dv F (y_mv rfl rfl) rfl rfl rfl fun a F => ?_
       refine dv F (y_add rfl rfl rfl (by omega)) rfl rfl rfl fun a F => ?_
       refine dv F (y_mv rfl rfl) rfl rfl rfl fun a F => ?_
       refine dv F (y_as rfl rfl) rfl rfl rfl fun a F => ?_
       refine dv F (y_as rfl rfl) rfl rfl rfl fun a F => ?_
       refine dn ?_
       rw [show st + 1 = ((st.toNat + 1 : Nat) : Int) by omega] at F
       exact bn <| bn <| ln (by omega) ⟨f, st.toNat + 1, at_ + 1, _, at_ + 1, rfl, by omega, by have := oneMu_back p s i k st at_ (by omega); omega, by rw [if_pos (by omega), if_neg (by omega), if_neg (by omega), if_pos (by omega)] at he; exact he, F.sub _ ⟨rfl, rfl, rfl, rfl, rfl, rfl, trivial⟩, S.pick [] _ trivial rfl⟩
      ·have g8 := h8
       try simp only [zi1, zi2, zi3, zi4, zi5, zi6, zi7, zi8] at g8
       refine sq fun K16 hK16 => ?_
       refine rg ?_
       refine dv F (y_as rfl rfl) rfl rfl rfl fun a F => ?_
       refine dn ?_
       refine tn <| hK16 _ _ ?_
       refine wp_ret ?_
       refine br <| br <| lr <| br <| tr <| ?_
       exact rt1 F rfl rfl ⟨by rw [if_pos (by omega), if_neg (by omega), if_neg (by omega), if_neg (by omega)] at he; rw [one, ← he], S.bel⟩
   ·have g2 := h2
    try simp only [zi1, zi2, zi3, zi4, zi5, zi6, zi7, zi8] at g2
    refine gs F rfl rfl rfl h2 rfl rfl fun a F => ?_
    refine gs F rfl rfl rfl h2 rfl rfl fun a F => ?_
    refine gs F rfl rfl rfl h2 rfl rfl fun a F => ?_
    refine gs F rfl rfl rfl h2 rfl rfl fun a F => ?_
    refine dv F (y_pkf h2 rfl rfl rfl) rfl rfl rfl fun a F => ?_
    refine dv F (y_as rfl rfl) rfl rfl rfl fun a F => ?_
    refine dn ?_
    refine tn <| hK6 _ _ ?_
    refine cf F rfl rfl ?_
    refine sq fun K17 hK17 => ?_
    refine rq (C := fun w => St _ w _) Tryz.mixed (by kernel_rfl) (S.drewN 1) ?_
    refine qv F (fun w S => y_mv rfl rfl) rfl rfl rfl fun a F => ?_
    refine qv F (fun w S => y_mv rfl rfl) rfl rfl rfl fun a F => ?_
    refine qv F (fun w S => y_ls rfl rfl Tryz.underlying9) rfl rfl rfl fun a F => ?_
    refine qv F (fun w S => y_lt rfl rfl rfl) rfl rfl rfl fun a F => ?_
    refine qv F (fun w S => y_mv rfl rfl) rfl rfl rfl fun a F => ?_
    refine gsp F 33 rfl (fun h9 => ?_) (fun h9 => ?_)
    ·have g9 := h9
     try simp only [zi1, zi2, zi3, zi4, zi5, zi6, zi7, zi8] at g9
     refine qgv F rfl rfl rfl h9 (fun w S => y_mv rfl rfl) rfl rfl fun a F => ?_
     refine qgv F rfl rfl rfl h9 (fun w S => y_mv rfl rfl) rfl rfl fun a F => ?_
     refine qgv F rfl rfl rfl h9 (fun w S => y_sx rfl rfl rfl Tryz.underlying9 i rfl (by omega)) rfl rfl fun a F => ?_
     refine qgv F rfl rfl rfl h9 (fun w S => y_ie rfl rfl rfl) rfl rfl fun a F => ?_
     refine qgv F rfl rfl rfl h9 (fun w S => y_mv rfl rfl) rfl rfl fun a F => ?_
     refine gsp F 38 rfl (fun h10 => ?_) (fun h10 => ?_)
     ·have g10 := h10
      try simp only [zi1, zi2, zi3, zi4, zi5, zi6, zi7, zi8] at g10
      refine qgs F rfl rfl rfl h10 rfl rfl fun a F => ?_
      refine qgs F rfl rfl rfl h10 rfl rfl fun a F => ?_
      refine qgs F rfl rfl rfl h10 rfl rfl fun a F => ?_
      refine qgs F rfl rfl rfl h10 rfl rfl fun a F => ?_
      refine qgs F rfl rfl rfl h10 rfl rfl fun a F => ?_
      refine qgs F rfl rfl rfl h10 rfl rfl fun a F => ?_
      refine qgs F rfl rfl rfl h10 rfl rfl fun a F => ?_
      refine qgv F rfl rfl rfl h9 (fun w S => y_pkt h10 rfl rfl rfl) rfl rfl fun a F => ?_
      refine qv F (fun w S => y_pkt h9 rfl rfl rfl) rfl rfl rfl fun a F => ?_
      refine qv F (fun w S => y_as rfl rfl) rfl rfl rfl fun a F => ?_
      refine qn fun w S => ?_
      refine tn <| hK17 _ _ ?_
      refine ct F rfl rfl ?_
      refine sq fun K18 hK18 => ?_
      refine rg ?_
      refine dv F (y_mv rfl rfl) rfl rfl rfl fun a F => ?_
      refine dv F (y_add rfl rfl rfl (by omega)) rfl rfl rfl fun a F => ?_
      refine dv F (y_as rfl rfl) rfl rfl rfl fun a F => ?_
      refine dn ?_
      refine tn <| hK18 _ _ ?_
      refine rg ?_
      refine dv F (y_mv rfl rfl) rfl rfl rfl fun a F => ?_
      refine dv F (y_add rfl rfl rfl (by omega)) rfl rfl rfl fun a F => ?_
      refine dv F (y_as rfl rfl) rfl rfl rfl fun a F => ?_
      refine dn ?_
      exact bn <| bn <| ln (by omega) ⟨f, i + 1, k + 1, _, at_, rfl, by omega, by have := oneMu_next p s i k (k + 1) st at_ (by omega); omega, by rw [if_pos (by omega), if_neg (by omega), if_pos (by omega)] at he; exact he, F.sub _ ⟨rfl, rfl, rfl, rfl, rfl, rfl, trivial⟩, S.pick [] _ trivial rfl⟩
     ·have g10 := h10
      try simp only [zi1, zi2, zi3, zi4, zi5, zi6, zi7, zi8] at g10
      refine qgv F rfl rfl rfl h10 (fun w S => y_mv rfl rfl) rfl rfl fun a F => ?_
      refine qgv F rfl rfl rfl h10 (fun w S => y_mv rfl rfl) rfl rfl fun a F => ?_
      refine qgv F rfl rfl rfl h10 (fun w S => y_sx rfl rfl rfl Tryz.underlying9 i rfl (by omega)) rfl rfl fun a F => ?_
      refine qgv F rfl rfl rfl h10 (fun w S => y_mv rfl rfl) rfl rfl fun a F => ?_
      refine qgv F rfl rfl rfl h10 (fun w S => y_mv rfl rfl) rfl rfl fun a F => ?_
      refine qgv F rfl rfl rfl h10 (fun w S => y_sx rfl rfl rfl Tryz.underlying9 k rfl (by omega)) rfl rfl fun a F => ?_
      refine qgv F rfl rfl rfl h10 (fun w S => y_ie rfl rfl rfl) rfl rfl fun a F => ?_
      refine qgv F rfl rfl rfl h9 (fun w S => y_pkf h10 rfl rfl rfl) rfl rfl fun a F => ?_
      refine qv F (fun w S => y_pkt h9 rfl rfl rfl) rfl rfl rfl fun a F => ?_
      refine qv F (fun w S => y_as rfl rfl) rfl rfl rfl fun a F => ?_
      refine qn fun w S => ?_
      refine tn <| hK17 _ _ ?_
      refine cb F rfl (fun h11 => ?_) (fun h11 => ?_)
      ·have g11 := h11
       try simp only [zi1, zi2, zi3, zi4, zi5, zi6, zi7, zi8] at g11
       refine sq fun K19 hK19 => ?_
       refine rg ?_
       refine dv F (y_mv rfl rfl) rfl rfl rfl fun a F => ?_
       refine dv F (y_add rfl rfl rfl (by omega)) rfl rfl rfl fun a F => ?_
       refine dv F (y_as rfl rfl) rfl rfl rfl fun a F => ?_
       refine dn ?_
       refine tn <| hK19 _ _ ?_
       refine rg ?_
       refine dv F (y_mv rfl rfl) rfl rfl rfl fun a F => ?_
       refine dv F (y_add rfl rfl rfl (by omega)) rfl rfl rfl fun a F => ?_
       refine dv F (y_as rfl rfl) rfl rfl rfl fun a F => ?_
       refine dn ?_
       exact bn <| bn <| ln (by omega) ⟨f, i + 1, k + 1, _, at_, rfl, by omega, by have := oneMu_next p s i k (k + 1) st at_ (by omega); omega, by rw [if_pos (by omega), if_neg (by omega), if_pos (by omega)] at he; exact he, F.sub _ ⟨rfl, rfl, rfl, rfl, rfl, rfl, trivial⟩, S.pick [] _ trivial rfl⟩
      ·have g11 := h11
       try simp only [zi1, zi2, zi3, zi4, zi5, zi6, zi7, zi8] at g11
       refine sq fun K20 hK20 => ?_
       refine rg ?_
       refine dv F (y_mv rfl rfl) rfl rfl rfl fun a F => ?_
       refine dv F (y_ge rfl rfl rfl) rfl rfl rfl fun a F => ?_
       refine dv F (y_as rfl rfl) rfl rfl rfl fun a F => ?_
       refine dn ?_
       refine tn <| hK20 _ _ ?_
       refine cb F rfl (fun h12 => ?_) (fun h12 => ?_)
       ·have g12 := h12
        try simp only [zi1, zi2, zi3, zi4, zi5, zi6, zi7, zi8] at g12
        refine sq fun K21 hK21 => ?_
        refine rg ?_
        refine dv F (y_mv rfl rfl) rfl rfl rfl fun a F => ?_
        refine dv F (y_add rfl rfl rfl (by omega)) rfl rfl rfl fun a F => ?_
        refine dv F (y_as rfl rfl) rfl rfl rfl fun a F => ?_
        refine dn ?_
        refine tn <| hK21 _ _ ?_
        refine rg ?_
        refine dv F (y_mv rfl rfl) rfl rfl rfl fun a F => ?_
        refine dv F (y_add rfl rfl rfl (by omega)) rfl rfl rfl fun a F => ?_
        refine dv F (y_mv rfl rfl) rfl rfl rfl fun a F => ?_
        refine dv F (y_as rfl rfl) rfl rfl rfl fun a F => ?_
        refine dv F (y_as rfl rfl) rfl rfl rfl fun a F => ?_
        refine dn ?_
        rw [show st + 1 = ((st.toNat + 1 : Nat) : Int) by omega] at F
        exact bn <| bn <| ln (by omega) ⟨f, st.toNat + 1, at_ + 1, _, at_ + 1, rfl, by omega, by have := oneMu_back p s i k st at_ (by omega); omega, by rw [if_pos (by omega), if_neg (by omega), if_neg (by omega), if_pos (by omega)] at he; exact he, F.sub _ ⟨rfl, rfl, rfl, rfl, rfl, rfl, trivial⟩, S.pick [] _ trivial rfl⟩
       ·have g12 := h12
        try simp only [zi1, zi2, zi3, zi4, zi5, zi6, zi7, zi8] at g12
        refine sq fun K22 hK22 => ?_
        refine rg ?_
        refine dv F (y_as rfl rfl) rfl rfl rfl fun a F => ?_
        refine dn ?_
        refine tn <| hK22 _ _ ?_
        refine wp_ret ?_
        refine br <| br <| lr <| br <| tr <| ?_
        exact rt1 F rfl rfl ⟨by rw [if_pos (by omega), if_neg (by omega), if_neg (by omega), if_neg (by omega)] at he; rw [one, ← he], S.bel⟩
    ·have g9 := h9
     try simp only [zi1, zi2, zi3, zi4, zi5, zi6, zi7, zi8] at g9
     refine qgs F rfl rfl rfl h9 rfl rfl fun a F => ?_
     refine qgs F rfl rfl rfl h9 rfl rfl fun a F => ?_
     refine qgs F rfl rfl rfl h9 rfl rfl fun a F => ?_
     refine qgs F rfl rfl rfl h9 rfl rfl fun a F => ?_
     refine qgs F rfl rfl rfl h9 rfl rfl fun a F => ?_
     refine qgu F rfl rfl rfl rfl rfl fun a F => ?_
     refine qgu F rfl rfl rfl rfl rfl fun a F => ?_
     refine qgu F rfl rfl rfl rfl rfl fun a F => ?_
     refine qgu F rfl rfl rfl rfl rfl fun a F => ?_
     refine qgu F rfl rfl rfl rfl rfl fun a F => ?_
     refine qgu F rfl rfl rfl rfl rfl fun a F => ?_
     refine qgu F rfl rfl rfl rfl rfl fun a F => ?_
     refine qgs F rfl rfl rfl h9 rfl rfl fun a F => ?_
     refine qv F (fun w S => y_pkf h9 rfl rfl rfl) rfl rfl rfl fun a F => ?_
     refine qv F (fun w S => y_as rfl rfl) rfl rfl rfl fun a F => ?_
     refine qn fun w S => ?_
     refine tn <| hK17 _ _ ?_
     refine cf F rfl rfl ?_
     refine sq fun K23 hK23 => ?_
     refine rg ?_
     refine dv F (y_mv rfl rfl) rfl rfl rfl fun a F => ?_
     refine dv F (y_ge rfl rfl rfl) rfl rfl rfl fun a F => ?_
     refine dv F (y_as rfl rfl) rfl rfl rfl fun a F => ?_
     refine dn ?_
     refine tn <| hK23 _ _ ?_
     refine cb F rfl (fun h13 => ?_) (fun h13 => ?_)
     ·have g13 := h13
      try simp only [zi1, zi2, zi3, zi4, zi5, zi6, zi7, zi8] at g13
      refine sq fun K24 hK24 => ?_
      refine rg ?_
      refine dv F (y_mv rfl rfl) rfl rfl rfl fun a F => ?_
      refine dv F (y_add rfl rfl rfl (by omega)) rfl rfl rfl fun a F => ?_
      refine dv F (y_as rfl rfl) rfl rfl rfl fun a F => ?_
      refine dn ?_
      refine tn <| hK24 _ _ ?_
      refine rg ?_
      refine dv F (y_mv rfl rfl) rfl rfl rfl fun a F => ?_
      refine dv F (y_add rfl rfl rfl (by omega)) rfl rfl rfl fun a F => ?_
      refine dv F (y_mv rfl rfl) rfl rfl rfl fun a F => ?_
      refine dv F (y_as rfl rfl) rfl rfl rfl fun a F => ?_
      refine dv F (y_as rfl rfl) rfl rfl rfl fun a F => ?_
      refine dn ?_
      rw [show st + 1 = ((st.toNat + 1 : Nat) : Int) by omega] at F
      exact bn <| bn <| ln (by omega) ⟨f, st.toNat + 1, at_ + 1, _, at_ + 1, rfl, by omega, by have := oneMu_back p s i k st at_ (by omega); omega, by rw [if_pos (by omega), if_neg (by omega), if_neg (by omega), if_pos (by omega)] at he; exact he, F.sub _ ⟨rfl, rfl, rfl, rfl, rfl, rfl, trivial⟩, S.pick [] _ trivial rfl⟩
     ·have g13 := h13
      try simp only [zi1, zi2, zi3, zi4, zi5, zi6, zi7, zi8] at g13
      refine sq fun K25 hK25 => ?_
      refine rg ?_
      refine dv F (y_as rfl rfl) rfl rfl rfl fun a F => ?_
      refine dn ?_
      refine tn <| hK25 _ _ ?_
      refine wp_ret ?_
      refine br <| br <| lr <| br <| tr <| ?_
      exact rt1 F rfl rfl ⟨by rw [if_pos (by omega), if_neg (by omega), if_neg (by omega), if_neg (by omega)] at he; rw [one, ← he], S.bel⟩
  ·have g1 := h1
   try simp only [zi1, zi2, zi3, zi4, zi5, zi6, zi7, zi8] at g1
   refine wp_exit ?_
   refine tx <| lx <| bh <| tn <| hK3 _ _ ?_
   refine sq fun K26 hK26 => ?_
   refine rg ?_
   refine dv F (y_mv rfl rfl) rfl rfl rfl fun a F => ?_
   refine dv F (y_mv rfl rfl) rfl rfl rfl fun a F => ?_
   refine dv F (y_slf rfl rfl rfl Tryz.underlying9 i rfl hi) rfl rfl rfl fun a F => ?_
   refine dc F (c_f rfl rfl rfl Tryz.call184) rfl rfl rfl (trim_c _ _ (by rw [ByteArray.size_extract]; omega)) fun a v w' hr F => ?_
   obtain ⟨rfl, hb⟩ := hr
   replace S := S.call hb
   refine dv F (y_se rfl rfl rfl) rfl rfl rfl fun a F => ?_
   refine dv F (y_as rfl rfl) rfl rfl rfl fun a F => ?_
   refine dn ?_
   refine tn <| hK26 _ _ ?_
   refine wp_ret ?_
   refine ?_
   exact rt1 F rfl rfl ⟨by rw [if_neg (by omega)] at he; rw [one, ← he]; exact trim_eq p i, S.bel⟩
end Go.Proofs.YtgcmddaibnimjaaGreatDoor
namespace Go.Eng
open Go.RowKit
def notDefer : Op → Bool
 | .defer _ => false
 | _ => true
abbrev WF (ro : Option Nat) : Fence := { Fence.wide with round := ro }
section
variable {P : Program} {Q : Exit → Act → World → Prop} {a : Act} {w w' : World} {m : Nat} {ro : Option Nat} {o : Oper} {ops : Array Oper}
theorem calls_round {f : FuncId} {args : Array Value} {R : Ending → World → Prop} (h : Calls P f args w R) : CallsIn (WF ro) m P f args w R := (callsIn_wide.2 h : CallsIn Fence.wide m P f args w R)
theorem liftOp {K K' : Act → World → Prop} (hp : notDefer o.op = true) (hK : ∀ a w, K a w → K' a w) (h : o.wp P a w K Q) : o.wpIn (WF ro) m P a w K' Q := by
 refine ⟨fun _ _ => trivial, ?_⟩
 have e : o.semAt (WF ro).round a.eval = execOp a.eval o := Oper.semAt_eq _ _ _ fun c hc => by rw [hc] at hp; cases hp
 rw [e]
 unfold Oper.wp at h
 revert h
 generalize (execOp a.eval o).run P w = res
 intro h
 cases res with
 | ok n w' =>
  cases n with
  | value v => exact hK _ _ h
  | skip => exact hK _ _ h
  | defer d => exact hK _ _ h
  | enter f args =>
   refine ⟨fun h => by simp [Fence.wide] at h, calls_round (Calls.mono h fun e w2 he => ?_)⟩
   cases e with
   | returned v => exact hK _ _ he
   | panicked c => exact he
   | outgrown => exact he
  | row row args =>
   refine ⟨fun h => by simp [Fence.wide] at h, fun c cs _ => ?_⟩
   obtain ⟨v, w2, hv, hs⟩ := h c cs
   exact ⟨v, w2, hK _ _ hv, stepsIn_wide.2 hs⟩
  | _ => exact h.elim
 | halt s w' =>
  cases s with
  | panic v => exact h
  | _ => exact h.elim
theorem liftList (hQ : ∀ a w, ¬ Q .outgrown a w) : ∀ {l : List Oper} {a : Act} {w : World}, (l.all fun o => notDefer o.op) = true → wpList P ops Q l a w → wpListIn (WF ro) m P ops Q l a w
 | [], _, _, _, h => h
 | o :: l, a, w, hp, h => by
  simp only [List.all_cons, Bool.and_eq_true] at hp
  simp only [wpList] at h
  simp only [wpListIn]
  split
  ·rename_i hw
   rw [if_pos hw] at h
   exact liftOp hp.1 (fun a w h => liftList hQ hp.2 h) (h.resolve_right fun ⟨_, a, w, h⟩ => hQ a w h)
  ·rename_i hw
   rw [if_neg hw] at h
   exact ⟨fun _ _ => trivial, liftList hQ hp.2 h⟩
theorem rgI {id : Nat} {l : List Oper} (hQ : ∀ a w, ¬ Q .outgrown a w) (hp : (l.all fun o => notDefer o.op) = true) (h : wpList P l.toArray Q l a w) : (Code.region id l.toArray false).wpIn (WF ro) m P Q a w := wpIn_region_lit (liftList hQ hp h)
theorem liftAny (hQ : ∀ a w, ¬ Q .outgrown a w) {l : List Oper} (hp : (l.all fun o => notDefer o.op) = true) : ∀ (fuel : Nat) (listed : Array Bool) (a : Act) (w : World), wpAny P .any l.toArray Q fuel listed a w → wpAnyIn (WF ro) m P .any l.toArray Q fuel listed a w
 | 0, _, _, _, h => h
 | fuel + 1, listed, a, w, h => by
  refine ⟨h.1, fun i hi => ?_⟩
  have h2 := h.2 i hi
  unfold wpOp at h2
  unfold wpOpIn
  cases ho : l.toArray[i]? with
  | none => rw [ho] at h2; exact liftAny hQ hp fuel _ _ _ h2
  | some o =>
   rw [ho] at h2
   simp only at h2 ⊢
   have hpo : notDefer o.op = true := by
    have hm : o ∈ l := by
     have := Array.mem_of_getElem? ho
     simpa using this
    exact List.all_eq_true.1 hp o hm
   split
   ·rename_i hw
    rw [if_pos hw] at h2
    exact liftOp hpo (fun a w h => liftAny hQ hp fuel _ _ _ h) (h2.resolve_right fun ⟨_, a, w, h⟩ => hQ a w h)
   ·rename_i hw
    rw [if_neg hw] at h2
    exact ⟨fun _ _ => trivial, liftAny hQ hp fuel _ _ _ h2⟩
theorem rdI {id : Nat} {l : List Oper} (hm : P.follows .mixedOrders = true) (hQ : ∀ a w, ¬ Q .outgrown a w) (hp : (l.all fun o => notDefer o.op) = true)
  (h : wpAny P .any l.toArray Q l.toArray.size (Array.replicate l.toArray.size false) a { w with drawn := w.drawn + 1 }) : (Code.region id l.toArray true).wpIn (WF ro) m P Q a w := wpIn_region_any hm (liftAny hQ hp _ _ _ _ h)
theorem sqI {x y : Code} (h : ∀ K : Act → World → Prop, (∀ a w, y.wpIn (WF ro) m P Q a w → K a w) → x.wpIn (WF ro) m P (Exit.then K Q) a w) : (Code.seq x y).wpIn (WF ro) m P Q a w := wpIn_seq_k h
theorem blI {id : Nat} {c : Code} (h : c.wpIn (WF ro) m P (Exit.inBlock id Q) a w) : (Code.block id c).wpIn (WF ro) m P Q a w := wpIn_block h
variable {n : Nat} {l : List (Nat × Value)}
theorem cbI {c : Operand} {x y : Code} {t : Bool} (F : Fr n a l) (hc : evl l c = some (.bool t)) (ht : t = true → x.wpIn (WF ro) m P Q a w) (hf : t = false → y.wpIn (WF ro) m P Q a w) : (Code.cond c x y).wpIn (WF ro) m P Q a w := wpIn_cond_split (F.ev hc) ht hf
theorem ctI {c : Operand} {x y : Code} {t : Bool} (F : Fr n a l) (hc : evl l c = some (.bool t)) (h : t = true) (ht : x.wpIn (WF ro) m P Q a w) : (Code.cond c x y).wpIn (WF ro) m P Q a w := by subst h; exact wpIn_cond_true (F.ev hc) ht
theorem cfI {c : Operand} {x y : Code} {t : Bool} (F : Fr n a l) (hc : evl l c = some (.bool t)) (h : t = false) (hf : y.wpIn (WF ro) m P Q a w) : (Code.cond c x y).wpIn (WF ro) m P Q a w := by subst h; exact wpIn_cond_false (F.ev hc) hf
theorem liftPre (hQ : ∀ a w, ¬ Q .outgrown a w) : ∀ {pre rest : List Oper} {a : Act} {w : World}, (pre.all fun o => notDefer o.op) = true → wpList P ops (Exit.then (fun a w => wpListIn (WF ro) m P ops Q rest a w) Q) pre a w → wpListIn (WF ro) m P ops Q (pre ++ rest) a w
 | [], _, _, _, _, h => h
 | o :: l, rest, a, w, hp, h => by
  simp only [List.all_cons, Bool.and_eq_true] at hp
  simp only [wpList] at h
  show wpListIn (WF ro) m P ops Q (o :: (l ++ rest)) a w
  simp only [wpListIn]
  split
  ·rename_i hw
   rw [if_pos hw] at h
   refine (liftOp (Q := Q) hp.1 (fun a w h => liftPre hQ hp.2 h) (?_ : o.wp P a w (wpList P ops (Exit.then (fun a w => wpListIn (WF ro) m P ops Q rest a w) Q) l) Q))
   have h2 := h.resolve_right fun ⟨_, a, w, h⟩ => hQ a w h
   revert h2
   unfold Oper.wp
   generalize (execOp a.eval o).run P w = res
   intro h2
   cases res with
   | ok n w' => cases n <;> exact h2
   | halt s w' => cases s <;> exact h2
  ·rename_i hw
   rw [if_neg hw] at h
   exact ⟨fun _ _ => trivial, liftPre hQ hp.2 h⟩
end
end Go.Eng
namespace Go.Eng
open Go.RowKit
section
variable {w0 w w' : World} {hs : List Res}
theorem St.rot1 {x : Res} (S : St w0 w (hs ++ [x])) : St w0 w (x :: hs) := by
 have h0 : nth (hs ++ [x]) hs.length = some x := by rw [nth_eq]; simp
 have h1 : ∀ i r, nth hs i = some r → nth (hs ++ [x]) i = some r ∧ i < hs.length := fun i r h => by
  rw [nth_eq] at h
  have := (List.getElem?_eq_some_iff.1 h).1
  exact ⟨by rw [nth_eq, List.getElem?_append_left this]; exact h, this⟩
 refine ⟨S.bel, fun i r h => ?_, fun i j r s h h' hne => ?_⟩
 ·cases i with
  | zero => cases h; exact S.own _ _ h0
  | succ i => exact S.own _ _ (h1 i r h).1
 ·cases i with
  | zero =>
   cases h
   cases j with
   | zero => exact absurd rfl hne
   | succ j => have := h1 j s h'; exact S.sep _ _ _ _ h0 this.1 (by omega)
  | succ i =>
   have hi := h1 i r h
   cases j with
   | zero => cases h'; exact S.sep _ _ _ _ hi.1 h0 (by omega)
   | succ j => have hj := h1 j s h'; exact S.sep _ _ _ _ hi.1 hj.1 (by omega)
theorem St.tail {x : Res} (S : St w0 w (x :: hs)) : St w0 w hs :=
 ⟨S.bel, fun i r h => S.own (i + 1) r h, fun i j r s h h' hne => S.sep (i + 1) (j + 1) r s h h' (by omega)⟩
theorem putObj_keeps {L : Nat} {o : Obj} : Keeps (fun k => k = L) w (w.putObj L o) :=
 ⟨rfl, rfl, rfl, by simp, fun k hk hn => World.putObj_heap_other hn⟩
theorem St.put0 {L : Nat} {o o' : Obj} (S : St w0 w (ob L o :: hs)) : St w0 (w.putObj L o') (ob L o' :: hs) := by
 have hL : L < w.heap.size := (S.own 0 _ rfl).2 L rfl |>.2
 exact S.turn (i := 0) rfl (show Keeps (ob L o).fp w (w.putObj L o') from putObj_keeps) (ob L o') (World.putObj_heap_same hL) fun k hk => ⟨.inl hk, by have : k = L := hk; subst this; simpa using hL⟩
end
def parL : List Nat → List Value → List (Nat × Value) → List (Nat × Value)
 | p :: ps, v :: vs, l => parL ps vs ((p, v) :: l)
 | _, _, l => l
theorem Fr.par {n : Nat} : ∀ {ps : List Nat} {vs : List Value} {a : Act} {l : List (Nat × Value)}, Fr n a l → (ps.all fun p => Nat.blt p n) = true → Fr n { tmps := (ps.zip vs).foldl (fun t (p, v) => t.setIfInBounds p v) a.tmps, defers := [] } (parL ps vs l)
 | [], vs, a, l, F, _ => ⟨F.size, rfl, F.get⟩
 | p :: ps, [], a, l, F, _ => ⟨F.size, rfl, F.get⟩
 | p :: ps, v :: vs, a, l, F, h => by
  simp only [List.all_cons, Bool.and_eq_true] at h
  exact Fr.par (ps := ps) (vs := vs) (a := a.put (some p) v) (l := (p, v) :: l) (F.put h.1 v) h.2
def IterC (P : Program) (w0 : World) (gf : Nat) (lb : List Value) (N : Nat) (vals : Nat → List Value) (Inv Mid : Nat → List Res → Prop) (End : List Res → Prop) : Prop :=
 ∀ (r : Nat) (x y : Res) (Jx : World → Prop) (W1 : World) (hs : List Res),
  (∀ i hs W, i < N → Inv i hs → St w0 W (x :: y :: hs) → YieldAt Fence.wide 4 P r (vals i).toArray W fun e W' =>
   (e = .returned (.bool true) ∧ ∃ hs', Mid (i + 1) hs' ∧ St w0 W' (x :: y :: hs')) ∨ (e = .returned (.bool false) ∧ Jx W')) →
  Inv 0 hs → St w0 W1 (x :: y :: hs) →
  CallsIn Fence.wide 5 P gf ([Value.func (.yield r) #[] #[]] ++ lb).toArray W1 fun e W' => (∃ v, e = .returned v) ∧ ((∃ hs', End hs' ∧ St w0 W' (x :: y :: hs')) ∨ Jx W')
def rpost (w0 : World) (x y : Res) (M : List Res → Prop) (X : Code → List Res → Prop) : Exit → Act → World → Prop
 | .normal, _, W => ∃ hs, M hs ∧ St w0 W (x :: y :: hs)
 | .ret, _, W => ∃ hs, X .ret hs ∧ St w0 W (x :: y :: hs)
 | .exit id, _, W => ∃ hs, X (.exit id) hs ∧ St w0 W (x :: y :: hs)
 | _, _, _ => False
theorem rf {P : Program} {Q : Exit → Act → World → Prop} {a : Act} {w w0 : World} {n : Nat} {l : List (Nat × Value)} {hs : List Res} (F : Fr n a l) (S : St w0 w hs)
  {g : Operand} {ps : List Nat} {assign body : Code} {gf : Nat} {lb : List Value} (hg : evl l g = some (.func (.func gf) #[] lb.toArray)) (he : ∀ (args : Array Value) (w : World), (callFunc gf args).run P w = .ok (.enter gf args) w)
  (hpn : (ps.all fun p => Nat.blt p n) = true) (N : Nat) (vals : Nat → List Value) (hps : ∀ i, (vals i).length = ps.length)
  (Inv Mid : Nat → List Res → Prop) (End : List Res → Prop) (X : Code → List Res → Prop) (h0 : Inv 0 hs)
  (hit : IterC P w0 gf lb N vals Inv Mid End) (A : Nat → List Res → Act → Prop)
  (hassign : ∀ (r i : Nat) (hs : List Res) (x y : Res) (a1 : Act) (W : World), i < N → Inv i hs → Fr n a1 (parL ps (vals i) l) → St w0 W (x :: y :: hs) →
   assign.wpIn (WF (some r)) 4 P (Exit.then (fun a2 W2 => ∃ hs2, A i hs2 a2 ∧ St w0 W2 (x :: y :: hs2)) fun _ _ _ => False) a1 W)
  (hbody : ∀ (r i : Nat) (hs : List Res) (x y : Res) (a2 : Act) (W : World), i < N → A i hs a2 → St w0 W (x :: y :: hs) → body.wpIn (WF (some r)) 4 P (rpost w0 x y (Mid (i + 1)) X) a2 W)
  (hdone : ∀ (D : Nat) (hs : List Res) (W : World), End hs → St w0 W (ob D (.deferred (some [])) :: hs) → Q .normal { a with defers := [{ target := .collected D, args := #[] }] } W)
  (hstop : ∀ (D : Nat) (c : Code) (hs : List Res) (W : World), X c hs → St w0 W (ob D (.deferred (some [])) :: hs) → c.wp P Q { a with defers := [{ target := .collected D, args := #[] }] } W) :
  (Code.rangeFunc g ps.toArray assign body).wp P Q a w := by
 refine (wpIn_wide (n := 6)).1 (wpIn_rangeFunc ?_)
 intro fn hfn
 obtain ⟨rec, hrec⟩ : ∃ rec : LoopState → Option Code → Loop, rec = fun st pe => { state := st, pending := pe, fn, tmps := a.tmps, params := ps.toArray, assign, body, defers := w.heap.size } := ⟨_, rfl⟩
 obtain ⟨W1, hW1⟩ : ∃ W1, W1 = (w.alloc (.deferred (some []))).alloc (.loop (rec .ready none)) := ⟨_, rfl⟩
 have S1 : St w0 ((w.alloc (.deferred (some []))).alloc (.loop (rec .ready none))) (ob (w.heap.size + 1) (.loop (rec .ready none)) :: ob w.heap.size (.deferred (some [])) :: hs) := by
  have A1 := (S.alloc (.deferred (some []))).rot1
  have A2 := (A1.alloc (.loop (rec .ready none))).rot1
  rw [show (w.alloc (.deferred (some []))).heap.size = w.heap.size + 1 by simp] at A2
  exact A2
 rw [← hW1] at S1
 refine ⟨w.heap.size + 1, [{ target := .collected w.heap.size, args := #[] }], W1, { target := .fn (.func gf) lb.toArray, args := #[.func (.yield (w.heap.size + 1)) #[] #[]] }, W1, gf,
  ([Value.func (.yield (w.heap.size + 1)) #[] #[]] ++ lb).toArray, W1, ?_, ?_, fun _ _ => trivial, ?_, fun h => by simp [Fence.wide] at h, ?_⟩
 ·rw [hW1, hrec]; exact run_enterLoop_outer _ _ _ _ _
 ·have hev := F.ev hg
  simp only [resolve, rangeCall, hev]
  simp [go_sem]
 ·simp [invoke, go_sem, he]
 ·rw [F.defers]
  refine (hit (w.heap.size + 1) _ _ (fun W => ∃ c hs', X c hs' ∧ St w0 W (ob (w.heap.size + 1) (.loop (rec .done (some c))) :: ob w.heap.size (.deferred (some [])) :: hs')) _ hs ?_ h0 S1).mono ?_
  ·intro i hs1 W hi hI SW
   have hl : W.heap[w.heap.size + 1]? = some (.loop (rec .ready none)) := SW.ok (i := 0) rfl
   have hy := run_yield (P := P) (args := (vals i).toArray) hl (by rw [hrec]; simpa using hps i)
   refine ⟨fn, _, assign, body, by rw [hrec] at hy; exact hy, roundIn_of_wpIn hfn ?_⟩
   have hzip : ((rec .ready none).params.zip (vals i).toArray).foldl (fun tmps (x : Nat × Value) => tmps.setIfInBounds x.1 x.2) (rec .ready none).tmps = (ps.zip (vals i)).foldl (fun t (x : Nat × Value) => t.setIfInBounds x.1 x.2) a.tmps := by
    rw [hrec]; simp
   rw [hrec] at hzip
   have Fp := Fr.par (vs := vals i) F hpn
   refine wpIn_mono (hassign _ i hs1 _ _ _ W hi hI (by rw [show (fun (t : Array Value) (x : Nat × Value) => match x with | (t_1, a) => t.setIfInBounds t_1 a) = fun t x => t.setIfInBounds x.1 x.2 from rfl, hzip]; exact Fp) SW) ?_
   intro e a2 W2 hq
   cases e with
   | normal =>
    obtain ⟨hs2, hA, S2⟩ := hq
    have hl2 : W2.heap[w.heap.size + 1]? = some (.loop (rec .ready none)) := S2.ok (i := 0) rfl
    have hbr := run_beginRound (P := P) hl2 (by rw [hrec])
    refine ⟨_, hbr, wpIn_mono (hbody _ i hs2 _ _ a2 _ hi hA (S2.put0)) ?_⟩
    have fin : ∀ (jump : Option Code) (W3 : World) (hs3 : List Res), St w0 W3 (ob (w.heap.size + 1) (.loop { rec .ready none with state := .busy }) :: ob w.heap.size (.deferred (some [])) :: hs3) →
      (Instr.endRound (w.heap.size + 1) jump).run P W3 = .ok (.bool jump.isNone) (W3.putObj (w.heap.size + 1) (.loop (rec (if jump.isNone then .ready else .done) jump))) ∧
      St w0 (W3.putObj (w.heap.size + 1) (.loop (rec (if jump.isNone then .ready else .done) jump))) (ob (w.heap.size + 1) (.loop (rec (if jump.isNone then .ready else .done) jump)) :: ob w.heap.size (.deferred (some [])) :: hs3) := fun jump W3 hs3 S3 => by
     have hl3 : W3.heap[w.heap.size + 1]? = some (.loop { rec .ready none with state := .busy }) := S3.ok (i := 0) rfl
     have := run_endRound (P := P) jump hl3
     refine ⟨?_, S3.put0⟩
     rw [this, hrec]
    intro e a3 W3 hp
    cases e with
    | normal =>
     obtain ⟨hs3, hM, S3⟩ := hp
     obtain ⟨h1, h2⟩ := fin none W3 hs3 S3
     exact ⟨_, _, h1, .inl ⟨rfl, hs3, hM, h2⟩⟩
    | ret =>
     obtain ⟨hs3, hM, S3⟩ := hp
     obtain ⟨h1, h2⟩ := fin (some .ret) W3 hs3 S3
     exact ⟨_, _, h1, .inr ⟨rfl, .ret, hs3, hM, h2⟩⟩
    | exit id =>
     obtain ⟨hs3, hM, S3⟩ := hp
     obtain ⟨h1, h2⟩ := fin (some (.exit id)) W3 hs3 S3
     exact ⟨_, _, h1, .inr ⟨rfl, .exit id, hs3, hM, h2⟩⟩
    | goto t => exact hp.elim
    | panic c => exact hp.elim
    | outgrown => exact hp.elim
   | ret => exact hq.elim
   | exit id => exact hq.elim
   | goto t => exact hq.elim
   | panic c => exact hq.elim
   | outgrown => exact hq.elim
  ·rintro e W2 ⟨⟨v, rfl⟩, hJ⟩
   rcases hJ with ⟨hs2, hE, S2⟩ | ⟨c, hs2, hX, S2⟩
   ·have hl : W2.heap[w.heap.size + 1]? = some (.loop (rec .ready none)) := S2.ok (i := 0) rfl
    refine ⟨none, _, ?_, hdone _ hs2 _ hE (S2.put0 (o' := .loop { rec .ready none with state := .exhausted })).tail⟩
    have := run_endLoop (P := P) hl (by rw [hrec]; simp)
    rw [this, hrec]
   ·have hl : W2.heap[w.heap.size + 1]? = some (.loop (rec .done (some c))) := S2.ok (i := 0) rfl
    refine ⟨some c, _, ?_, wpIn_wide.2 (hstop _ c hs2 _ hX (S2.put0 (o' := .loop { rec .done (some c) with state := .exhausted })).tail)⟩
    have := run_endLoop (P := P) hl (by rw [hrec]; simp)
    rw [this, hrec]
end Go.Eng
