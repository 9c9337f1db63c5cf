/- A part of the proof of a law of this seat. No condition of its own. -/
import Derived.Test.YtgcmddaibnimjaaGreatDoorM2
import Derived.Sort.Row
import Derived.Sort.Grow
import Derived.Sort.EncStr
import Derived.Lib.ItoaLen
import Derived.IntWalk
set_option linter.unusedVariables false
set_option linter.unusedSimpArgs false
set_option maxRecDepth 8000
set_option maxHeartbeats 4000000
namespace Go.Eng
open Go.RowKit
def nl : Res := ⟨fun _ => False, fun _ => True, fun _ _ _ h => h⟩
section
variable {w0 w w' : World} {hs : List Res}
theorem upd2_get {α : Type} {l : List α} {i j q : Nat} {x y v u t : α} (hi : nth l i = some x) (hj : nth l j = some y) (hij : i ≠ j) (h : nth (upd (upd l i v) j u) q = some t) :
  (q = j ∧ t = u) ∨ (q = i ∧ t = v) ∨ (q ≠ i ∧ q ≠ j ∧ nth l q = some t) := by
 by_cases hqj : j = q
 ·subst hqj
  rw [nth_upd_eq _ _ y _ (by rw [nth_upd_ne _ _ _ _ hij]; exact hj)] at h
  exact .inl ⟨rfl, (Option.some.inj h).symm⟩
 ·rw [nth_upd_ne _ _ _ _ hqj] at h
  by_cases hqi : i = q
  ·subst hqi
   rw [nth_upd_eq _ _ _ _ hi] at h
   exact .inr (.inl ⟨rfl, (Option.some.inj h).symm⟩)
  ·rw [nth_upd_ne _ _ _ _ hqi] at h
   exact .inr (.inr ⟨Ne.symm hqi, Ne.symm hqj, h⟩)
theorem St.merge {i j : Nat} {r s r' : Res} (S : St w0 w hs) (hi : nth hs i = some r) (hj : nth hs j = some s) (hij : i ≠ j) (ho : r'.ok w) (hf : ∀ k, r'.fp k → r.fp k ∨ s.fp k) : St w0 w (upd (upd hs i r') j nl) := by
 have bd : ∀ k, r'.fp k → w0.heap.size ≤ k ∧ k < w.heap.size := fun k hk => by
  rcases hf k hk with h | h
  ·exact (S.own i r hi).2 k h
  ·exact (S.own j s hj).2 k h
 have key : ∀ q t, nth hs q = some t → q ≠ i → q ≠ j → ∀ k, r'.fp k → ¬ t.fp k := fun q t hq hqi hqj k hk ht => by
  rcases hf k hk with h | h
  ·exact S.sep i q r t hi hq (Ne.symm hqi) k h ht
  ·exact S.sep j q s t hj hq (Ne.symm hqj) k h ht
 refine ⟨S.bel, fun q t h => ?_, fun q q' t t' h h' hne k hk hk' => ?_⟩
 ·rcases upd2_get hi hj hij h with ⟨_, rfl⟩ | ⟨_, rfl⟩ | ⟨_, _, h⟩
  ·exact ⟨trivial, fun k hk => hk.elim⟩
  ·exact ⟨ho, bd⟩
  ·exact S.own q t h
 ·rcases upd2_get hi hj hij h with ⟨_, rfl⟩ | ⟨h1, rfl⟩ | ⟨h1, h2, h⟩
  ·exact hk.elim
  ·rcases upd2_get hi hj hij h' with ⟨_, rfl⟩ | ⟨h2, rfl⟩ | ⟨h2, h3, h'⟩
   ·exact hk'.elim
   ·omega
   ·exact key q' t' h' h2 h3 k hk hk'
  ·rcases upd2_get hi hj hij h' with ⟨_, rfl⟩ | ⟨_, rfl⟩ | ⟨_, _, h'⟩
   ·exact hk'.elim
   ·rename_i hq _
    exact key q t hq h1 h2 k hk' hk
   ·rename_i hq _ _ _
    exact S.sep q q' t t' (by assumption) h' hne k hk hk'
theorem Hp.fresh {H : Hp} {i j b : Nat} {s : Res} (S : St w0 w hs) (hi : nth hs i = some (fz H)) (hj : nth hs j = some s) (hij : i ≠ j) (hb : s.fp b) : H b = none := by
 cases h : H b with
 | none => rfl
 | some o => exact absurd hb (S.sep i j _ _ hi hj hij b (by show (H b).isSome = true; rw [h]; rfl))
theorem Hp.le_add {H : Hp} {b : Nat} {o : Obj} (h : H b = none) : H.le (H.add b o) := fun k o' hk => by
 by_cases e : k = b
 ·subst e; rw [h] at hk; cases hk
 ·simp only [Hp.add, if_neg e]; exact hk
theorem fz_add_ok {H : Hp} {b : Nat} {o : Obj} (h : (fz H).ok w) (hb : w.heap[b]? = some o) : (fz (H.add b o)).ok w := fun k o' hk => by
 by_cases e : k = b
 ·subst e; simp only [Hp.add, if_true] at hk; cases hk; exact hb
 ·simp only [Hp.add, if_neg e] at hk; exact h k o' hk
theorem St.frz {H : Hp} {b e i j : Nat} {cs : List Value} (S : St w0 w hs) (hi : nth hs i = some (fz H)) (hj : nth hs j = some (bk b e cs)) (hij : i ≠ j) :
  ∃ K : Hp, H.le K ∧ K b = some (.cells cs.toArray e (0, 0)) ∧ St w0 w (upd (upd hs i (fz K)) j nl) := by
 have hb : w.heap[b]? = some (.cells cs.toArray e (0, 0)) := S.ok hj
 refine ⟨H.add b (.cells cs.toArray e (0, 0)), Hp.le_add (Hp.fresh S hi hj hij rfl), Hp.add_self _ _ _, S.merge hi hj hij (fz_add_ok (S.ok hi) hb) fun k hk => ?_⟩
 by_cases e' : k = b
 ·exact .inr e'
 ·refine .inl ?_
  have hk' : (Hp.add H b (.cells cs.toArray e (0, 0)) k).isSome = true := hk
  show (H k).isSome = true
  simpa [Hp.add, e'] using hk'
def FzS {α : Type} (H : Hp) (z : Nat) (enc : α → List Value) (A : Option Addr) (xs : List α) : Prop :=
 xs ≠ [] → ∃ b o cs t fr, A = some ⟨b, o, none⟩ ∧ H b = some (.cells cs t fr) ∧ ∀ j x, xs[j]? = some x → ∀ i u, (enc x)[i]? = some u → cs[o + j * z + i]? = some u
variable {α : Type} {z : Nat} {enc : α → List Value} {A : Option Addr} {xs : List α}
theorem FzS.le {H K : Hp} (h : FzS H z enc A xs) (hK : H.le K) : FzS K z enc A xs := fun hne => by
 obtain ⟨b, o, cs, t, fr, h1, h2, h3⟩ := h hne
 exact ⟨b, o, cs, t, fr, h1, hK _ _ h2, h3⟩
theorem FzS.nil {H : Hp} : FzS H z enc A ([] : List α) := fun h => absurd rfl h
theorem FzS.sl {H : Hp} {i : Nat} (h : FzS H z enc A xs) (S : St w0 w hs) (hi : nth hs i = some (fz H)) : Sl w z enc A xs := fun hne => by
 obtain ⟨b, o, cs, t, fr, h1, h2, h3⟩ := h hne
 have hb := S.ok hi b _ h2
 exact ⟨b, o, h1, (Array.getElem?_eq_some_iff.1 hb).1, fun j x hj i u hu => by simp [World.cell?, hb, h3 j x hj i u hu]⟩
theorem St.frzOw {H : Hp} {e i j c : Nat} (S : St w0 w hs) (hi : nth hs i = some (fz H)) (hj : nth hs j = some (ow e z (.slice A xs.length c) xs.length (xs.flatMap enc))) (hij : i ≠ j) (hz : ∀ x, (enc x).length = z) :
  ∃ K : Hp, H.le K ∧ FzS K z enc A xs ∧ St w0 w (upd (upd hs i (fz K)) j nl) := by
 obtain ⟨A', c', hv, h1, h2, h3, h4⟩ := S.ok hj
 cases hv
 rcases h4 with ⟨rfl, rfl⟩ | ⟨g, off, cur, fr, rfl, hg, hfr, hcur, hxs⟩
 ·have : xs = [] := List.eq_nil_of_length_eq_zero (by omega)
  subst this
  exact ⟨H, Hp.le_refl _, FzS.nil, S.merge hi hj hij (S.ok hi) fun k hk => .inl hk⟩
 ·refine ⟨H.add g (.cells cur e fr), Hp.le_add (Hp.fresh S hi hj hij rfl), fun _ => ⟨g, off, cur, e, fr, rfl, Hp.add_self _ _ _, fun j' x hx i' u hu => ?_⟩, S.merge hi hj hij (fz_add_ok (S.ok hi) hg) fun k hk => ?_⟩
  ·rw [Nat.add_assoc]; exact hxs _ _ (get_flat hz xs j' x i' u hx hu)
  ·by_cases e' : k = g
   ·subst e'; exact .inr rfl
   ·refine .inl ?_
    have hk' : (Hp.add H g (.cells cur e fr) k).isSome = true := hk
    show (H k).isSome = true
    simpa [Hp.add, e'] using hk'
theorem ow_take {i e z n c m : Nat} {A : Option Addr} {xs : List Value} (S : St w0 w hs) (h : nth hs i = some (ow e z (.slice A n c) n xs)) (hm : m ≤ n) :
  St w0 w (upd hs i (ow e z (.slice A m c) m (xs.take (m * z)))) := by
 obtain ⟨A_, c_, hv, h1, h2, h3, h4⟩ := S.ok h
 cases hv
 have hmn : m * z ≤ n * z := Nat.mul_le_mul_right _ hm
 refine S.turn h (keeps_of_below (Below.refl _ _)) _ ⟨_, _, rfl, by rw [List.length_take]; omega, by omega, h3, ?_⟩ fun k hk => ?_
 ·rcases h4 with h4 | ⟨g, off, cur, fr, rfl, hg, hfr, hcur, hxs⟩
  ·exact .inl h4
  ·refine .inr ⟨g, off, cur, fr, rfl, hg, hfr, hcur, fun j u hj => hxs j u ?_⟩
   rw [List.getElem?_take] at hj
   split at hj
   ·exact hj
   ·cases hj
 ·have hk0 : Value.ownBlock (.slice A m c) = some k := hk
  have hk' : Value.ownBlock (.slice A n c) = some k := by cases A <;> first | (simp [Value.ownBlock] at hk0; done) | simpa [Value.ownBlock] using hk0
  exact ⟨.inl hk', ((S.own i _ h).2 k hk').2⟩
end
end Go.Eng
namespace Go.Proofs.YtgcmddaibnimjaaGreatDoor
open Go.RowKit Go.Eng
structure Cmd where
 words : List ByteArray
 rest : ByteArray
inductive Th where
 | rd
 | try_
 | scan (w : ByteArray)
inductive Task where
 | cmd (c : Cmd)
 | got (p : ByteArray) (t : Th)
 | line (s w : ByteArray)
structure RS where
 todo : List Task
 buf : ByteArray
 known : List Kn
 asks : ByteArray
 waits : Bool
 kind : Int
 path : ByteArray
 data : ByteArray
 why : Int
 seen : List ByteArray
def eB : ByteArray := ⟨#[]⟩
def RS.fail (σ : RS) (e : Int) : RS := { σ with kind := 4, path := eB, data := eB, why := e }
def RS.add (σ : RS) (s : ByteArray) : RS := if 65536 < σ.buf.size + s.size then σ.fail 6 else { σ with buf := σ.buf ++ s }
def kfind (l : List Kn) (p : ByteArray) : Option Kn := l.find? fun k => decide (k.path = p)
def RS.then_ (σ : RS) (t : Th) (k : Kn) : RS :=
 match t with
 | .rd => if k.is then σ.add k.data else σ.fail 10
 | .try_ => if k.is then σ.add k.data else σ
 | .scan w => if k.is then { σ with todo := σ.todo ++ (lines k.data).reverse.map fun s => Task.line s w } else σ.fail 10
def RS.ask (σ : RS) (p : ByteArray) (t : Th) : RS :=
 match kfind σ.known p with
 | some k => σ.then_ t k
 | none => if 500 ≤ σ.known.length then σ.fail 6 else { σ with asks := p, waits := true, todo := σ.todo ++ [.got p t] }
def RS.scan (σ : RS) (p w : ByteArray) : RS := RS.ask { σ with seen := σ.seen ++ [p] } p (.scan w)
def k0 : Kn := ⟨eB, false, eB⟩
def RS.got (σ : RS) (p : ByteArray) (t : Th) : RS := σ.then_ t ((kfind σ.known p).getD k0)
def seenB (l : List ByteArray) (p : ByteArray) : Bool := l.any fun x => decide (x = p)
def RS.line (σ : RS) (s w : ByteArray) : RS :=
 if (words s).length ≠ 2 ∨ ¬ (words s)[0]? = some w ∨ pMay (((words s)[1]?).getD eB) = false then σ.add (s ++ nlB)
 else if seenB σ.seen (((words s)[1]?).getD eB) = true then σ else σ.scan (((words s)[1]?).getD eB) w
def All2 {α β : Type} (R : α → β → Prop) : List α → List β → Prop
 | [], [] => True
 | x :: xs, y :: ys => R x y ∧ All2 R xs ys
 | _, _ => False
theorem All2.len {α β : Type} {R : α → β → Prop} : ∀ {xs : List α} {ys : List β}, All2 R xs ys → xs.length = ys.length
 | [], [], _ => rfl
 | x :: xs, y :: ys, h => by rw [List.length_cons, List.length_cons, h.2.len]
 | [], _ :: _, h => h.elim
 | _ :: _, [], h => h.elim
theorem All2.mono {α β : Type} {R T : α → β → Prop} : ∀ {xs : List α} {ys : List β}, (∀ x ∈ xs, ∀ y, R x y → T x y) → All2 R xs ys → All2 T xs ys
 | [], [], _, _ => trivial
 | x :: xs, y :: ys, hm, h => ⟨hm x (List.mem_cons_self ..) y h.1, All2.mono (fun x hx => hm x (List.mem_cons_of_mem _ hx)) h.2⟩
 | [], _ :: _, _, h => h.elim
 | _ :: _, [], _, h => h.elim
theorem All2.snoc {α β : Type} {R : α → β → Prop} {x : α} {y : β} : ∀ {xs : List α} {ys : List β}, All2 R xs ys → R x y → All2 R (xs ++ [x]) (ys ++ [y])
 | [], [], _, hx => ⟨hx, trivial⟩
 | _ :: _, _ :: _, h, hx => ⟨h.1, All2.snoc h.2 hx⟩
 | [], _ :: _, h, _ => h.elim
 | _ :: _, [], h, _ => h.elim
theorem All2.unsnoc {α β : Type} {R : α → β → Prop} {x : α} : ∀ {xs : List α} {ys : List β}, All2 R (xs ++ [x]) ys → ∃ zs y, ys = zs ++ [y] ∧ All2 R xs zs ∧ R x y
 | [], [y], h => ⟨[], y, rfl, trivial, h.1⟩
 | [], [], h => h.elim
 | [], _ :: _ :: _, h => h.2.elim
 | a :: xs, [], h => h.elim
 | a :: xs, b :: ys, h => by
  obtain ⟨zs, y, rfl, h1, h2⟩ := All2.unsnoc (xs := xs) h.2
  exact ⟨b :: zs, y, rfl, ⟨h.1, h1⟩, h2⟩
def Bx (H : Hp) (b t : Nat) (cs : List Value) : Prop := H b = some (.cells cs.toArray t (0, 0))
def CmdAt (H : Hp) (c : Cmd) (cells : List Value) : Prop := ∃ A cap, cells = [.slice A c.words.length cap, .string c.rest] ∧ FzS H 1 encS A c.words
def thF : Th → Nat
 | .rd => 158
 | .try_ => 119
 | .scan _ => 158
def ThC (H : Hp) (rb sb : Nat) : Th → List Value → Prop
 | .rd, cap => ∃ b1 b2, cap = [pt b1, pt b2] ∧ Bx H b1 67 [pt rb] ∧ Bx H b2 160 [.func (.func 118) #[pt rb] #[]]
 | .try_, cap => ∃ b1, cap = [pt b1] ∧ Bx H b1 67 [pt rb]
 | .scan w, cap => ∃ b1 b2 b3 b4 b5, cap = [pt b1, pt b2] ∧ Bx H b1 67 [pt rb] ∧ Bx H b2 160 [.func (.func 159) #[] [pt b3, pt b4, pt b5].toArray] ∧ Bx H b3 67 [pt rb] ∧ Bx H b4 9 [.string w] ∧ Bx H b5 48 [.map (some sb)]
def ThAt (H : Hp) (rb sb : Nat) (t : Th) (v : Value) : Prop := ∃ cap, v = .func (.func (thF t)) #[] cap.toArray ∧ ThC H rb sb t cap
def TaskAt (H : Hp) (rb sb : Nat) : Task → Value → Prop
 | .cmd c, v => ∃ b1 b2 cells, v = .func (.func 71) #[] [pt b1, pt b2].toArray ∧ Bx H b1 67 [pt rb] ∧ Bx H b2 142 cells ∧ CmdAt H c cells
 | .got p t, v => ∃ b1 b2 b3 tv, v = .func (.func 157) #[] [pt b1, pt b2, pt b3].toArray ∧ Bx H b1 181 [tv] ∧ ThAt H rb sb t tv ∧ Bx H b2 67 [pt rb] ∧ Bx H b3 9 [.string p]
 | .line s w, v => ∃ b1 b2 b3 b4, v = .func (.func 161) #[] [pt b1, pt b2, pt b3, pt b4].toArray ∧ Bx H b1 9 [.string s] ∧ Bx H b2 9 [.string w] ∧ Bx H b3 67 [pt rb] ∧ Bx H b4 48 [.map (some sb)]
theorem CmdAt.le {H K : Hp} (h : H.le K) {c : Cmd} {cells : List Value} : CmdAt H c cells → CmdAt K c cells := fun ⟨A, cap, h1, h2⟩ => ⟨A, cap, h1, h2.le h⟩
theorem ThC.le {H K : Hp} (h : H.le K) {rb sb : Nat} : ∀ {t : Th} {cap : List Value}, ThC H rb sb t cap → ThC K rb sb t cap
 | .rd, _, ⟨b1, b2, h1, h2, h3⟩ => ⟨b1, b2, h1, h _ _ h2, h _ _ h3⟩
 | .try_, _, ⟨b1, h1, h2⟩ => ⟨b1, h1, h _ _ h2⟩
 | .scan _, _, ⟨b1, b2, b3, b4, b5, h1, h2, h3, h4, h5, h6⟩ => ⟨b1, b2, b3, b4, b5, h1, h _ _ h2, h _ _ h3, h _ _ h4, h _ _ h5, h _ _ h6⟩
theorem ThAt.le {H K : Hp} (h : H.le K) {rb sb : Nat} {t : Th} {v : Value} : ThAt H rb sb t v → ThAt K rb sb t v := fun ⟨cap, h1, h2⟩ => ⟨cap, h1, h2.le h⟩
theorem TaskAt.le {H K : Hp} (h : H.le K) {rb sb : Nat} : ∀ {x : Task} {v : Value}, TaskAt H rb sb x v → TaskAt K rb sb x v
 | .cmd _, _, ⟨b1, b2, cells, h1, h2, h3, h4⟩ => ⟨b1, b2, cells, h1, h _ _ h2, h _ _ h3, h4.le h⟩
 | .got _ _, _, ⟨b1, b2, b3, tv, h1, h2, h3, h4, h5⟩ => ⟨b1, b2, b3, tv, h1, h _ _ h2, h3.le h, h _ _ h4, h _ _ h5⟩
 | .line _ _, _, ⟨b1, b2, b3, b4, h1, h2, h3, h4, h5⟩ => ⟨b1, b2, b3, b4, h1, h _ _ h2, h _ _ h3, h _ _ h4, h _ _ h5⟩
structure RC where
 rb : Nat
 kb : Nat
 eA : Option Addr
 ec : Nat
 env : List (ByteArray × ByteArray)
def encSt (x : ByteArray × ByteArray) : List Value := [.string x.1, .string x.2]
theorem lenSt (x : ByteArray × ByteArray) : (encSt x).length = 2 := rfl
def kmap (l : List Kn) : List (ByteArray × Value) := l.map fun k => (k.path, .agg (encK k).toArray)
def smap (l : List ByteArray) : List (ByteArray × Value) := l.map fun x => (x, .bool true)
def rcells (C : RC) (A : Option Addr) (n c : Nat) (σ : RS) : List Value := [.slice A n c, .slice C.eA C.env.length C.ec, .string σ.buf, .map (some C.kb), .string σ.asks, .bool σ.waits, .int .i64 σ.kind, .string σ.path, .string σ.data, .int .i64 σ.why]
abbrev RLs (C : RC) (A : Option Addr) (c : Nat) (vals : List Value) (H : Hp) (sr : Res) (σ : RS) (mr : Res) : List Res := [bk C.rb 137 (rcells C A vals.length c σ), ow 1 1 (.slice A vals.length c) vals.length vals, mpe C.kb (kmap σ.known), fz H, sr, mr]
def Rep (C : RC) (sb : Nat) (sr : Res) (H0 : Hp) (σ : RS) (mr : Res) (w0 w : World) : Prop :=
 ∃ A c vals H, H0.le H ∧ FzS H 2 encSt C.eA C.env ∧ All2 (TaskAt H C.rb sb) σ.todo vals ∧ St w0 w (RLs C A c vals H sr σ mr)
theorem Rep.mk' {C : RC} {sb : Nat} {sr : Res} {H0 H : Hp} {σ : RS} {mr : Res} {w0 w : World} {A : Option Addr} {c : Nat} {vals : List Value} (hle : H0.le H) (hE : FzS H 2 encSt C.eA C.env) (hv : All2 (TaskAt H C.rb sb) σ.todo vals) (S : St w0 w (RLs C A c vals H sr σ mr)) : Rep C sb sr H0 σ mr w0 w := ⟨A, c, vals, H, hle, hE, hv, S⟩
theorem Rep.le {C : RC} {sb : Nat} {sr : Res} {H0 H : Hp} {σ : RS} {mr : Res} {w0 w : World} (h : Rep C sb sr H σ mr w0 w) (hle : H0.le H) : Rep C sb sr H0 σ mr w0 w := by
 obtain ⟨A, c, vals, K, h1, h2⟩ := h
 exact ⟨A, c, vals, K, Hp.le_trans hle h1, h2⟩
theorem bd72_0_3 {a b : Int} (w : World) : (Instr.build 72 [(0, .int .i64 a), (3, .int .i64 b)].toArray).run Tryz.prog w = .ok (.agg [.int .i64 a, .string eB, .string eB, .int .i64 b].toArray) w := by kernel_rfl
theorem one72 (a : Int) (b c : ByteArray) (d : Int) : ∀ u ∈ [Value.int .i64 a, .string b, .string c, .int .i64 d], u.oneCell' = true := fun u hu => by
 simp only [List.mem_cons, List.not_mem_nil, or_false] at hu
 rcases hu with rfl | rfl | rfl | rfl <;> rfl
theorem fi137_2 : FieldIs Tryz.prog 137 2 2 := fieldIs (z := 0) Tryz.underlying137 rfl rfl rfl Tryz.sizeOf9
theorem fi137_6 : FieldIs Tryz.prog 137 6 6 := fieldIs (z := 3) Tryz.underlying137 rfl rfl rfl Tryz.sizeOf72
theorem c_fail (e : Int) {C : RC} {sb : Nat} {sr : Res} {H0 : Hp} {σ : RS} {mr : Res} {w0 W : World} (hR : Rep C sb sr H0 σ mr w0 W) : Calls Tryz.prog 123 [.pointer (some ⟨C.rb, 0, none⟩), .int .i64 e].toArray W (Ret fun v w' => Rep C sb sr H0 (σ.fail e) mr w0 w') := by
 obtain ⟨A, c, vals, H, hle, hE, hv, S⟩ := hR
 refine ent Tryz.func123 Tryz.ntmps123 rfl rfl ?_
 intro a F
 refine rg ?_
 refine dv F (y_mv rfl rfl) rfl rfl rfl fun a F => ?_
 refine dv F (y_mv rfl rfl) rfl rfl rfl fun a F => ?_
 refine dv F (y_bd rfl rfl (bd72_0_3)) rfl rfl rfl fun a F => ?_
 refine dv F (y_nc rfl rfl) rfl rfl rfl fun a F => ?_
 refine dv F (y_fa rfl rfl fi137_6) rfl rfl rfl fun a F => ?_
 refine dst F S rfl rfl rfl Tryz.sizeOf72 (i := 0) rfl rfl (Nat.le_of_ble_eq_true rfl) (one72 _ _ _ _) rfl rfl fun a w F S => ?_
 refine dn ?_
 refine ?_
 exact rn0 F rfl ⟨A, c, vals, H, hle, hE, hv, S⟩
theorem c_add (s : ByteArray) {C : RC} {sb : Nat} {sr : Res} {H0 : Hp} {σ : RS} {mr : Res} {w0 W : World} (hb : σ.buf.size ≤ 100000) (hs : s.size ≤ 1000000000000000) (hR : Rep C sb sr H0 σ mr w0 W) : Calls Tryz.prog 118 [.pointer (some ⟨C.rb, 0, none⟩), .string s].toArray W (Ret fun v w' => Rep C sb sr H0 (σ.add s) mr w0 w') := by
 obtain ⟨A, c, vals, H, hle, hE, hv, S⟩ := hR
 refine ent Tryz.func118 Tryz.ntmps118 rfl rfl ?_
 intro a F
 refine sq fun K1 hK1 => ?_
 refine sq fun K2 hK2 => ?_
 refine rg ?_
 refine dv F (y_mv rfl rfl) rfl rfl rfl fun a F => ?_
 refine dv F (y_nc rfl rfl) rfl rfl rfl fun a F => ?_
 refine dv F (y_fa rfl rfl fi137_2) rfl rfl rfl fun a F => ?_
 refine dv F (y_ld rfl rfl (S.ld (i := 0) rfl rfl Tryz.isAgg9)) rfl rfl rfl fun a F => ?_
 refine dv F (y_ls rfl rfl Tryz.underlying9) rfl rfl rfl fun a F => ?_
 refine dv F (y_mv rfl rfl) rfl rfl rfl fun a F => ?_
 refine dv F (y_ls rfl rfl Tryz.underlying9) rfl rfl rfl fun a F => ?_
 refine dv F (y_add rfl rfl rfl (by omega)) rfl rfl rfl fun a F => ?_
 refine dv F (y_gt rfl rfl rfl) rfl rfl rfl fun a F => ?_
 refine dn ?_
 refine tn <| hK2 _ _ ?_
 refine cb F rfl (fun h1 => ?_) (fun h1 => ?_)
 ·have g1 := h1
  try simp only [zi1, zi2, zi3, zi4, zi5, zi6, zi7, zi8] at g1
  refine sq fun K3 hK3 => ?_
  refine rg ?_
  refine dv F (y_mv rfl rfl) rfl rfl rfl fun a F => ?_
  refine dc F (c_f rfl rfl rfl Tryz.call123) rfl rfl rfl (c_fail 6 (Rep.mk' hle hE hv S)) fun a v w' hr F => ?_
  have hR := hr
  refine dn ?_
  refine tn <| hK3 _ _ ?_
  refine wp_ret ?_
  refine tr <| ?_
  exact rt0 F rfl (by rw [RS.add, if_pos (by omega)]; exact hR)
 ·have g1 := h1
  try simp only [zi1, zi2, zi3, zi4, zi5, zi6, zi7, zi8] at g1
  refine wp_skip ?_
  refine tn <| hK1 _ _ ?_
  refine rg ?_
  refine dv F (y_mv rfl rfl) rfl rfl rfl fun a F => ?_
  refine dv F (y_nc rfl rfl) rfl rfl rfl fun a F => ?_
  refine dv F (y_fa rfl rfl fi137_2) rfl rfl rfl fun a F => ?_
  refine dv F (y_ld rfl rfl (S.ld (i := 0) rfl rfl Tryz.isAgg9)) rfl rfl rfl fun a F => ?_
  refine dv F (y_mv rfl rfl) rfl rfl rfl fun a F => ?_
  refine dv F (y_sad rfl rfl rfl (by omega)) rfl rfl rfl fun a F => ?_
  refine dv F (y_nc rfl rfl) rfl rfl rfl fun a F => ?_
  refine dv F (y_fa rfl rfl fi137_2) rfl rfl rfl fun a F => ?_
  refine dst F S rfl rfl rfl Tryz.sizeOf9 (i := 0) rfl rfl (Nat.le_of_ble_eq_true rfl) one1 rfl rfl fun a w F S => ?_
  refine dn ?_
  refine ?_
  exact rn0 F rfl (by rw [RS.add, if_neg (by omega)]; exact ⟨A, c, vals, H, hle, hE, hv, S⟩)
end Go.Proofs.YtgcmddaibnimjaaGreatDoor
namespace Go.Proofs.YtgcmddaibnimjaaGreatDoor
open Go.RowKit Go.Eng
theorem inv_end {α : Type} {Inv : Nat → α → Prop} {i n : Nat} {hs : α} (h : i = n) (hin : Inv i hs) : Inv n hs := h ▸ hin
theorem c_back {A : Option Addr} {n c : Nat} (w0 : World) : Calls Tryz.prog 160 [.slice A n c].toArray w0 (Ret fun v w' => ∃ b, v = .func (.func 208) #[] [pt b].toArray ∧ w'.heap[b]? = some (.cells [Value.slice A n c].toArray 25 (0, 0)) ∧ w0.heap.size ≤ b ∧ Below w0.heap.size w0 w') := by
 refine ent Tryz.func160 Tryz.ntmps160 rfl rfl ?_
 intro a F
 have S := St.refl w0
 refine sq fun K1 hK1 => ?_
 refine rg ?_
 refine dbx F S rfl rfl rfl rfl rfl rfl fun a w b1 F S => ?_
 refine dv F (y_as rfl rfl) rfl rfl rfl fun a F => ?_
 refine dn ?_
 refine tn <| hK1 _ _ ?_
 refine sq fun K2 hK2 => ?_
 refine rg ?_
 refine dv F (y_mf rfl rfl) rfl rfl rfl fun a F => ?_
 refine dv F (y_as rfl rfl) rfl rfl rfl fun a F => ?_
 refine dn ?_
 refine tn <| hK2 _ _ ?_
 refine wp_ret ?_
 refine ?_
 exact rt1 F rfl rfl ⟨b1, rfl, S.ok (i := 0) rfl, ((S.own 0 _ rfl).2 _ rfl).1, S.bel⟩
theorem c_backIt {w0 : World} (xs : List ByteArray) (bS : Nat) (A : Option Addr) (c : Nat) (Inv : Nat → List Res → Prop) (hI : ∀ i hs, Inv i hs → ∃ q H, nth hs q = some (fz H) ∧ Bx H bS 25 [.slice A xs.length c] ∧ FzS H 1 encS A xs) (hn : xs.length ≤ 4611686018427387904) : IterC Tryz.prog w0 208 [pt bS] xs.length (fun i => [.int .i64 ((xs.length : Int) - 1 - (i : Int)), .string (xs.reverse.getD i default)]) Inv Inv (Inv xs.length) := by
 intro r x y Jx W1 hs0 hy h0 S0
 refine entI Tryz.func208 Tryz.ntmps208 rfl rfl ?_
 intro a F
 have S := S0
 refine sqI fun K1 hK1 => ?_
 obtain ⟨q, H, hq, hbS, hsl⟩ := hI 0 hs0 h0
 refine rgI (fun _ _ h => by obtain ⟨⟨_, h⟩, _⟩ := h; cases h) rfl ?_
 refine dv F (y_ld rfl rfl (ld1 Tryz.isAgg25 (S.fzc (i := q + 2) hq hbS rfl))) rfl rfl rfl fun a F => ?_
 refine dv F (y_ln rfl rfl Tryz.underlying25) rfl rfl rfl fun a F => ?_
 refine dv F (y_sub rfl rfl rfl (by omega)) rfl rfl rfl fun a F => ?_
 refine dv F (y_as rfl rfl) rfl rfl rfl fun a F => ?_
 refine dn ?_
 refine tn <| hK1 _ _ ?_
 refine blI ?_
 rw [show (xs.length : Int) - 1 = (xs.length : Int) - 1 - ((0 : Nat) : Int) by omega] at F
 refine wpIn_loop_ghost (fun m a w => ∃ (i : Nat) (hs : List Res), m = xs.length - i ∧ (i ≤ xs.length) ∧ (Inv i hs) ∧ Fr 19 a [(0, .func (.yield r) #[] #[]), (1, pt bS), (3, .int .i64 ((xs.length : Int) - 1 - (i : Int)))] ∧ St w0 w (x :: y :: hs)) (xs.length) ?_ ?_
 ·exact ⟨0, hs0, rfl, Nat.zero_le _, h0, F.sub _ ⟨rfl, rfl, rfl, trivial⟩, S⟩
 ·rintro m a w ⟨i, hs, hm, hi, hin, F, S⟩
  obtain ⟨q, H, hq, hbS, hsl⟩ := hI i hs hin
  refine sqI fun K2 hK2 => ?_
  refine sqI fun K3 hK3 => ?_
  refine rgI (fun _ _ h => by obtain ⟨⟨_, h⟩, _⟩ := h; cases h) rfl ?_
  refine dv F (y_mv rfl rfl) rfl rfl rfl fun a F => ?_
  refine dv F (y_ge rfl rfl rfl) rfl rfl rfl fun a F => ?_
  refine dn ?_
  refine tn <| hK3 _ _ ?_
  refine cdI F rfl (fun h1 => ?_) (fun h1 => ?_)
  ·refine wpIn_skip ?_
   refine tn <| hK2 _ _ ?_
   refine sqI fun K4 hK4 => ?_
   refine blI ?_
   refine sqI fun K5 hK5 => ?_
   refine wpIn_region_lit ?_
   refine liftAt 6 (fun _ _ h => by obtain ⟨⟨_, h⟩, _⟩ := h; cases h) rfl ?_
   refine dv F (y_mv rfl rfl) rfl rfl rfl fun a F => ?_
   refine dv F (y_mv rfl rfl) rfl rfl rfl fun a F => ?_
   refine dv F (y_ld rfl rfl (ld1 Tryz.isAgg25 (S.fzc (i := q + 2) hq hbS rfl))) rfl rfl rfl fun a F => ?_
   refine dv F (y_mv rfl rfl) rfl rfl rfl fun a F => ?_
   have hk : xs.length - 1 - i < xs.length := by omega
   obtain ⟨ab, ao, rfl, hab, hcell⟩ := (hsl.sl S (i := q + 2) hq).at_ hk
   refine dv F (y_ia rfl rfl rfl rfl Tryz.underlying25 Tryz.sizeOf9 (xs.length - 1 - i) (by omega) hk) rfl rfl rfl fun a F => ?_
   refine dv F (y_ld rfl rfl (ld1 Tryz.isAgg9 (hcell 0 _ rfl))) rfl rfl rfl fun a F => ?_
   refine dn ?_
   refine tn ?_
   have hrev : xs[xs.length - 1 - i] = xs.reverse.getD i default := by rw [List.getD_eq_getElem?_getD, List.getElem?_reverse (by omega), List.getElem?_eq_getElem (by omega)]; rfl
   rw [hrev] at F
   refine dy F rfl rfl rfl rfl rfl rfl (hy i _ _ (by omega) hin S) (fun e w' h => by rcases h with ⟨h, _⟩ | ⟨h, _⟩ <;> exact ⟨_, h⟩) fun a v w hr F => ?_
   rcases hr with ⟨hv, ⟨hs, hin, S⟩⟩ | ⟨hv, hJ⟩
   ·injection hv with hv
    subst hv
    refine liftList (fun _ _ h => by obtain ⟨⟨_, h⟩, _⟩ := h; cases h) rfl ?_
    refine dv F (y_nt rfl rfl) rfl rfl rfl fun a F => ?_
    refine dn ?_
    refine tn <| hK5 _ _ ?_
    refine cfI F rfl (congrArg not rfl) ?_
    refine wpIn_skip ?_
    refine bn <| tn <| hK4 _ _ ?_
    refine rgI (fun _ _ h => by obtain ⟨⟨_, h⟩, _⟩ := h; cases h) rfl ?_
    refine dv F (y_mv rfl rfl) rfl rfl rfl fun a F => ?_
    refine dv F (y_sub rfl rfl rfl (by omega)) rfl rfl rfl fun a F => ?_
    refine dv F (y_as rfl rfl) rfl rfl rfl fun a F => ?_
    refine dn ?_
    rw [show (xs.length : Int) - 1 - (i : Int) - 1 = (xs.length : Int) - 1 - ((i + 1 : Nat) : Int) by omega] at F
    exact ln (by omega) ⟨i + 1, _, rfl, by omega, hin, F.sub _ ⟨rfl, rfl, rfl, trivial⟩, S⟩
   ·injection hv with hv
    subst hv
    refine liftList (fun _ _ h => by obtain ⟨⟨_, h⟩, _⟩ := h; cases h) rfl ?_
    refine dv F (y_nt rfl rfl) rfl rfl rfl fun a F => ?_
    refine dn ?_
    refine tn <| hK5 _ _ ?_
    refine ctI F rfl (congrArg not rfl) ?_
    refine wpIn_ret ?_
    refine br <| tr <| lr <| br <| ?_
    exact rtI0 F rfl ⟨⟨_, rfl⟩, .inr hJ⟩
  ·refine wpIn_exit ?_
   refine tx <| lx <| bh <| ?_
   exact rnI0 F rfl ⟨⟨_, rfl⟩, .inl ⟨hs, inv_end (by omega) hin, S⟩⟩
end Go.Proofs.YtgcmddaibnimjaaGreatDoor
namespace Go.Proofs.YtgcmddaibnimjaaGreatDoor
open Go.RowKit Go.Eng
def RS.push (σ : RS) (d x : ByteArray) (i : Nat) : RS := { σ with todo := σ.todo ++ ((lines d).reverse.take i).map fun s => Task.line s x }
theorem push_zero {σ : RS} {d x : ByteArray} : (σ.push d x 0).todo = σ.todo := by simp [RS.push]
theorem push_succ {σ : RS} {d x : ByteArray} {i : Nat} (h : i < (lines d).length) : (σ.push d x (i + 1)).todo = (σ.push d x i).todo ++ [Task.line ((lines d).reverse.getD i default) x] := by
 have h' : i < (lines d).reverse.length := by simpa using h
 simp only [RS.push]
 rw [List.take_succ_eq_append_getElem h', List.map_append, ← List.append_assoc, List.getD_eq_getElem?_getD, List.getElem?_eq_getElem h']
 rfl
theorem push_len {σ : RS} (d x : ByteArray) (i : Nat) : (σ.push d x i).todo.length ≤ σ.todo.length + (lines d).length := by
 simp only [RS.push, List.length_append, List.length_map, List.length_take, List.length_reverse]; omega
theorem push_all (σ : RS) (d x : ByteArray) : σ.push d x (lines d).length = { σ with todo := σ.todo ++ (lines d).reverse.map fun s => Task.line s x } := by
 simp only [RS.push]; rw [List.take_of_length_le (by simp)]
theorem then_rd_t {σ : RS} {k : Kn} (h : k.is = true) : σ.then_ .rd k = σ.add k.data := if_pos h
theorem then_rd_f {σ : RS} {k : Kn} (h : k.is = false) : σ.then_ .rd k = σ.fail 10 := if_neg (by simp [h])
theorem then_try_t {σ : RS} {k : Kn} (h : k.is = true) : σ.then_ .try_ k = σ.add k.data := if_pos h
theorem then_try_f {σ : RS} {k : Kn} (h : k.is = false) : σ.then_ .try_ k = σ := if_neg (by simp [h])
theorem then_scan_t {σ : RS} {k : Kn} {x : ByteArray} (h : k.is = true) : σ.then_ (.scan x) k = σ.push k.data x (lines k.data).length := by rw [push_all]; exact if_pos h
theorem then_scan_f {σ : RS} {k : Kn} {x : ByteArray} (h : k.is = false) : σ.then_ (.scan x) k = σ.fail 10 := if_neg (by simp [h])
def RepL (C : RC) (sb : Nat) (sr : Res) (H0 : Hp) (σ : RS) (mr : Res) (hs : List Res) : Prop :=
 ∃ A c vals H, H0.le H ∧ FzS H 2 encSt C.eA C.env ∧ All2 (TaskAt H C.rb sb) σ.todo vals ∧ hs = RLs C A c vals H sr σ mr
theorem ai1 : AI Tryz.prog 1 1 8 = true := by kernel_rfl
theorem bs135 {f : Fn} {a b : Array Value} (w : World) : (Instr.buildSlice 135 1 [(0, .func f a b)].toArray).run Tryz.prog w = .ok (.slice (some ⟨w.heap.size, 0, none⟩) 1 1) (w.alloc (.cells [Value.func f a b].toArray 1)) := by kernel_rfl
theorem fi137_0 : FieldIs Tryz.prog 137 0 0 := fieldIs (z := 0) Tryz.underlying137 rfl rfl rfl Tryz.sizeOf135
theorem c_there (b : Nat) (f : Fn) (bd cp : Array Value) (w0 : World) : Calls Tryz.prog 117 [pt b, .func f bd cp].toArray w0 (Ret fun v w' => ∃ b1 b2, v = .func (.func 158) #[] [pt b1, pt b2].toArray ∧ b1 ≠ b2 ∧ w'.heap[b1]? = some (.cells [pt b].toArray 67 (0, 0)) ∧ w'.heap[b2]? = some (.cells [Value.func f bd cp].toArray 160 (0, 0)) ∧ w0.heap.size ≤ b1 ∧ w0.heap.size ≤ b2 ∧ Below w0.heap.size w0 w') := by
 refine ent Tryz.func117 Tryz.ntmps117 rfl rfl ?_
 intro a F
 have S := St.refl w0
 refine sq fun K1 hK1 => ?_
 refine rg ?_
 refine dbx F S rfl rfl rfl rfl rfl rfl fun a w b2 F S => ?_
 refine dbx F S rfl rfl rfl rfl rfl rfl fun a w b3 F S => ?_
 refine dv F (y_as rfl rfl) rfl rfl rfl fun a F => ?_
 refine dn ?_
 refine tn <| hK1 _ _ ?_
 refine sq fun K2 hK2 => ?_
 refine rg ?_
 refine dv F (y_mf rfl rfl) rfl rfl rfl fun a F => ?_
 refine dv F (y_as rfl rfl) rfl rfl rfl fun a F => ?_
 refine dn ?_
 refine tn <| hK2 _ _ ?_
 refine wp_ret ?_
 refine ?_
 exact rt1 F rfl rfl ⟨b2, b3, rfl, fun h => S.sep 0 1 _ _ rfl rfl (by decide) b2 rfl h, S.ok (i := 0) rfl, S.ok (i := 1) rfl, ((S.own 0 _ rfl).2 _ rfl).1, ((S.own 1 _ rfl).2 _ rfl).1, S.bel⟩
theorem c_thereRd (k : Kn) {b1 b2 : Nat} {C : RC} {sb : Nat} {sr : Res} {H0 : Hp} {σ : RS} {mr : Res} {w0 W : World} (q1 : Bx H0 b1 67 [pt C.rb]) (q2 : Bx H0 b2 160 [.func (.func 118) #[pt C.rb] #[]]) (hb : σ.buf.size ≤ 100000) (hs : k.is = true → k.data.size ≤ 2000000) (hR : Rep C sb sr H0 σ mr w0 W) : Calls Tryz.prog 158 [Value.agg (encK k).toArray, pt b1, pt b2].toArray W (Ret fun v w' => Rep C sb sr H0 (σ.then_ .rd k) mr w0 w') := by
 obtain ⟨A, c, vals, H, hle, hE, hv, S⟩ := hR
 refine ent Tryz.func158 Tryz.ntmps158 rfl rfl ?_
 intro a F
 refine sq fun K1 hK1 => ?_
 refine rg ?_
 refine dbx F S rfl rfl rfl rfl rfl rfl fun a w b3 F S => ?_
 refine dn ?_
 refine tn <| hK1 _ _ ?_
 refine sq fun K2 hK2 => ?_
 refine sq fun K3 hK3 => ?_
 refine rg ?_
 refine dv F (y_fa rfl rfl fi55_1) rfl rfl rfl fun a F => ?_
 refine dv F (y_ld rfl rfl (S.ld (i := 6) rfl rfl Tryz.isAgg4)) rfl rfl rfl fun a F => ?_
 refine dv F (y_nt rfl rfl) rfl rfl rfl fun a F => ?_
 refine dn ?_
 refine tn <| hK3 _ _ ?_
 refine cb F rfl (fun h1 => ?_) (fun h1 => ?_)
 ·have g1 := h1
  try simp only [zi1, zi2, zi3, zi4, zi5, zi6, zi7, zi8] at g1
  refine sq fun K4 hK4 => ?_
  refine rg ?_
  refine dv F (y_ld rfl rfl (ld1 Tryz.isAgg67 (S.fzc (i := 3) rfl (hle _ _ q1) rfl))) rfl rfl rfl fun a F => ?_
  refine dc F (c_f rfl rfl rfl Tryz.call123) rfl rfl rfl (c_fail 10 (Rep.mk' hle hE hv (S.pick [0, 1, 2, 3, 4, 5] _ ⟨rfl, rfl, rfl, rfl, rfl, rfl, trivial⟩ rfl))) fun a v w' hr F => ?_
  have hR := hr
  refine dn ?_
  refine tn <| hK4 _ _ ?_
  refine wp_ret ?_
  refine tr <| ?_
  exact rt0 F rfl (by rw [then_rd_f (by simpa using g1)]; exact hR)
 ·have g1 := h1
  try simp only [zi1, zi2, zi3, zi4, zi5, zi6, zi7, zi8] at g1
  refine wp_skip ?_
  refine tn <| hK2 _ _ ?_
  refine rg ?_
  refine dv F (y_ld rfl rfl (ld1 Tryz.isAgg160 (S.fzc (i := 3) rfl (hle _ _ q2) rfl))) rfl rfl rfl fun a F => ?_
  refine dv F (y_fa rfl rfl fi55_2) rfl rfl rfl fun a F => ?_
  refine dv F (y_ld rfl rfl (S.ld (i := 6) rfl rfl Tryz.isAgg9)) rfl rfl rfl fun a F => ?_
  refine dc F (c_fb (bd := [pt C.rb]) (cap := []) rfl rfl rfl Tryz.call118) rfl rfl rfl (c_add k.data hb (by have := hs (by simpa using g1); omega) (Rep.mk' hle hE hv (S.pick [0, 1, 2, 3, 4, 5] _ ⟨rfl, rfl, rfl, rfl, rfl, rfl, trivial⟩ rfl))) fun a v w' hr F => ?_
  have hR := hr
  refine dn ?_
  refine ?_
  exact rn0 F rfl (by rw [then_rd_t (by simpa using g1)]; exact hR)
theorem c_tryK (k : Kn) {b1 : Nat} {C : RC} {sb : Nat} {sr : Res} {H0 : Hp} {σ : RS} {mr : Res} {w0 W : World} (q1 : Bx H0 b1 67 [pt C.rb]) (hb : σ.buf.size ≤ 100000) (hs : k.is = true → k.data.size ≤ 2000000) (hR : Rep C sb sr H0 σ mr w0 W) : Calls Tryz.prog 119 [Value.agg (encK k).toArray, pt b1].toArray W (Ret fun v w' => Rep C sb sr H0 (σ.then_ .try_ k) mr w0 w') := by
 obtain ⟨A, c, vals, H, hle, hE, hv, S⟩ := hR
 refine ent Tryz.func119 Tryz.ntmps119 rfl rfl ?_
 intro a F
 refine sq fun K1 hK1 => ?_
 refine rg ?_
 refine dbx F S rfl rfl rfl rfl rfl rfl fun a w b2 F S => ?_
 refine dn ?_
 refine tn <| hK1 _ _ ?_
 refine sq fun K2 hK2 => ?_
 refine rg ?_
 refine dv F (y_fa rfl rfl fi55_1) rfl rfl rfl fun a F => ?_
 refine dv F (y_ld rfl rfl (S.ld (i := 6) rfl rfl Tryz.isAgg4)) rfl rfl rfl fun a F => ?_
 refine dn ?_
 refine tn <| hK2 _ _ ?_
 refine cb F rfl (fun h1 => ?_) (fun h1 => ?_)
 ·have g1 := h1
  try simp only [zi1, zi2, zi3, zi4, zi5, zi6, zi7, zi8] at g1
  refine rg ?_
  refine dv F (y_ld rfl rfl (ld1 Tryz.isAgg67 (S.fzc (i := 3) rfl (hle _ _ q1) rfl))) rfl rfl rfl fun a F => ?_
  refine dv F (y_fa rfl rfl fi55_2) rfl rfl rfl fun a F => ?_
  refine dv F (y_ld rfl rfl (S.ld (i := 6) rfl rfl Tryz.isAgg9)) rfl rfl rfl fun a F => ?_
  refine dc F (c_f rfl rfl rfl Tryz.call118) rfl rfl rfl (c_add k.data hb (by have := hs (by simpa using g1); omega) (Rep.mk' hle hE hv (S.pick [0, 1, 2, 3, 4, 5] _ ⟨rfl, rfl, rfl, rfl, rfl, rfl, trivial⟩ rfl))) fun a v w' hr F => ?_
  have hR := hr
  refine dn ?_
  refine ?_
  exact rn0 F rfl (by rw [then_try_t (by simpa using g1)]; exact hR)
 ·have g1 := h1
  try simp only [zi1, zi2, zi3, zi4, zi5, zi6, zi7, zi8] at g1
  refine wp_skip ?_
  refine ?_
  exact rn0 F rfl (by rw [then_try_f (by simpa using g1)]; exact ⟨A, c, vals, H, hle, hE, hv, (S.pick [0, 1, 2, 3, 4, 5] _ ⟨rfl, rfl, rfl, rfl, rfl, rfl, trivial⟩ rfl)⟩)
theorem c_scanLines (d wd : ByteArray) {b3 b4 b5 : Nat} {C : RC} {sb : Nat} {sr : Res} {H0 : Hp} {σ : RS} {mr : Res} {w0 W : World} (G : Gl w0) (q3 : Bx H0 b3 67 [pt C.rb]) (q4 : Bx H0 b4 9 [.string wd]) (q5 : Bx H0 b5 48 [.map (some sb)]) (hs : d.size ≤ 1000000) (hT : σ.todo.length + (lines d).length ≤ 1000000000000) (hR : Rep C sb sr H0 σ mr w0 W) : Calls Tryz.prog 159 [.string d, pt b3, pt b4, pt b5].toArray W (Ret fun v w' => Rep C sb sr H0 (σ.push d wd (lines d).length) mr w0 w') := by
 obtain ⟨A, c, vals, H, hle, hE, hv, S⟩ := hR
 refine entM Tryz.func159 Tryz.ntmps159 rfl rfl ?_
 intro a F
 refine sq fun K1 hK1 => ?_
 refine rg ?_
 refine dv F (y_mv rfl rfl) rfl rfl rfl fun a F => ?_
 refine dc F (c_f rfl rfl rfl Tryz.call113) rfl rfl rfl (c_lines d _ (G.st S) hs) fun a v w' hr F => ?_
 obtain ⟨⟨AL, cL, rfl, hO, hlo⟩, hb⟩ := hr
 replace S := S.addOw hb rfl hO hlo
 obtain ⟨H1, hl1, hf1, S⟩ := S.frzOw (enc := encS) (xs := lines d) (i := 3) (j := 6) rfl rfl (by decide) lenS
 refine dc F (c_f rfl rfl rfl Tryz.call160) rfl rfl rfl (c_back _) fun a v w' hr F => ?_
 obtain ⟨bS, rfl, hSb, hlo2, hb2⟩ := hr
 replace S := S.callAdd hb2 (bk bS 25 [.slice AL (lines d).length cL]) hSb (fun k hk => by
  have hk' : k = bS := hk
  subst hk'
  exact ⟨hlo2, (Array.getElem?_eq_some_iff.1 hSb).1⟩)
 obtain ⟨H2, hl2, hf2, S⟩ := S.frz (i := 3) (j := 7) rfl rfl (by decide)
 replace S : St w0 _ (RLs C A c vals H2 sr σ mr) := (S.pick [0, 1, 2, 3, 4, 5] _ ⟨rfl, rfl, rfl, rfl, rfl, rfl, trivial⟩ rfl)
 have hle2 := Hp.le_trans hle (Hp.le_trans hl1 hl2)
 replace hv : All2 (TaskAt H2 C.rb sb) σ.todo vals := hv.mono fun _ _ _ h => h.le (Hp.le_trans hl1 hl2)
 replace hE := hE.le (Hp.le_trans hl1 hl2)
 replace hf1 := hf1.le hl2
 refine dn ?_
 refine tn <| hK1 _ _ ?_
 refine bl ?_
 refine rf F S rfl Tryz.call208 rfl (lines d).length (fun i => [.int .i64 (((lines d).length : Int) - 1 - (i : Int)), .string ((lines d).reverse.getD i default)]) (fun _ => rfl) (fun i hs => RepL C sb sr H2 (σ.push d wd i) mr hs) (fun i hs => RepL C sb sr H2 (σ.push d wd i) mr hs) (RepL C sb sr H2 (σ.push d wd (lines d).length) mr) (fun _ _ => False) ⟨A, c, vals, H2, Hp.le_refl _, hE, by rw [push_zero]; exact hv, rfl⟩ (c_backIt (lines d) bS AL cL _ (fun i hs h => by
   obtain ⟨A, c, vals, H, hle, hE, hv, rfl⟩ := h
   exact ⟨3, H, rfl, hle _ _ hf2, hf1.le hle⟩) (by omega)) (fun i hs a => ∃ b6 hs0, Fr 22 a [(1, pt b3), (2, pt b4), (3, pt b5), (6, pt b6)] ∧ RepL C sb sr H2 (σ.push d wd i) mr hs0 ∧ hs = hs0 ++ [bk b6 9 [.string ((lines d).reverse.getD i default)]]) ?_ ?_ ?_ ?_
 ·intro r i hs x y a W hi hI F S
  obtain ⟨A, c, vals, H, hle, hE, hv, rfl⟩ := hI
  refine rgI (fun _ _ h => h) rfl ?_
  refine dal F S rfl Tryz.zeroValue9 rfl rfl rfl rfl fun a w b6 F S => ?_
  refine dsw F S rfl rfl rfl Tryz.sizeOf9 (i := 8) rfl rfl rfl rfl one1 rfl rfl fun a w F S => ?_
  refine dn ?_
  refine tn <| ?_
  exact ⟨_, ⟨b6, _, F.sub _ ⟨rfl, rfl, rfl, rfl, trivial⟩, ⟨A, c, vals, H, hle, hE, hv, rfl⟩, rfl⟩, S⟩
 ·intro r i hs x y a W hi hA S
  obtain ⟨b6, hs0, F, ⟨A, c, vals, H, hle, hE, hv, rfl⟩, rfl⟩ := hA
  have hK := Hp.le_trans hle2 hle
  have hlen := hv.len
  have hpl := push_len (σ := σ) d wd i
  refine blI ?_
  refine rdI Tryz.mixed (fun _ _ h => h) rfl (rpFA [.p, .p, .p, .p, .p, .p, .b 1 (mkS 1) [.tmp 17] (fun vs => vs)] 7 0 [[], [], [1], [1, 2], [1, 2, 3], [], [5]] [(1, _), (2, _), (3, _), (6, _)] F ⟨rfl, rfl, rfl, rfl, trivial⟩ Tryz.mixed (by kernel_rfl) rfl (by decide) (by decide) (by kernel_rfl) (by kernel_rfl) (by kernel_rfl) (by kernel_rfl) ⟨?_, ?_, ?_, ?_, ?_, ?_, ?_, trivial⟩ (fun a w1 J => ?_) (fun a w1 om of_ hom hof J => ?_))
  ·intro a w1 hB F hA
   have S0 := S
   replace S := S.call hB
   exact pv F (fun w2 hB2 => have S := S.call hB2; y_ld rfl rfl (ld1 Tryz.isAgg67 (S.fzc (i := 5) rfl (hK _ _ q3) rfl))) rfl rfl rfl (by decide)
  ·intro a w1 hB F hA
   have S0 := S
   replace S := S.call hB
   exact pv F (fun w2 hB2 => have S := S.call hB2; y_ld rfl rfl (ld1 Tryz.isAgg67 (S.fzc (i := 5) rfl (hK _ _ q3) rfl))) rfl rfl rfl (by decide)
  ·intro a w1 hB F hA
   have S0 := S
   replace S := S.call hB
   replace F := F.eP (hA 1 (by decide)) rfl (d := 13) rfl rfl (y_ld rfl rfl (ld1 Tryz.isAgg67 (S.fzc (i := 5) rfl (hK _ _ q3) rfl)))
   exact pv F (fun w2 hB2 => have S := S.call hB2; y_nc rfl rfl) rfl rfl rfl (by decide)
  ·intro a w1 hB F hA
   have S0 := S
   replace S := S.call hB
   replace F := F.eP (hA 1 (by decide)) rfl (d := 13) rfl rfl (y_ld rfl rfl (ld1 Tryz.isAgg67 (S.fzc (i := 5) rfl (hK _ _ q3) rfl)))
   replace F := F.eP (hA 2 (by decide)) rfl (d := 14) rfl rfl (y_nc rfl rfl)
   exact pv F (fun w2 hB2 => have S := S.call hB2; y_fa rfl rfl fi137_0) rfl rfl rfl (by decide)
  ·intro a w1 hB F hA
   have S0 := S
   replace S := S.call hB
   replace F := F.eP (hA 1 (by decide)) rfl (d := 13) rfl rfl (y_ld rfl rfl (ld1 Tryz.isAgg67 (S.fzc (i := 5) rfl (hK _ _ q3) rfl)))
   replace F := F.eP (hA 2 (by decide)) rfl (d := 14) rfl rfl (y_nc rfl rfl)
   replace F := F.eP (hA 3 (by decide)) rfl (d := 15) rfl rfl (y_fa rfl rfl fi137_0)
   exact pv F (fun w2 hB2 => have S := S.call hB2; y_ld rfl rfl (S.ld (i := 2) rfl rfl Tryz.isAgg135)) rfl rfl rfl (by decide)
  ·intro a w1 hB F hA
   have S0 := S
   replace S := S.call hB
   exact pv F (fun w2 hB2 => have S := S.call hB2; y_mf rfl rfl) rfl rfl rfl (by decide)
  ·intro a w1 hB F hA
   have S0 := S
   replace S := S.call hB
   replace F := F.eP (hA 5 (by decide)) rfl (d := 17) rfl rfl (y_mf rfl rfl)
   exact pb F rfl (y_bs rfl rfl bs135) (fun _ => rfl) rfl rfl rfl
  ·have F := J.fr
   have E := EX.start J S
   have hle' := S.bel.size
   replace S := S.call J.bel
   replace F := F.eP (J.at 0 rfl) rfl (d := 12) rfl rfl (y_ld rfl rfl (ld1 Tryz.isAgg67 (S.fzc (i := 5) rfl (hK _ _ q3) rfl)))
   replace F := F.eP (J.at 1 rfl) rfl (d := 13) rfl rfl (y_ld rfl rfl (ld1 Tryz.isAgg67 (S.fzc (i := 5) rfl (hK _ _ q3) rfl)))
   replace F := F.eP (J.at 2 rfl) rfl (d := 14) rfl rfl (y_nc rfl rfl)
   replace F := F.eP (J.at 3 rfl) rfl (d := 15) rfl rfl (y_fa rfl rfl fi137_0)
   replace F := F.eP (J.at 4 rfl) rfl (d := 16) rfl rfl (y_ld rfl rfl (S.ld (i := 2) rfl rfl Tryz.isAgg135))
   replace F := F.eP (J.at 5 rfl) rfl (d := 17) rfl rfl (y_mf rfl rfl)
   obtain ⟨b18, F, hb18, ho18⟩ := F.eB (P := Tryz.prog) (e := 1) (mk := mkS 1) (xs := [.tmp 17]) (cs := fun vs => vs) (J.at 6 rfl) rfl (d := 18) rfl rfl rfl
   have E := EX.row J hle' E 6 rfl rfl (d := 18) (e := 1) (cs := [(Value.func (.func 161) #[] [pt b6, pt b4, pt b3, pt b5].toArray)]) rfl hb18 ho18
   replace S := E.st
   clear E J
   refine dap F S rfl rfl rfl (i := 3) rfl (S.fl (i := 9) rfl) rfl one1 Tryz.underlying135 ai1 rfl (N := (vals ++ [(Value.func (.func 161) #[] [pt b6, pt b4, pt b3, pt b5].toArray)]).length) (XS := vals ++ [(Value.func (.func 161) #[] [pt b6, pt b4, pt b3, pt b5].toArray)]) (by rw [List.length_append]; rfl) rfl (by have := hv.len; rw [List.length_append]; simp only [List.length_cons, List.length_nil]; have := push_len (σ := σ) d wd i; omega) (by have := hv.len; rw [List.length_append]; simp only [List.length_cons, List.length_nil]; have := push_len (σ := σ) d wd i; omega) rfl rfl rfl fun a w A' c' F S => ?_
   refine dv F (y_nc rfl rfl) rfl rfl rfl fun a F => ?_
   refine dv F (y_fa rfl rfl fi137_0) rfl rfl rfl fun a F => ?_
   refine dst F S rfl rfl rfl Tryz.sizeOf135 (i := 2) rfl rfl (Nat.le_of_ble_eq_true rfl) one1 rfl rfl fun a w F S => ?_
   refine dn ?_
   refine bn <| ?_
   obtain ⟨K, hlK, hbK, S⟩ := S.frz (i := 5) (j := 8) rfl rfl (by decide)
   exact ⟨_, ⟨_, _, _, K, Hp.le_trans hle hlK, hE.le hlK, by rw [push_succ hi]; exact (hv.mono fun _ _ _ h => h.le hlK).snoc ⟨b6, b4, b3, b5, rfl, hbK, hlK _ _ (hK _ _ q4), hlK _ _ (hK _ _ q3), hlK _ _ (hK _ _ q5)⟩, rfl⟩, (S.pick [0, 1, 2, 3, 4, 5, 6, 7] _ ⟨rfl, rfl, rfl, rfl, rfl, rfl, rfl, rfl, trivial⟩ rfl)⟩
  ·have F := J.fr
   obtain rfl := Option.some.inj hom
   obtain rfl := Option.some.inj hof
   have E := EX.start J S
   have hle' := S.bel.size
   replace S := S.call J.bel
   replace F := F.eP (J.atF 1 rfl) rfl (d := 13) rfl rfl (y_ld rfl rfl (ld1 Tryz.isAgg67 (S.fzc (i := 5) rfl (hK _ _ q3) rfl)))
   replace F := F.eP (J.atF 2 rfl) rfl (d := 14) rfl rfl (y_nc rfl rfl)
   replace F := F.eP (J.atF 3 rfl) rfl (d := 15) rfl rfl (y_fa rfl rfl fi137_0)
   replace F := F.eP (J.atF 4 rfl) rfl (d := 16) rfl rfl (y_ld rfl rfl (S.ld (i := 2) rfl rfl Tryz.isAgg135))
   replace F := F.eP (J.atF 5 rfl) rfl (d := 17) rfl rfl (y_mf rfl rfl)
   obtain ⟨b18, F, hb18, ho18⟩ := F.eB (P := Tryz.prog) (e := 1) (mk := mkS 1) (xs := [.tmp 17]) (cs := fun vs => vs) (J.atF 6 rfl) rfl (d := 18) rfl rfl rfl
   have E := EX.rowF J hle' E 6 rfl rfl (d := 18) (e := 1) (cs := [(Value.func (.func 161) #[] [pt b6, pt b4, pt b3, pt b5].toArray)]) rfl hb18 ho18
   replace S := E.st
   clear E J
   refine dap F S rfl rfl rfl (i := 3) rfl (S.fl (i := 9) rfl) rfl one1 Tryz.underlying135 ai1 rfl (N := (vals ++ [(Value.func (.func 161) #[] [pt b6, pt b4, pt b3, pt b5].toArray)]).length) (XS := vals ++ [(Value.func (.func 161) #[] [pt b6, pt b4, pt b3, pt b5].toArray)]) (by rw [List.length_append]; rfl) rfl (by have := hv.len; rw [List.length_append]; simp only [List.length_cons, List.length_nil]; have := push_len (σ := σ) d wd i; omega) (by have := hv.len; rw [List.length_append]; simp only [List.length_cons, List.length_nil]; have := push_len (σ := σ) d wd i; omega) rfl rfl rfl fun a w A' c' F S => ?_
   refine dv F (y_ld rfl rfl (ld1 Tryz.isAgg67 (S.fzc (i := 5) rfl (hK _ _ q3) rfl))) rfl rfl rfl fun a F => ?_
   refine dv F (y_nc rfl rfl) rfl rfl rfl fun a F => ?_
   refine dv F (y_fa rfl rfl fi137_0) rfl rfl rfl fun a F => ?_
   refine dst F S rfl rfl rfl Tryz.sizeOf135 (i := 2) rfl rfl (Nat.le_of_ble_eq_true rfl) one1 rfl rfl fun a w F S => ?_
   refine dn ?_
   refine bn <| ?_
   obtain ⟨K, hlK, hbK, S⟩ := S.frz (i := 5) (j := 8) rfl rfl (by decide)
   exact ⟨_, ⟨_, _, _, K, Hp.le_trans hle hlK, hE.le hlK, by rw [push_succ hi]; exact (hv.mono fun _ _ _ h => h.le hlK).snoc ⟨b6, b4, b3, b5, rfl, hbK, hlK _ _ (hK _ _ q4), hlK _ _ (hK _ _ q3), hlK _ _ (hK _ _ q5)⟩, rfl⟩, (S.pick [0, 1, 2, 3, 4, 5, 6, 7] _ ⟨rfl, rfl, rfl, rfl, rfl, rfl, rfl, rfl, trivial⟩ rfl)⟩
 ·intro D hs W hE S
  obtain ⟨A, c, vals, H, hle, hE, hv, rfl⟩ := hE
  refine bn <| ?_
  exact rm0 F (.inr rfl) S rfl (fun w' S => ⟨A, c, vals, H, Hp.le_trans hle2 hle, hE, hv, S⟩)
 ·intro D c hs W hX S
  exact hX.elim
theorem c_thereScan (k : Kn) (wd : ByteArray) {b1 b2 b3 b4 b5 : Nat} {C : RC} {sb : Nat} {sr : Res} {H0 : Hp} {σ : RS} {mr : Res} {w0 W : World} (G : Gl w0) (q1 : Bx H0 b1 67 [pt C.rb]) (q2 : Bx H0 b2 160 [.func (.func 159) #[] [pt b3, pt b4, pt b5].toArray]) (q3 : Bx H0 b3 67 [pt C.rb]) (q4 : Bx H0 b4 9 [.string wd]) (q5 : Bx H0 b5 48 [.map (some sb)]) (hs : k.is = true → k.data.size ≤ 1000000) (hT : k.is = true → σ.todo.length + (lines k.data).length ≤ 1000000000000) (hR : Rep C sb sr H0 σ mr w0 W) : Calls Tryz.prog 158 [Value.agg (encK k).toArray, pt b1, pt b2].toArray W (Ret fun v w' => Rep C sb sr H0 (σ.then_ (.scan wd) k) mr w0 w') := by
 obtain ⟨A, c, vals, H, hle, hE, hv, S⟩ := hR
 refine ent Tryz.func158 Tryz.ntmps158 rfl rfl ?_
 intro a F
 refine sq fun K1 hK1 => ?_
 refine rg ?_
 refine dbx F S rfl rfl rfl rfl rfl rfl fun a w b3 F S => ?_
 refine dn ?_
 refine tn <| hK1 _ _ ?_
 refine sq fun K2 hK2 => ?_
 refine sq fun K3 hK3 => ?_
 refine rg ?_
 refine dv F (y_fa rfl rfl fi55_1) rfl rfl rfl fun a F => ?_
 refine dv F (y_ld rfl rfl (S.ld (i := 6) rfl rfl Tryz.isAgg4)) rfl rfl rfl fun a F => ?_
 refine dv F (y_nt rfl rfl) rfl rfl rfl fun a F => ?_
 refine dn ?_
 refine tn <| hK3 _ _ ?_
 refine cb F rfl (fun h1 => ?_) (fun h1 => ?_)
 ·have g1 := h1
  try simp only [zi1, zi2, zi3, zi4, zi5, zi6, zi7, zi8] at g1
  refine sq fun K4 hK4 => ?_
  refine rg ?_
  refine dv F (y_ld rfl rfl (ld1 Tryz.isAgg67 (S.fzc (i := 3) rfl (hle _ _ q1) rfl))) rfl rfl rfl fun a F => ?_
  refine dc F (c_f rfl rfl rfl Tryz.call123) rfl rfl rfl (c_fail 10 (Rep.mk' hle hE hv (S.pick [0, 1, 2, 3, 4, 5] _ ⟨rfl, rfl, rfl, rfl, rfl, rfl, trivial⟩ rfl))) fun a v w' hr F => ?_
  have hR := hr
  refine dn ?_
  refine tn <| hK4 _ _ ?_
  refine wp_ret ?_
  refine tr <| ?_
  exact rt0 F rfl (by rw [then_scan_f (by simpa using g1)]; exact hR)
 ·have g1 := h1
  try simp only [zi1, zi2, zi3, zi4, zi5, zi6, zi7, zi8] at g1
  refine wp_skip ?_
  refine tn <| hK2 _ _ ?_
  refine rg ?_
  refine dv F (y_ld rfl rfl (ld1 Tryz.isAgg160 (S.fzc (i := 3) rfl (hle _ _ q2) rfl))) rfl rfl rfl fun a F => ?_
  refine dv F (y_fa rfl rfl fi55_2) rfl rfl rfl fun a F => ?_
  refine dv F (y_ld rfl rfl (S.ld (i := 6) rfl rfl Tryz.isAgg9)) rfl rfl rfl fun a F => ?_
  refine dc F (c_f rfl rfl rfl Tryz.call159) rfl rfl rfl (c_scanLines k.data wd G q3 q4 q5 (hs (by simpa using g1)) (hT (by simpa using g1)) (Rep.mk' hle hE hv (S.pick [0, 1, 2, 3, 4, 5] _ ⟨rfl, rfl, rfl, rfl, rfl, rfl, trivial⟩ rfl))) fun a v w' hr F => ?_
  have hR := hr
  refine dn ?_
  refine ?_
  exact rn0 F rfl (by rw [then_scan_t (by simpa using g1)]; exact hR)
theorem c_then (t : Th) (k : Kn) {cap : List Value} {C : RC} {sb : Nat} {sr : Res} {H0 : Hp} {σ : RS} {mr : Res} {w0 W : World} (G : Gl w0) (ht : ThC H0 C.rb sb t cap) (hb : σ.buf.size ≤ 100000) (hs : k.is = true → k.data.size ≤ 1000000) (hT : k.is = true → σ.todo.length + (lines k.data).length ≤ 1000000000000) (hR : Rep C sb sr H0 σ mr w0 W) : Calls Tryz.prog (thF t) ([Value.agg (encK k).toArray] ++ cap).toArray W (Ret fun v w' => Rep C sb sr H0 (σ.then_ t k) mr w0 w') := by
 cases t with
 | rd =>
  obtain ⟨b1, b2, rfl, q1, q2⟩ := ht
  exact c_thereRd k q1 q2 hb (fun h => by have := hs h; omega) hR
 | try_ =>
  obtain ⟨b1, rfl, q1⟩ := ht
  exact c_tryK k q1 hb (fun h => by have := hs h; omega) hR
 | scan x =>
  obtain ⟨b1, b2, b3, b4, b5, rfl, q1, q2, q3, q4, q5⟩ := ht
  exact c_thereScan k x G q1 q2 q3 q4 q5 hs hT hR
theorem he_then (t : Th) : ∀ (args : Array Value) (w : World), (callFunc (thF t) args).run Tryz.prog w = .ok (.enter (thF t) args) w := by
 cases t with
 | rd => exact Tryz.call158
 | try_ => exact Tryz.call119
 | scan x => exact Tryz.call158
end Go.Proofs.YtgcmddaibnimjaaGreatDoor
namespace Go.Eng
open Go.RowKit
def capOwn : Value → List Nat
 | .func _ _ caps => caps.toList.filterMap fun v => match v with
  | .pointer (some a) => some a.block
  | _ => none
 | _ => []
section
variable {P : Program} {n m : Nat} {l0 : List (Nat × Value)} {w0 w w1 : World} {l' : List Oper} {L : List HS} {a : Act} {hs : List Res}
theorem pk2_ok {r s : Res} (hr : r.ok w) (hs : s.ok w) : (pk [r, s]).ok w := fun i t h => by
 match i, h with
 | 0, h => cases h; exact hr
 | 1, h => cases h; exact hs
 | i + 2, h => cases h
theorem pk2_fp {r s : Res} {k : Nat} (h : (pk [r, s]).fp k) : r.fp k ∨ s.fp k := by
 obtain ⟨i, t, h, hk⟩ := h
 match i, h with
 | 0, h => cases h; exact .inl hk
 | 1, h => cases h; exact .inr hk
 | i + 2, h => cases h
theorem sep2 {b c e f : Nat} {cs ds : List Value} (h : b ≠ c) : SepL [bk b e cs, bk c f ds] := by
 intro i j r s hi hj hne k hk hk'
 match i, j, hi, hj with
 | 0, 0, _, _ => exact hne rfl
 | 1, 1, _, _ => exact hne rfl
 | 0, 1, hi, hj => cases hi; cases hj; exact h (hk.symm.trans hk')
 | 1, 0, hi, hj => cases hi; cases hj; exact h (hk'.symm.trans hk)
 | i + 2, _, hi, _ => cases hi
 | 0, j + 2, _, hj => cases hj
 | 1, j + 2, _, hj => cases hj
theorem EX.two {ds : List Nat} (J : PJ P w n l0 l' m (fun i => (L.getD i hs0).h) (Array.replicate m true ++ Array.replicate (l'.length - m) false) a w1) (hw : w0.heap.size ≤ w.heap.size) (E : EX w0 w w1 l' (fun i => (L.getD i hs0).h) a ds hs) (i : Nat) (hi : Nat.blt i m = true) (hds : (ds.all fun j => !Nat.beq j i && Nat.blt j m) = true) {b c e f d : Nat} {cs es : List Value}
  (hd : dsl l' i = d) (hb : w1.heap[b]? = some (.cells cs.toArray e (0, 0))) (hc : w1.heap[c]? = some (.cells es.toArray f (0, 0))) (ho : (L.getD i hs0).own (a.tmps.getD d undef) = [b, c]) : EX w0 w w1 l' (fun i => (L.getD i hs0).h) a (i :: ds) (hs ++ [pk [bk b e cs, bk c f es]]) :=
 EX.add J hw E i (by simpa [Nat.blt_eq] using hi) hds _ (pk2_ok hb hc) fun k hk => by
  rw [hd]
  show k ∈ (L.getD i hs0).own _
  rw [ho]
  rcases pk2_fp hk with h | h
  ·have : k = b := h
   subst this; simp
  ·have : k = c := h
   subst this; simp
end
section
variable {P : Program} {w : World} {l : List (Nat × Value)} {o : Oper} {u v : Value}
theorem y_cast (h : u = v) (y : Yl P o l w u w) : Yl P o l w v w := h ▸ y
end
end Go.Eng
namespace Go.Proofs.YtgcmddaibnimjaaGreatDoor
open Go.RowKit Go.Eng
theorem kmap_len (l : List Kn) : Value.int .i64 ((kmap l).length : Int) = .int .i64 (l.length : Int) := by rw [kmap, List.length_map]
theorem getE_kmap (p : ByteArray) : ∀ l : List Kn, getE (kmap l) p = (kfind l p).map fun k => .agg (encK k).toArray
 | [] => rfl
 | k :: l => by
  have ih := getE_kmap p l
  simp only [getE, kmap, kfind, List.map_cons, List.find?_cons] at ih ⊢
  by_cases h : k.path = p
  ·simp [h]
  ·simp only [h, decide_false]; exact ih
theorem zv55 (w : World) : (zeroValue 55).run Tryz.prog w = .ok (.agg (encK k0).toArray) w := by kernel_rfl
theorem lk_known' (l : List Kn) (p : ByteArray) : (getE (kmap l) p).getD (.agg (encK k0).toArray) = .agg (encK ((kfind l p).getD k0)).toArray := by
 rw [getE_kmap]; cases kfind l p <;> rfl
theorem lk_known (l : List Kn) (p : ByteArray) : Value.tuple [(getE (kmap l) p).getD (.agg (encK k0).toArray), .bool (getE (kmap l) p).isSome].toArray = .tuple [.agg (encK ((kfind l p).getD k0)).toArray, .bool (kfind l p).isSome].toArray := by
 rw [lk_known', getE_kmap]; cases kfind l p <;> rfl
theorem one55 (k : Kn) : ∀ u ∈ encK k, u.oneCell' = true := fun u hu => by
 simp only [encK, List.mem_cons, List.not_mem_nil, or_false] at hu
 rcases hu with rfl | rfl | rfl <;> rfl
theorem kfind_mem {l : List Kn} {p : ByteArray} {k : Kn} (h : kfind l p = some k) : k ∈ l ∧ k.path = p := ⟨List.mem_of_find?_eq_some h, by simpa using List.find?_some h⟩
theorem kfind_small {l : List Kn} (hk : ∀ k ∈ l, k.is = true → k.data.size ≤ 65536) (p : ByteArray) : ((kfind l p).getD k0).is = true → ((kfind l p).getD k0).data.size ≤ 65536 := by
 cases h : kfind l p with
 | none => exact fun _ => Nat.zero_le _
 | some k => exact hk k (kfind_mem h).1
theorem kfind_size {l : List Kn} (hk : ∀ k ∈ l, k.is = true → k.data.size ≤ 65536) {p : ByteArray} : ((kfind l p).getD k0).is = true → ((kfind l p).getD k0).data.size ≤ 1000000 := fun h => Nat.le_trans (kfind_small hk p h) (by decide)
theorem trimS_size (s : ByteArray) : (trimS s).size ≤ s.size := by
 show (Lib.trimSuffix _ _).toArray.size ≤ _
 rw [List.size_toArray]
 have : (Lib.trimSuffix s.data.toList nlB.data.toList).length ≤ s.data.toList.length := by
  unfold Lib.trimSuffix
  split
  ·rw [List.length_take]; omega
  ·exact Nat.le_refl _
 simpa using this
theorem lines_le (s : ByteArray) : (lines s).length ≤ s.size + 1 := by
 unfold lines
 split
 ·exact Nat.zero_le _
 ·have h1 := Lib.countB_le nlB (by decide) (trimS s).size (trimS s) (Nat.le_refl _)
  have h2 : (splitOn nlB (trimS s)).length = Lib.countB (trimS s) nlB + 1 := Lib.splitB_all nlB (by decide) 0 _ (trimS s) rfl
  have := trimS_size s
  omega
theorem kfind_lines {l : List Kn} (hk : ∀ k ∈ l, k.is = true → k.data.size ≤ 65536) (p : ByteArray) (h : ((kfind l p).getD k0).is = true) : (lines ((kfind l p).getD k0).data).length ≤ 65537 := by
 have := lines_le ((kfind l p).getD k0).data
 have := kfind_small hk p h
 omega
theorem ask_hit {σ : RS} {p : ByteArray} {t : Th} (h : (kfind σ.known p).isSome = true) : σ.ask p t = σ.then_ t ((kfind σ.known p).getD k0) := by
 unfold RS.ask
 cases hk : kfind σ.known p with
 | none => rw [hk] at h; cases h
 | some k => rfl
theorem ask_full {σ : RS} {p : ByteArray} {t : Th} (h : (kfind σ.known p).isSome = false) (hl : 500 ≤ σ.known.length) : σ.ask p t = σ.fail 6 := by
 unfold RS.ask
 cases hk : kfind σ.known p with
 | some k => rw [hk] at h; cases h
 | none => exact if_pos hl
theorem ask_wait {σ : RS} {p : ByteArray} {t : Th} (h : (kfind σ.known p).isSome = false) (hl : ¬ 500 ≤ σ.known.length) : σ.ask p t = { σ with asks := p, waits := true, todo := σ.todo ++ [.got p t] } := by
 unfold RS.ask
 cases hk : kfind σ.known p with
 | some k => rw [hk] at h; cases h
 | none => exact if_neg hl
theorem add_seen (σ : RS) (s : ByteArray) : (σ.add s).seen = σ.seen := by unfold RS.add; split <;> rfl
theorem then_seen (σ : RS) (t : Th) (k : Kn) : (σ.then_ t k).seen = σ.seen := by
 cases t <;> simp only [RS.then_] <;> split <;> first | rfl | exact add_seen _ _
theorem ask_seen (σ : RS) (p : ByteArray) (t : Th) : (σ.ask p t).seen = σ.seen := by
 unfold RS.ask
 split
 ·exact then_seen _ _ _
 ·split <;> rfl
theorem smap_snoc (l : List ByteArray) (p : ByteArray) : smap (l ++ [p]) = smap l ++ [(p, .bool true)] := by simp [smap]
theorem getE_smap (p : ByteArray) : ∀ l : List ByteArray, getE (smap l) p = if seenB l p = true then some (.bool true) else none
 | [] => rfl
 | x :: l => by
  have ih := getE_smap p l
  simp only [getE, smap, seenB, List.map_cons, List.find?_cons, List.any_cons] at ih ⊢
  by_cases h : x = p
  ·simp [h]
  ·simp only [h, decide_false, Bool.false_or]; exact ih
theorem seen_none {l : List ByteArray} {p : ByteArray} (h : seenB l p = false) : getE (smap l) p = none := by rw [getE_smap, h]; rfl
theorem lk_seen (l : List ByteArray) (p : ByteArray) : (getE (smap l) p).getD (.bool false) = .bool (seenB l p) := by
 rw [getE_smap]; cases seenB l p <;> rfl
def thCC (b : Nat) (fv v : Value) (w : World) : Prop := ∃ b1 b2, v = .func (.func 158) #[] [pt b1, pt b2].toArray ∧ b1 ≠ b2 ∧ w.heap[b1]? = some (.cells [pt b].toArray 67 (0, 0)) ∧ w.heap[b2]? = some (.cells [fv].toArray 160 (0, 0))
theorem thCC_per {b : Nat} {fv : Value} : ∀ v w1 w2, Below w1.heap.size w1 w2 → thCC b fv v w1 → thCC b fv v w2 := fun v w1 w2 hb ⟨b1, b2, h1, h2, h3, h4⟩ =>
 ⟨b1, b2, h1, h2, (hb.block b1 (Array.getElem?_eq_some_iff.1 h3).1).trans h3, (hb.block b2 (Array.getElem?_eq_some_iff.1 h4).1).trans h4⟩
theorem thCC_w {b : Nat} {f : Fn} {bd cp : Array Value} {w1 : World} : ∀ (v : Value) (w2 : World), (∃ b1 b2, v = .func (.func 158) #[] [pt b1, pt b2].toArray ∧ b1 ≠ b2 ∧ w2.heap[b1]? = some (.cells [pt b].toArray 67 (0, 0)) ∧ w2.heap[b2]? = some (.cells [Value.func f bd cp].toArray 160 (0, 0)) ∧ w1.heap.size ≤ b1 ∧ w1.heap.size ≤ b2 ∧ Below w1.heap.size w1 w2) →
  Below w1.heap.size w1 w2 ∧ thCC b (.func f bd cp) v w2 ∧ ∀ k ∈ capOwn v, w1.heap.size ≤ k ∧ k < w2.heap.size := fun v w2 ⟨b1, b2, h1, h2, h3, h4, h5, h6, h7⟩ => by
 refine ⟨h7, ⟨b1, b2, h1, h2, h3, h4⟩, fun k hk => ?_⟩
 subst h1
 have hk' : k ∈ [b1, b2] := hk
 simp only [List.mem_cons, List.not_mem_nil, or_false] at hk'
 rcases hk' with rfl | rfl
 ·exact ⟨h5, (Array.getElem?_eq_some_iff.1 h3).1⟩
 ·exact ⟨h6, (Array.getElem?_eq_some_iff.1 h4).1⟩
theorem fi137_3 : FieldIs Tryz.prog 137 3 3 := fieldIs (z := 0) Tryz.underlying137 rfl rfl rfl Tryz.sizeOf134
theorem fi137_4 : FieldIs Tryz.prog 137 4 4 := fieldIs (z := 0) Tryz.underlying137 rfl rfl rfl Tryz.sizeOf9
theorem fi137_5 : FieldIs Tryz.prog 137 5 5 := fieldIs (z := 0) Tryz.underlying137 rfl rfl rfl Tryz.sizeOf4
theorem c_ask (p : ByteArray) (t : Th) {cap : List Value} {C : RC} {sb : Nat} {sr : Res} {H0 : Hp} {σ : RS} {mr : Res} {w0 W : World} (G : Gl w0) (ht : ThC H0 C.rb sb t cap) (hb : σ.buf.size ≤ 100000) (hk : ∀ k ∈ σ.known, k.is = true → k.data.size ≤ 65536) (hT : σ.todo.length ≤ 900000000000) (hR : Rep C sb sr H0 σ mr w0 W) : Calls Tryz.prog 116 [.pointer (some ⟨C.rb, 0, none⟩), .string p, .func (.func (thF t)) #[] cap.toArray].toArray W (Ret fun v w' => Rep C sb sr H0 (σ.ask p t) mr w0 w') := by
 obtain ⟨A, c, vals, H, hle, hE, hv, S⟩ := hR
 refine ent Tryz.func116 Tryz.ntmps116 rfl rfl ?_
 intro a F
 refine sq fun K1 hK1 => ?_
 refine rg ?_
 refine dbx F S rfl rfl rfl rfl rfl rfl fun a w b3 F S => ?_
 refine dbx F S rfl rfl rfl rfl rfl rfl fun a w b4 F S => ?_
 refine dbx F S rfl rfl rfl rfl rfl rfl fun a w b5 F S => ?_
 refine dn ?_
 refine tn <| hK1 _ _ ?_
 refine sq fun K2 hK2 => ?_
 refine sq fun K3 hK3 => ?_
 have hgo : ∀ (b6 : Nat) (a : Act) (w : World), Fr 46 a [(0, pt C.rb), (1, .string p), (2, .func (.func (thF t)) #[] cap.toArray), (3, pt b3), (4, pt b4), (5, pt b5), (6, pt b6), (7, .bool (kfind σ.known p).isSome)] → St w0 w [bk C.rb 137 (rcells C A vals.length c σ), ow 1 1 (.slice A vals.length c) vals.length vals, mpe C.kb (kmap σ.known), fz H, sr, mr, bk b3 67 [pt C.rb], bk b4 9 [.string p], bk b5 181 [.func (.func (thF t)) #[] cap.toArray], bk b6 55 (encK ((kfind σ.known p).getD k0))] → K3 a w := by
  intro b6 a w F S
  refine hK3 _ _ ?_
  refine sq fun K4 hK4 => ?_
  refine rg ?_
  refine dv F (y_mv rfl rfl) rfl rfl rfl fun a F => ?_
  refine dn ?_
  refine tn <| hK4 _ _ ?_
  refine cb F rfl (fun h1 => ?_) (fun h1 => ?_)
  ·have g1 := h1
   try simp only [zi1, zi2, zi3, zi4, zi5, zi6, zi7, zi8] at g1
   refine sq fun K5 hK5 => ?_
   refine rg ?_
   refine dv F (y_ld rfl rfl (S.ld (i := 8) rfl rfl Tryz.isAgg181)) rfl rfl rfl fun a F => ?_
   refine dv F (y_ld rfl rfl (S.lda (i := 9) rfl Tryz.isAgg55 Tryz.sizeOf55 rfl)) rfl rfl rfl fun a F => ?_
   refine dc F (c_f rfl rfl rfl (he_then t)) rfl rfl rfl (c_then t _ G ht hb (kfind_size hk) (fun h => by have := kfind_lines hk p h; omega) (Rep.mk' hle hE hv (S.pick [0, 1, 2, 3, 4, 5] _ ⟨rfl, rfl, rfl, rfl, rfl, rfl, trivial⟩ rfl))) fun a v w' hr F => ?_
   have hR := hr
   refine dn ?_
   refine tn <| hK5 _ _ ?_
   refine wp_ret ?_
   refine tr <| ?_
   exact rt0 F rfl (by rw [ask_hit g1]; exact hR)
  ·have g1 := h1
   try simp only [zi1, zi2, zi3, zi4, zi5, zi6, zi7, zi8] at g1
   refine wp_skip ?_
   refine tn <| hK2 _ _ ?_
   refine sq fun K6 hK6 => ?_
   refine sq fun K7 hK7 => ?_
   refine rg ?_
   refine dv F (y_ld rfl rfl (S.ld (i := 6) rfl rfl Tryz.isAgg67)) rfl rfl rfl fun a F => ?_
   refine dv F (y_nc rfl rfl) rfl rfl rfl fun a F => ?_
   refine dv F (y_fa rfl rfl fi137_3) rfl rfl rfl fun a F => ?_
   refine dv F (y_ld rfl rfl (S.ld (i := 0) rfl rfl Tryz.isAgg134)) rfl rfl rfl fun a F => ?_
   refine dv F (y_cast (kmap_len _) (y_lnm rfl rfl (S.ok (i := 2) rfl) Tryz.underlying134)) rfl rfl rfl fun a F => ?_
   refine dv F (y_ge rfl rfl rfl) rfl rfl rfl fun a F => ?_
   refine dn ?_
   refine tn <| hK7 _ _ ?_
   refine cb F rfl (fun h2 => ?_) (fun h2 => ?_)
   ·have g2 := h2
    try simp only [zi1, zi2, zi3, zi4, zi5, zi6, zi7, zi8] at g2
    refine sq fun K8 hK8 => ?_
    refine rg ?_
    refine dv F (y_ld rfl rfl (S.ld (i := 6) rfl rfl Tryz.isAgg67)) rfl rfl rfl fun a F => ?_
    refine dc F (c_f rfl rfl rfl Tryz.call123) rfl rfl rfl (c_fail 6 (Rep.mk' hle hE hv (S.pick [0, 1, 2, 3, 4, 5] _ ⟨rfl, rfl, rfl, rfl, rfl, rfl, trivial⟩ rfl))) fun a v w' hr F => ?_
    have hR := hr
    refine dn ?_
    refine tn <| hK8 _ _ ?_
    refine wp_ret ?_
    refine tr <| ?_
    exact rt0 F rfl (by rw [ask_full g1 (by omega)]; exact hR)
   ·have g2 := h2
    try simp only [zi1, zi2, zi3, zi4, zi5, zi6, zi7, zi8] at g2
    refine wp_skip ?_
    refine tn <| hK6 _ _ ?_
    refine sq fun K9 hK9 => ?_
    have hgo : ∀ (a : Act) (w : World), Fr 46 a [(0, pt C.rb), (1, .string p), (2, .func (.func (thF t)) #[] cap.toArray), (3, pt b3), (4, pt b4), (5, pt b5)] → St w0 w [bk C.rb 137 (rcells C A vals.length c { σ with asks := p, waits := true }), ow 1 1 (.slice A vals.length c) vals.length vals, mpe C.kb (kmap σ.known), fz H, sr, mr, bk b3 67 [pt C.rb], bk b4 9 [.string p], bk b5 181 [.func (.func (thF t)) #[] cap.toArray]] → K9 a w := by
     intro  a w F S
     refine hK9 _ _ ?_
     refine rpF [.p, .p, .p, .p, .p, .p, .b 1 (mkS 1) [.tmp 41] (fun vs => vs)] 7 0 [[], [], [1], [1, 2], [1, 2, 3], [], [5]] [(0, _), (1, _), (2, _), (3, _), (4, _), (5, _)] F ⟨rfl, rfl, rfl, rfl, rfl, rfl, trivial⟩ Tryz.mixed (by kernel_rfl) rfl (by decide) (by decide) (by kernel_rfl) (by kernel_rfl) (by kernel_rfl) (by kernel_rfl) ⟨?_, ?_, ?_, ?_, ?_, ?_, ?_, trivial⟩ (fun a w1 J => ?_) (fun a w1 om of_ hom hof J => ?_)
     ·intro a w1 hB F hA
      have S0 := S
      replace S := S.call hB
      exact pv F (fun w2 hB2 => have S := S.call hB2; y_ld rfl rfl (S.ld (i := 6) rfl rfl Tryz.isAgg67)) rfl rfl rfl (by decide)
     ·intro a w1 hB F hA
      have S0 := S
      replace S := S.call hB
      exact pv F (fun w2 hB2 => have S := S.call hB2; y_ld rfl rfl (S.ld (i := 6) rfl rfl Tryz.isAgg67)) rfl rfl rfl (by decide)
     ·intro a w1 hB F hA
      have S0 := S
      replace S := S.call hB
      replace F := F.eP (hA 1 (by decide)) rfl (d := 37) rfl rfl (y_ld rfl rfl (S.ld (i := 6) rfl rfl Tryz.isAgg67))
      exact pv F (fun w2 hB2 => have S := S.call hB2; y_nc rfl rfl) rfl rfl rfl (by decide)
     ·intro a w1 hB F hA
      have S0 := S
      replace S := S.call hB
      replace F := F.eP (hA 1 (by decide)) rfl (d := 37) rfl rfl (y_ld rfl rfl (S.ld (i := 6) rfl rfl Tryz.isAgg67))
      replace F := F.eP (hA 2 (by decide)) rfl (d := 38) rfl rfl (y_nc rfl rfl)
      exact pv F (fun w2 hB2 => have S := S.call hB2; y_fa rfl rfl fi137_0) rfl rfl rfl (by decide)
     ·intro a w1 hB F hA
      have S0 := S
      replace S := S.call hB
      replace F := F.eP (hA 1 (by decide)) rfl (d := 37) rfl rfl (y_ld rfl rfl (S.ld (i := 6) rfl rfl Tryz.isAgg67))
      replace F := F.eP (hA 2 (by decide)) rfl (d := 38) rfl rfl (y_nc rfl rfl)
      replace F := F.eP (hA 3 (by decide)) rfl (d := 39) rfl rfl (y_fa rfl rfl fi137_0)
      exact pv F (fun w2 hB2 => have S := S.call hB2; y_ld rfl rfl (S.ld (i := 0) rfl rfl Tryz.isAgg135)) rfl rfl rfl (by decide)
     ·intro a w1 hB F hA
      have S0 := S
      replace S := S.call hB
      exact pv F (fun w2 hB2 => have S := S.call hB2; y_mf rfl rfl) rfl rfl rfl (by decide)
     ·intro a w1 hB F hA
      have S0 := S
      replace S := S.call hB
      replace F := F.eP (hA 5 (by decide)) rfl (d := 41) rfl rfl (y_mf rfl rfl)
      exact pb F rfl (y_bs rfl rfl bs135) (fun _ => rfl) rfl rfl rfl
     ·have F := J.fr
      have E := EX.start J S
      have hle' := S.bel.size
      replace S := S.call J.bel
      replace F := F.eP (J.at 0 rfl) rfl (d := 36) rfl rfl (y_ld rfl rfl (S.ld (i := 6) rfl rfl Tryz.isAgg67))
      replace F := F.eP (J.at 1 rfl) rfl (d := 37) rfl rfl (y_ld rfl rfl (S.ld (i := 6) rfl rfl Tryz.isAgg67))
      replace F := F.eP (J.at 2 rfl) rfl (d := 38) rfl rfl (y_nc rfl rfl)
      replace F := F.eP (J.at 3 rfl) rfl (d := 39) rfl rfl (y_fa rfl rfl fi137_0)
      replace F := F.eP (J.at 4 rfl) rfl (d := 40) rfl rfl (y_ld rfl rfl (S.ld (i := 0) rfl rfl Tryz.isAgg135))
      replace F := F.eP (J.at 5 rfl) rfl (d := 41) rfl rfl (y_mf rfl rfl)
      obtain ⟨b42, F, hb42, ho42⟩ := F.eB (P := Tryz.prog) (e := 1) (mk := mkS 1) (xs := [.tmp 41]) (cs := fun vs => vs) (J.at 6 rfl) rfl (d := 42) rfl rfl rfl
      have E := EX.row J hle' E 6 rfl rfl (d := 42) (e := 1) (cs := [(Value.func (.func 157) #[] [pt b5, pt b3, pt b4].toArray)]) rfl hb42 ho42
      replace S := E.st
      clear E J
      refine dap F S rfl rfl rfl (i := 1) rfl (S.fl (i := 9) rfl) rfl one1 Tryz.underlying135 ai1 rfl (N := (vals ++ [(Value.func (.func 157) #[] [pt b5, pt b3, pt b4].toArray)]).length) (XS := vals ++ [(Value.func (.func 157) #[] [pt b5, pt b3, pt b4].toArray)]) (by rw [List.length_append]; rfl) rfl (by have := hv.len; rw [List.length_append]; simp only [List.length_cons, List.length_nil]; omega) (by have := hv.len; rw [List.length_append]; simp only [List.length_cons, List.length_nil]; omega) rfl rfl rfl fun a w A' c' F S => ?_
      refine dv F (y_nc rfl rfl) rfl rfl rfl fun a F => ?_
      refine dv F (y_fa rfl rfl fi137_0) rfl rfl rfl fun a F => ?_
      refine dst F S rfl rfl rfl Tryz.sizeOf135 (i := 0) rfl rfl (Nat.le_of_ble_eq_true rfl) one1 rfl rfl fun a w F S => ?_
      refine dn ?_
      refine ?_
      obtain ⟨H1, hl1, hf1, S⟩ := S.frz (i := 3) (j := 6) rfl rfl (by decide)
      obtain ⟨H2, hl2, hf2, S⟩ := S.frz (i := 3) (j := 7) rfl rfl (by decide)
      obtain ⟨H3, hl3, hf3, S⟩ := S.frz (i := 3) (j := 8) rfl rfl (by decide)
      have hKK := Hp.le_trans hl1 (Hp.le_trans hl2 hl3)
      exact rn0 F rfl (by rw [ask_wait g1 (by omega)]; exact ⟨A', c', _, H3, Hp.le_trans hle hKK, hE.le hKK, (hv.mono fun _ _ _ h => h.le hKK).snoc ⟨b5, b3, b4, _, rfl, hf3, ⟨cap, rfl, (ht.le hle).le hKK⟩, hl3 _ _ (hl2 _ _ hf1), hl3 _ _ hf2⟩, (S.pick [0, 1, 2, 3, 4, 5] _ ⟨rfl, rfl, rfl, rfl, rfl, rfl, trivial⟩ rfl)⟩)
     ·have F := J.fr
      obtain rfl := Option.some.inj hom
      obtain rfl := Option.some.inj hof
      have E := EX.start J S
      have hle' := S.bel.size
      replace S := S.call J.bel
      replace F := F.eP (J.atF 1 rfl) rfl (d := 37) rfl rfl (y_ld rfl rfl (S.ld (i := 6) rfl rfl Tryz.isAgg67))
      replace F := F.eP (J.atF 2 rfl) rfl (d := 38) rfl rfl (y_nc rfl rfl)
      replace F := F.eP (J.atF 3 rfl) rfl (d := 39) rfl rfl (y_fa rfl rfl fi137_0)
      replace F := F.eP (J.atF 4 rfl) rfl (d := 40) rfl rfl (y_ld rfl rfl (S.ld (i := 0) rfl rfl Tryz.isAgg135))
      replace F := F.eP (J.atF 5 rfl) rfl (d := 41) rfl rfl (y_mf rfl rfl)
      obtain ⟨b42, F, hb42, ho42⟩ := F.eB (P := Tryz.prog) (e := 1) (mk := mkS 1) (xs := [.tmp 41]) (cs := fun vs => vs) (J.atF 6 rfl) rfl (d := 42) rfl rfl rfl
      have E := EX.rowF J hle' E 6 rfl rfl (d := 42) (e := 1) (cs := [(Value.func (.func 157) #[] [pt b5, pt b3, pt b4].toArray)]) rfl hb42 ho42
      replace S := E.st
      clear E J
      refine dap F S rfl rfl rfl (i := 1) rfl (S.fl (i := 9) rfl) rfl one1 Tryz.underlying135 ai1 rfl (N := (vals ++ [(Value.func (.func 157) #[] [pt b5, pt b3, pt b4].toArray)]).length) (XS := vals ++ [(Value.func (.func 157) #[] [pt b5, pt b3, pt b4].toArray)]) (by rw [List.length_append]; rfl) rfl (by have := hv.len; rw [List.length_append]; simp only [List.length_cons, List.length_nil]; omega) (by have := hv.len; rw [List.length_append]; simp only [List.length_cons, List.length_nil]; omega) rfl rfl rfl fun a w A' c' F S => ?_
      refine dv F (y_ld rfl rfl (S.ld (i := 6) rfl rfl Tryz.isAgg67)) rfl rfl rfl fun a F => ?_
      refine dv F (y_nc rfl rfl) rfl rfl rfl fun a F => ?_
      refine dv F (y_fa rfl rfl fi137_0) rfl rfl rfl fun a F => ?_
      refine dst F S rfl rfl rfl Tryz.sizeOf135 (i := 0) rfl rfl (Nat.le_of_ble_eq_true rfl) one1 rfl rfl fun a w F S => ?_
      refine dn ?_
      refine ?_
      obtain ⟨H1, hl1, hf1, S⟩ := S.frz (i := 3) (j := 6) rfl rfl (by decide)
      obtain ⟨H2, hl2, hf2, S⟩ := S.frz (i := 3) (j := 7) rfl rfl (by decide)
      obtain ⟨H3, hl3, hf3, S⟩ := S.frz (i := 3) (j := 8) rfl rfl (by decide)
      have hKK := Hp.le_trans hl1 (Hp.le_trans hl2 hl3)
      exact rn0 F rfl (by rw [ask_wait g1 (by omega)]; exact ⟨A', c', _, H3, Hp.le_trans hle hKK, hE.le hKK, (hv.mono fun _ _ _ h => h.le hKK).snoc ⟨b5, b3, b4, _, rfl, hf3, ⟨cap, rfl, (ht.le hle).le hKK⟩, hl3 _ _ (hl2 _ _ hf1), hl3 _ _ hf2⟩, (S.pick [0, 1, 2, 3, 4, 5] _ ⟨rfl, rfl, rfl, rfl, rfl, rfl, trivial⟩ rfl)⟩)
    refine rpF [.p, .p, .p, .p, .p] 5 1 [[], [], [], [0, 2], [0, 2, 3]] [(0, _), (1, _), (2, _), (3, _), (4, _), (5, _), (6, _), (7, _), (17, _), (21, _), (22, _), (23, _), (24, _), (25, _), (26, _)] F ⟨rfl, rfl, rfl, rfl, rfl, rfl, rfl, rfl, rfl, rfl, rfl, rfl, rfl, rfl, rfl, trivial⟩ Tryz.mixed (by kernel_rfl) rfl (by decide) (by decide) (by kernel_rfl) (by kernel_rfl) (by kernel_rfl) (by kernel_rfl) ⟨?_, ?_, ?_, ?_, ?_, trivial⟩ (fun a w1 J => ?_) (fun a w1 om of_ hom hof J => ?_)
    ·intro a w1 hB F hA
     have S0 := S
     replace S := S.call hB
     exact pv F (fun w2 hB2 => have S := S.call hB2; y_ld rfl rfl (S.ld (i := 6) rfl rfl Tryz.isAgg67)) rfl rfl rfl (by decide)
    ·intro a w1 hB F hA
     have S0 := S
     replace S := S.call hB
     exact pv F (fun w2 hB2 => have S := S.call hB2; y_ld rfl rfl (S.ld (i := 6) rfl rfl Tryz.isAgg67)) rfl rfl rfl (by decide)
    ·intro a w1 hB F hA
     have S0 := S
     replace S := S.call hB
     exact pv F (fun w2 hB2 => have S := S.call hB2; y_ld rfl rfl (S.ld (i := 7) rfl rfl Tryz.isAgg9)) rfl rfl rfl (by decide)
    ·intro a w1 hB F hA
     have S0 := S
     replace S := S.call hB
     replace F := F.eP (hA 0 (by decide)) rfl (d := 29) rfl rfl (y_ld rfl rfl (S.ld (i := 6) rfl rfl Tryz.isAgg67))
     replace F := F.eP (hA 2 (by decide)) rfl (d := 31) rfl rfl (y_ld rfl rfl (S.ld (i := 7) rfl rfl Tryz.isAgg9))
     exact pv F (fun w2 hB2 => have S := S.call hB2; y_nc rfl rfl) rfl rfl rfl (by decide)
    ·intro a w1 hB F hA
     have S0 := S
     replace S := S.call hB
     replace F := F.eP (hA 0 (by decide)) rfl (d := 29) rfl rfl (y_ld rfl rfl (S.ld (i := 6) rfl rfl Tryz.isAgg67))
     replace F := F.eP (hA 2 (by decide)) rfl (d := 31) rfl rfl (y_ld rfl rfl (S.ld (i := 7) rfl rfl Tryz.isAgg9))
     replace F := F.eP (hA 3 (by decide)) rfl (d := 32) rfl rfl (y_nc rfl rfl)
     exact pv F (fun w2 hB2 => have S := S.call hB2; y_fa rfl rfl fi137_4) rfl rfl rfl (by decide)
    ·have F := J.fr
     have E := EX.start J S
     have hle' := S.bel.size
     replace S := S.call J.bel
     replace F := F.eP (J.at 0 rfl) rfl (d := 29) rfl rfl (y_ld rfl rfl (S.ld (i := 6) rfl rfl Tryz.isAgg67))
     replace F := F.eP (J.at 1 rfl) rfl (d := 30) rfl rfl (y_ld rfl rfl (S.ld (i := 6) rfl rfl Tryz.isAgg67))
     replace F := F.eP (J.at 2 rfl) rfl (d := 31) rfl rfl (y_ld rfl rfl (S.ld (i := 7) rfl rfl Tryz.isAgg9))
     replace F := F.eP (J.at 3 rfl) rfl (d := 32) rfl rfl (y_nc rfl rfl)
     replace F := F.eP (J.at 4 rfl) rfl (d := 33) rfl rfl (y_fa rfl rfl fi137_4)
     replace S := E.st
     clear E J
     refine dst F S rfl rfl rfl Tryz.sizeOf9 (i := 0) rfl rfl (Nat.le_of_ble_eq_true rfl) one1 rfl rfl fun a w F S => ?_
     refine dv F (y_nc rfl rfl) rfl rfl rfl fun a F => ?_
     refine dv F (y_fa rfl rfl fi137_5) rfl rfl rfl fun a F => ?_
     refine dst F S rfl rfl rfl Tryz.sizeOf4 (i := 0) rfl rfl (Nat.le_of_ble_eq_true rfl) one1 rfl rfl fun a w F S => ?_
     refine dn ?_
     exact tn (hgo  _ _ (F.sub _ ⟨rfl, rfl, rfl, rfl, rfl, rfl, trivial⟩) (S.pick [0, 1, 2, 3, 4, 5, 6, 7, 8] _ ⟨rfl, rfl, rfl, rfl, rfl, rfl, rfl, rfl, rfl, trivial⟩ rfl))
    ·have F := J.fr
     obtain rfl := Option.some.inj hom
     obtain rfl := Option.some.inj hof
     have E := EX.start J S
     have hle' := S.bel.size
     replace S := S.call J.bel
     replace F := F.eP (J.atF 0 rfl) rfl (d := 29) rfl rfl (y_ld rfl rfl (S.ld (i := 6) rfl rfl Tryz.isAgg67))
     replace F := F.eP (J.atF 2 rfl) rfl (d := 31) rfl rfl (y_ld rfl rfl (S.ld (i := 7) rfl rfl Tryz.isAgg9))
     replace F := F.eP (J.atF 3 rfl) rfl (d := 32) rfl rfl (y_nc rfl rfl)
     replace F := F.eP (J.atF 4 rfl) rfl (d := 33) rfl rfl (y_fa rfl rfl fi137_4)
     replace S := E.st
     clear E J
     refine dst F S rfl rfl rfl Tryz.sizeOf9 (i := 0) rfl rfl (Nat.le_of_ble_eq_true rfl) one1 rfl rfl fun a w F S => ?_
     refine dv F (y_ld rfl rfl (S.ld (i := 6) rfl rfl Tryz.isAgg67)) rfl rfl rfl fun a F => ?_
     refine dv F (y_nc rfl rfl) rfl rfl rfl fun a F => ?_
     refine dv F (y_fa rfl rfl fi137_5) rfl rfl rfl fun a F => ?_
     refine dst F S rfl rfl rfl Tryz.sizeOf4 (i := 0) rfl rfl (Nat.le_of_ble_eq_true rfl) one1 rfl rfl fun a w F S => ?_
     refine dn ?_
     exact tn (hgo  _ _ (F.sub _ ⟨rfl, rfl, rfl, rfl, rfl, rfl, trivial⟩) (S.pick [0, 1, 2, 3, 4, 5, 6, 7, 8] _ ⟨rfl, rfl, rfl, rfl, rfl, rfl, rfl, rfl, rfl, trivial⟩ rfl))
 refine rpF [.p, .p, .p, .p, .p, .p, .p, .p, .p, .b 55 (mkP) [] (fun _ => [.string ⟨#[]⟩, .bool false, .string ⟨#[]⟩])] 10 8 [[], [0], [0, 1], [0, 1, 2], [], [0, 1, 2, 3, 4], [0, 1, 2, 3, 4, 5], [0, 1, 2, 3, 4, 5, 6], [0, 1, 2, 3, 4, 5, 6], []] [(0, _), (1, _), (2, _), (3, _), (4, _), (5, _)] F ⟨rfl, rfl, rfl, rfl, rfl, rfl, trivial⟩ Tryz.mixed (by kernel_rfl) rfl (by decide) (by decide) (by kernel_rfl) (by kernel_rfl) (by kernel_rfl) (by kernel_rfl) ⟨?_, ?_, ?_, ?_, ?_, ?_, ?_, ?_, ?_, ?_, trivial⟩ (fun a w1 J => ?_) (fun a w1 om of_ hom hof J => ?_)
 ·intro a w1 hB F hA
  have S0 := S
  replace S := S.call hB
  exact pv F (fun w2 hB2 => have S := S.call hB2; y_ld rfl rfl (S.ld (i := 6) rfl rfl Tryz.isAgg67)) rfl rfl rfl (by decide)
 ·intro a w1 hB F hA
  have S0 := S
  replace S := S.call hB
  replace F := F.eP (hA 0 (by decide)) rfl (d := 9) rfl rfl (y_ld rfl rfl (S.ld (i := 6) rfl rfl Tryz.isAgg67))
  exact pv F (fun w2 hB2 => have S := S.call hB2; y_nc rfl rfl) rfl rfl rfl (by decide)
 ·intro a w1 hB F hA
  have S0 := S
  replace S := S.call hB
  replace F := F.eP (hA 0 (by decide)) rfl (d := 9) rfl rfl (y_ld rfl rfl (S.ld (i := 6) rfl rfl Tryz.isAgg67))
  replace F := F.eP (hA 1 (by decide)) rfl (d := 10) rfl rfl (y_nc rfl rfl)
  exact pv F (fun w2 hB2 => have S := S.call hB2; y_fa rfl rfl fi137_3) rfl rfl rfl (by decide)
 ·intro a w1 hB F hA
  have S0 := S
  replace S := S.call hB
  replace F := F.eP (hA 0 (by decide)) rfl (d := 9) rfl rfl (y_ld rfl rfl (S.ld (i := 6) rfl rfl Tryz.isAgg67))
  replace F := F.eP (hA 1 (by decide)) rfl (d := 10) rfl rfl (y_nc rfl rfl)
  replace F := F.eP (hA 2 (by decide)) rfl (d := 11) rfl rfl (y_fa rfl rfl fi137_3)
  exact pv F (fun w2 hB2 => have S := S.call hB2; y_ld rfl rfl (S.ld (i := 0) rfl rfl Tryz.isAgg134)) rfl rfl rfl (by decide)
 ·intro a w1 hB F hA
  have S0 := S
  replace S := S.call hB
  exact pv F (fun w2 hB2 => have S := S.call hB2; y_ld rfl rfl (S.ld (i := 7) rfl rfl Tryz.isAgg9)) rfl rfl rfl (by decide)
 ·intro a w1 hB F hA
  have S0 := S
  replace S := S.call hB
  replace F := F.eP (hA 0 (by decide)) rfl (d := 9) rfl rfl (y_ld rfl rfl (S.ld (i := 6) rfl rfl Tryz.isAgg67))
  replace F := F.eP (hA 1 (by decide)) rfl (d := 10) rfl rfl (y_nc rfl rfl)
  replace F := F.eP (hA 2 (by decide)) rfl (d := 11) rfl rfl (y_fa rfl rfl fi137_3)
  replace F := F.eP (hA 3 (by decide)) rfl (d := 12) rfl rfl (y_ld rfl rfl (S.ld (i := 0) rfl rfl Tryz.isAgg134))
  replace F := F.eP (hA 4 (by decide)) rfl (d := 13) rfl rfl (y_ld rfl rfl (S.ld (i := 7) rfl rfl Tryz.isAgg9))
  exact pv F (fun w2 hB2 => have S := S.call hB2; y_cast (lk_known σ.known p) (y_lko rfl rfl rfl (S.ok (i := 2) rfl) Tryz.underlying134 Tryz.underlying9 zv55)) rfl rfl rfl (by decide)
 ·intro a w1 hB F hA
  have S0 := S
  replace S := S.call hB
  replace F := F.eP (hA 0 (by decide)) rfl (d := 9) rfl rfl (y_ld rfl rfl (S.ld (i := 6) rfl rfl Tryz.isAgg67))
  replace F := F.eP (hA 1 (by decide)) rfl (d := 10) rfl rfl (y_nc rfl rfl)
  replace F := F.eP (hA 2 (by decide)) rfl (d := 11) rfl rfl (y_fa rfl rfl fi137_3)
  replace F := F.eP (hA 3 (by decide)) rfl (d := 12) rfl rfl (y_ld rfl rfl (S.ld (i := 0) rfl rfl Tryz.isAgg134))
  replace F := F.eP (hA 4 (by decide)) rfl (d := 13) rfl rfl (y_ld rfl rfl (S.ld (i := 7) rfl rfl Tryz.isAgg9))
  replace F := F.eP (hA 5 (by decide)) rfl (d := 14) rfl rfl (y_cast (lk_known σ.known p) (y_lko rfl rfl rfl (S.ok (i := 2) rfl) Tryz.underlying134 Tryz.underlying9 zv55))
  exact pv F (fun w2 hB2 => have S := S.call hB2; y_mv rfl rfl) rfl rfl rfl (by decide)
 ·intro a w1 hB F hA
  have S0 := S
  replace S := S.call hB
  replace F := F.eP (hA 0 (by decide)) rfl (d := 9) rfl rfl (y_ld rfl rfl (S.ld (i := 6) rfl rfl Tryz.isAgg67))
  replace F := F.eP (hA 1 (by decide)) rfl (d := 10) rfl rfl (y_nc rfl rfl)
  replace F := F.eP (hA 2 (by decide)) rfl (d := 11) rfl rfl (y_fa rfl rfl fi137_3)
  replace F := F.eP (hA 3 (by decide)) rfl (d := 12) rfl rfl (y_ld rfl rfl (S.ld (i := 0) rfl rfl Tryz.isAgg134))
  replace F := F.eP (hA 4 (by decide)) rfl (d := 13) rfl rfl (y_ld rfl rfl (S.ld (i := 7) rfl rfl Tryz.isAgg9))
  replace F := F.eP (hA 5 (by decide)) rfl (d := 14) rfl rfl (y_cast (lk_known σ.known p) (y_lko rfl rfl rfl (S.ok (i := 2) rfl) Tryz.underlying134 Tryz.underlying9 zv55))
  replace F := F.eP (hA 6 (by decide)) rfl (d := 8) rfl rfl (y_mv rfl rfl)
  exact pv F (fun w2 hB2 => have S := S.call hB2; y_ex rfl rfl rfl) rfl rfl rfl (by decide)
 ·intro a w1 hB F hA
  have S0 := S
  replace S := S.call hB
  replace F := F.eP (hA 0 (by decide)) rfl (d := 9) rfl rfl (y_ld rfl rfl (S.ld (i := 6) rfl rfl Tryz.isAgg67))
  replace F := F.eP (hA 1 (by decide)) rfl (d := 10) rfl rfl (y_nc rfl rfl)
  replace F := F.eP (hA 2 (by decide)) rfl (d := 11) rfl rfl (y_fa rfl rfl fi137_3)
  replace F := F.eP (hA 3 (by decide)) rfl (d := 12) rfl rfl (y_ld rfl rfl (S.ld (i := 0) rfl rfl Tryz.isAgg134))
  replace F := F.eP (hA 4 (by decide)) rfl (d := 13) rfl rfl (y_ld rfl rfl (S.ld (i := 7) rfl rfl Tryz.isAgg9))
  replace F := F.eP (hA 5 (by decide)) rfl (d := 14) rfl rfl (y_cast (lk_known σ.known p) (y_lko rfl rfl rfl (S.ok (i := 2) rfl) Tryz.underlying134 Tryz.underlying9 zv55))
  replace F := F.eP (hA 6 (by decide)) rfl (d := 8) rfl rfl (y_mv rfl rfl)
  exact pv F (fun w2 hB2 => have S := S.call hB2; y_ex rfl rfl rfl) rfl rfl rfl (by decide)
 ·intro a w1 hB F hA
  have S0 := S
  replace S := S.call hB
  exact pb F rfl (y_al rfl Tryz.zeroValue55 rfl) (fun _ => rfl) rfl rfl rfl
 ·have F := J.fr
  have E := EX.start J S
  have hle' := S.bel.size
  replace S := S.call J.bel
  replace F := F.eP (J.at 0 rfl) rfl (d := 9) rfl rfl (y_ld rfl rfl (S.ld (i := 6) rfl rfl Tryz.isAgg67))
  replace F := F.eP (J.at 1 rfl) rfl (d := 10) rfl rfl (y_nc rfl rfl)
  replace F := F.eP (J.at 2 rfl) rfl (d := 11) rfl rfl (y_fa rfl rfl fi137_3)
  replace F := F.eP (J.at 3 rfl) rfl (d := 12) rfl rfl (y_ld rfl rfl (S.ld (i := 0) rfl rfl Tryz.isAgg134))
  replace F := F.eP (J.at 4 rfl) rfl (d := 13) rfl rfl (y_ld rfl rfl (S.ld (i := 7) rfl rfl Tryz.isAgg9))
  replace F := F.eP (J.at 5 rfl) rfl (d := 14) rfl rfl (y_cast (lk_known σ.known p) (y_lko rfl rfl rfl (S.ok (i := 2) rfl) Tryz.underlying134 Tryz.underlying9 zv55))
  replace F := F.eP (J.at 6 rfl) rfl (d := 8) rfl rfl (y_mv rfl rfl)
  replace F := F.eP (J.at 7 rfl) rfl (d := 15) rfl rfl (y_ex rfl rfl rfl)
  replace F := F.eP (J.at 8 rfl) rfl (d := 16) rfl rfl (y_ex rfl rfl rfl)
  obtain ⟨b6, F, hb6, ho6⟩ := F.eB (P := Tryz.prog) (e := 55) (mk := mkP) (xs := []) (cs := fun _ => [.string ⟨#[]⟩, .bool false, .string ⟨#[]⟩]) (J.at 9 rfl) rfl (d := 6) rfl rfl rfl
  have E := EX.row J hle' E 9 rfl rfl (d := 6) (e := 55) (cs := [.string ⟨#[]⟩, .bool false, .string ⟨#[]⟩]) rfl hb6 ho6
  replace S := E.st
  clear E J
  refine dsw F S rfl rfl rfl Tryz.sizeOf55 (i := 9) rfl rfl rfl rfl (one55 _) rfl rfl fun a w F S => ?_
  refine dv F (y_as rfl rfl) rfl rfl rfl fun a F => ?_
  refine dn ?_
  exact tn (hgo _ _ _ (F.sub _ ⟨rfl, rfl, rfl, rfl, rfl, rfl, rfl, rfl, trivial⟩) (S.pick [0, 1, 2, 3, 4, 5, 6, 7, 8, 9] _ ⟨rfl, rfl, rfl, rfl, rfl, rfl, rfl, rfl, rfl, rfl, trivial⟩ rfl))
 ·have F := J.fr
  obtain rfl := Option.some.inj hom
  obtain rfl := Option.some.inj hof
  have E := EX.start J S
  have hle' := S.bel.size
  replace S := S.call J.bel
  replace F := F.eP (J.atF 0 rfl) rfl (d := 9) rfl rfl (y_ld rfl rfl (S.ld (i := 6) rfl rfl Tryz.isAgg67))
  replace F := F.eP (J.atF 1 rfl) rfl (d := 10) rfl rfl (y_nc rfl rfl)
  replace F := F.eP (J.atF 2 rfl) rfl (d := 11) rfl rfl (y_fa rfl rfl fi137_3)
  replace F := F.eP (J.atF 3 rfl) rfl (d := 12) rfl rfl (y_ld rfl rfl (S.ld (i := 0) rfl rfl Tryz.isAgg134))
  replace F := F.eP (J.atF 4 rfl) rfl (d := 13) rfl rfl (y_ld rfl rfl (S.ld (i := 7) rfl rfl Tryz.isAgg9))
  replace F := F.eP (J.atF 5 rfl) rfl (d := 14) rfl rfl (y_cast (lk_known σ.known p) (y_lko rfl rfl rfl (S.ok (i := 2) rfl) Tryz.underlying134 Tryz.underlying9 zv55))
  replace F := F.eP (J.atF 6 rfl) rfl (d := 8) rfl rfl (y_mv rfl rfl)
  replace F := F.eP (J.atF 7 rfl) rfl (d := 15) rfl rfl (y_ex rfl rfl rfl)
  obtain ⟨b6, F, hb6, ho6⟩ := F.eB (P := Tryz.prog) (e := 55) (mk := mkP) (xs := []) (cs := fun _ => [.string ⟨#[]⟩, .bool false, .string ⟨#[]⟩]) (J.atF 9 rfl) rfl (d := 6) rfl rfl rfl
  have E := EX.rowF J hle' E 9 rfl rfl (d := 6) (e := 55) (cs := [.string ⟨#[]⟩, .bool false, .string ⟨#[]⟩]) rfl hb6 ho6
  replace S := E.st
  clear E J
  refine dsw F S rfl rfl rfl Tryz.sizeOf55 (i := 9) rfl rfl rfl rfl (one55 _) rfl rfl fun a w F S => ?_
  refine dv F (y_ex rfl rfl rfl) rfl rfl rfl fun a F => ?_
  refine dv F (y_as rfl rfl) rfl rfl rfl fun a F => ?_
  refine dn ?_
  exact tn (hgo _ _ _ (F.sub _ ⟨rfl, rfl, rfl, rfl, rfl, rfl, rfl, rfl, trivial⟩) (S.pick [0, 1, 2, 3, 4, 5, 6, 7, 8, 9] _ ⟨rfl, rfl, rfl, rfl, rfl, rfl, rfl, rfl, rfl, rfl, trivial⟩ rfl))
theorem c_got (p : ByteArray) (t : Th) {cap : List Value} {b1 b2 b3 : Nat} {C : RC} {sb : Nat} {sr : Res} {H0 : Hp} {σ : RS} {mr : Res} {w0 W : World} (G : Gl w0) (q1 : Bx H0 b1 181 [.func (.func (thF t)) #[] cap.toArray]) (ht : ThC H0 C.rb sb t cap) (q2 : Bx H0 b2 67 [pt C.rb]) (q3 : Bx H0 b3 9 [.string p]) (hb : σ.buf.size ≤ 100000) (hk : ∀ k ∈ σ.known, k.is = true → k.data.size ≤ 65536) (hT : σ.todo.length ≤ 900000000000) (hR : Rep C sb sr H0 σ mr w0 W) : Calls Tryz.prog 157 [pt b1, pt b2, pt b3].toArray W (Ret fun v w' => Rep C sb sr H0 (σ.got p t) mr w0 w') := by
 obtain ⟨A, c, vals, H, hle, hE, hv, S⟩ := hR
 refine ent Tryz.func157 Tryz.ntmps157 rfl rfl ?_
 intro a F
 refine rp [.p, .p, .p, .p, .p, .p, .p] 7 [[], [], [1], [1, 2], [1, 2, 3], [], [1, 2, 3, 4, 5]] [(0, _), (1, _), (2, _)] F ⟨rfl, rfl, rfl, trivial⟩ Tryz.mixed (by kernel_rfl) rfl (.inr ⟨by decide, by kernel_rfl, by kernel_rfl⟩) (by kernel_rfl) ⟨?_, ?_, ?_, ?_, ?_, ?_, ?_, trivial⟩ fun a w1 J => ?_
 ·intro a w1 hB F hA
  have S0 := S
  replace S := S.call hB
  exact pv F (fun w2 hB2 => have S := S.call hB2; y_ld rfl rfl (ld1 Tryz.isAgg181 (S.fzc (i := 3) rfl (hle _ _ q1) rfl))) rfl rfl rfl (by decide)
 ·intro a w1 hB F hA
  have S0 := S
  replace S := S.call hB
  exact pv F (fun w2 hB2 => have S := S.call hB2; y_ld rfl rfl (ld1 Tryz.isAgg67 (S.fzc (i := 3) rfl (hle _ _ q2) rfl))) rfl rfl rfl (by decide)
 ·intro a w1 hB F hA
  have S0 := S
  replace S := S.call hB
  replace F := F.eP (hA 1 (by decide)) rfl (d := 4) rfl rfl (y_ld rfl rfl (ld1 Tryz.isAgg67 (S.fzc (i := 3) rfl (hle _ _ q2) rfl)))
  exact pv F (fun w2 hB2 => have S := S.call hB2; y_nc rfl rfl) rfl rfl rfl (by decide)
 ·intro a w1 hB F hA
  have S0 := S
  replace S := S.call hB
  replace F := F.eP (hA 1 (by decide)) rfl (d := 4) rfl rfl (y_ld rfl rfl (ld1 Tryz.isAgg67 (S.fzc (i := 3) rfl (hle _ _ q2) rfl)))
  replace F := F.eP (hA 2 (by decide)) rfl (d := 5) rfl rfl (y_nc rfl rfl)
  exact pv F (fun w2 hB2 => have S := S.call hB2; y_fa rfl rfl fi137_3) rfl rfl rfl (by decide)
 ·intro a w1 hB F hA
  have S0 := S
  replace S := S.call hB
  replace F := F.eP (hA 1 (by decide)) rfl (d := 4) rfl rfl (y_ld rfl rfl (ld1 Tryz.isAgg67 (S.fzc (i := 3) rfl (hle _ _ q2) rfl)))
  replace F := F.eP (hA 2 (by decide)) rfl (d := 5) rfl rfl (y_nc rfl rfl)
  replace F := F.eP (hA 3 (by decide)) rfl (d := 6) rfl rfl (y_fa rfl rfl fi137_3)
  exact pv F (fun w2 hB2 => have S := S.call hB2; y_ld rfl rfl (S.ld (i := 0) rfl rfl Tryz.isAgg134)) rfl rfl rfl (by decide)
 ·intro a w1 hB F hA
  have S0 := S
  replace S := S.call hB
  exact pv F (fun w2 hB2 => have S := S.call hB2; y_ld rfl rfl (ld1 Tryz.isAgg9 (S.fzc (i := 3) rfl (hle _ _ q3) rfl))) rfl rfl rfl (by decide)
 ·intro a w1 hB F hA
  have S0 := S
  replace S := S.call hB
  replace F := F.eP (hA 1 (by decide)) rfl (d := 4) rfl rfl (y_ld rfl rfl (ld1 Tryz.isAgg67 (S.fzc (i := 3) rfl (hle _ _ q2) rfl)))
  replace F := F.eP (hA 2 (by decide)) rfl (d := 5) rfl rfl (y_nc rfl rfl)
  replace F := F.eP (hA 3 (by decide)) rfl (d := 6) rfl rfl (y_fa rfl rfl fi137_3)
  replace F := F.eP (hA 4 (by decide)) rfl (d := 7) rfl rfl (y_ld rfl rfl (S.ld (i := 0) rfl rfl Tryz.isAgg134))
  replace F := F.eP (hA 5 (by decide)) rfl (d := 8) rfl rfl (y_ld rfl rfl (ld1 Tryz.isAgg9 (S.fzc (i := 3) rfl (hle _ _ q3) rfl)))
  exact pv F (fun w2 hB2 => have S := S.call hB2; y_cast (lk_known' σ.known p) (y_lke rfl rfl rfl (S.ok (i := 2) rfl) Tryz.underlying134 Tryz.underlying9 zv55)) rfl rfl rfl (by decide)
 have F := J.fr
 have E := EX.start J S
 have hle' := S.bel.size
 replace S := S.call J.bel
 replace F := F.eP (J.at 0 rfl) rfl (d := 3) rfl rfl (y_ld rfl rfl (ld1 Tryz.isAgg181 (S.fzc (i := 3) rfl (hle _ _ q1) rfl)))
 replace F := F.eP (J.at 1 rfl) rfl (d := 4) rfl rfl (y_ld rfl rfl (ld1 Tryz.isAgg67 (S.fzc (i := 3) rfl (hle _ _ q2) rfl)))
 replace F := F.eP (J.at 2 rfl) rfl (d := 5) rfl rfl (y_nc rfl rfl)
 replace F := F.eP (J.at 3 rfl) rfl (d := 6) rfl rfl (y_fa rfl rfl fi137_3)
 replace F := F.eP (J.at 4 rfl) rfl (d := 7) rfl rfl (y_ld rfl rfl (S.ld (i := 0) rfl rfl Tryz.isAgg134))
 replace F := F.eP (J.at 5 rfl) rfl (d := 8) rfl rfl (y_ld rfl rfl (ld1 Tryz.isAgg9 (S.fzc (i := 3) rfl (hle _ _ q3) rfl)))
 replace F := F.eP (J.at 6 rfl) rfl (d := 9) rfl rfl (y_cast (lk_known' σ.known p) (y_lke rfl rfl rfl (S.ok (i := 2) rfl) Tryz.underlying134 Tryz.underlying9 zv55))
 replace S := E.st
 clear E J
 refine dc F (c_f rfl rfl rfl (he_then t)) rfl rfl rfl (c_then t _ G ht hb (kfind_size hk) (fun h => by have := kfind_lines hk p h; omega) (Rep.mk' hle hE hv S)) fun a v w' hr F => ?_
 have hR := hr
 refine dn ?_
 refine ?_
 exact rn0 F rfl hR
theorem c_scan (p x : ByteArray) {C : RC} {sb : Nat} {H0 : Hp} {σ : RS} {mr : Res} {w0 W : World} (G : Gl w0) (hnew : seenB σ.seen p = false) (hb : σ.buf.size ≤ 100000) (hk : ∀ k ∈ σ.known, k.is = true → k.data.size ≤ 65536) (hT : σ.todo.length ≤ 900000000000) (hR : Rep C sb (mpe sb (smap σ.seen)) H0 σ mr w0 W) : Calls Tryz.prog 120 [.pointer (some ⟨C.rb, 0, none⟩), .string p, .string x, .map (some sb)].toArray W (Ret fun v w' => Rep C sb (mpe sb (smap (σ.scan p x).seen)) H0 (σ.scan p x) mr w0 w') := by
 obtain ⟨A, c, vals, H, hle, hE, hv, S⟩ := hR
 refine ent Tryz.func120 Tryz.ntmps120 rfl rfl ?_
 intro a F
 refine sq fun K1 hK1 => ?_
 refine rg ?_
 refine dbx F S rfl rfl rfl rfl rfl rfl fun a w b4 F S => ?_
 refine dbx F S rfl rfl rfl rfl rfl rfl fun a w b6 F S => ?_
 refine dbx F S rfl rfl rfl rfl rfl rfl fun a w b7 F S => ?_
 refine dn ?_
 refine tn <| hK1 _ _ ?_
 refine sq fun K2 hK2 => ?_
 refine rg ?_
 refine dv F (y_ld rfl rfl (S.ld (i := 8) rfl rfl Tryz.isAgg48)) rfl rfl rfl fun a F => ?_
 refine dv F (y_mv rfl rfl) rfl rfl rfl fun a F => ?_
 refine dmue F S rfl rfl rfl rfl (i := 4) rfl Tryz.underlying48 Tryz.underlying9 (seen_none hnew) rfl rfl fun a w F S => ?_
 rw [← smap_snoc] at S
 refine dn ?_
 refine tn <| hK2 _ _ ?_
 refine rp [.p, .p, .p, .p, .c capOwn (thCC C.rb (Value.func (.func 159) #[] [pt b4, pt b6, pt b7].toArray)) thCC_per] 5 [[], [], [], [], [2, 3]] [(0, _), (1, _), (2, _), (3, _), (4, _), (6, _), (7, _), (8, _), (9, _)] F ⟨rfl, rfl, rfl, rfl, rfl, rfl, rfl, rfl, rfl, trivial⟩ Tryz.mixed (by kernel_rfl) rfl (.inr ⟨by decide, by kernel_rfl, by kernel_rfl⟩) (by kernel_rfl) ⟨?_, ?_, ?_, ?_, ?_, trivial⟩ fun a w1 J => ?_
 ·intro a w1 hB F hA
  have S0 := S
  replace S := S.call hB
  exact pv F (fun w2 hB2 => have S := S.call hB2; y_ld rfl rfl (S.ld (i := 6) rfl rfl Tryz.isAgg67)) rfl rfl rfl (by decide)
 ·intro a w1 hB F hA
  have S0 := S
  replace S := S.call hB
  exact pv F (fun w2 hB2 => have S := S.call hB2; y_mv rfl rfl) rfl rfl rfl (by decide)
 ·intro a w1 hB F hA
  have S0 := S
  replace S := S.call hB
  exact pv F (fun w2 hB2 => have S := S.call hB2; y_ld rfl rfl (S.ld (i := 6) rfl rfl Tryz.isAgg67)) rfl rfl rfl (by decide)
 ·intro a w1 hB F hA
  have S0 := S
  replace S := S.call hB
  exact pv F (fun w2 hB2 => have S := S.call hB2; y_mf rfl rfl) rfl rfl rfl (by decide)
 ·intro a w1 hB F hA
  have S0 := S
  replace S := S.call hB
  replace F := F.eP (hA 2 (by decide)) rfl (d := 12) rfl rfl (y_ld rfl rfl (S.ld (i := 6) rfl rfl Tryz.isAgg67))
  replace F := F.eP (hA 3 (by decide)) rfl (d := 13) rfl rfl (y_mf rfl rfl)
  exact pc F (c_f rfl rfl rfl Tryz.call117) rfl rfl (c_there _ _ _ _ _) thCC_w
 have F := J.fr
 have E := EX.start J S
 have hle' := S.bel.size
 replace S := S.call J.bel
 replace F := F.eP (J.at 0 rfl) rfl (d := 10) rfl rfl (y_ld rfl rfl (S.ld (i := 6) rfl rfl Tryz.isAgg67))
 replace F := F.eP (J.at 1 rfl) rfl (d := 11) rfl rfl (y_mv rfl rfl)
 replace F := F.eP (J.at 2 rfl) rfl (d := 12) rfl rfl (y_ld rfl rfl (S.ld (i := 6) rfl rfl Tryz.isAgg67))
 replace F := F.eP (J.at 3 rfl) rfl (d := 13) rfl rfl (y_mf rfl rfl)
 obtain ⟨v14, F, hv14, ho14⟩ := F.eC (P := Tryz.prog) (hC := thCC_per) (J.at 4 rfl) rfl (d := 14) rfl rfl
 obtain ⟨c1, c2, rfl, hne, hc1, hc2⟩ := hv14
 have E := EX.two J hle' E 4 rfl rfl (d := 14) rfl hc1 hc2 ho14
 replace S := E.st
 clear E J
 replace S := S.unpS (ys := [bk c1 67 _, bk c2 160 _]) (xs := [_, _, _, _, _, _, _, _, _]) (sep2 hne)
 obtain ⟨H1, hl1, hf1, S⟩ := S.frz (i := 3) (j := 6) rfl rfl (by decide)
 obtain ⟨H2, hl2, hf2, S⟩ := S.frz (i := 3) (j := 7) rfl rfl (by decide)
 obtain ⟨H3, hl3, hf3, S⟩ := S.frz (i := 3) (j := 8) rfl rfl (by decide)
 obtain ⟨H4, hl4, hf4, S⟩ := S.frz (i := 3) (j := 9) rfl rfl (by decide)
 obtain ⟨H5, hl5, hf5, S⟩ := S.frz (i := 3) (j := 10) rfl rfl (by decide)
 have hKK := Hp.le_trans hl1 (Hp.le_trans hl2 (Hp.le_trans hl3 (Hp.le_trans hl4 hl5)))
 refine dc F (c_f rfl rfl rfl Tryz.call116) rfl rfl rfl (c_ask (σ := { σ with seen := σ.seen ++ [p] }) p (.scan x) (H0 := H5) G ⟨c1, c2, b4, b6, b7, rfl, hl5 _ _ hf4, hf5, hl5 _ _ (hl4 _ _ (hl3 _ _ (hl2 _ _ hf1))), hl5 _ _ (hl4 _ _ (hl3 _ _ hf2)), hl5 _ _ (hl4 _ _ hf3)⟩ hb hk hT (Rep.mk' (Hp.le_refl _) (hE.le hKK) (hv.mono fun _ _ _ h => h.le hKK) (S.pick [0, 1, 2, 3, 4, 5] _ ⟨rfl, rfl, rfl, rfl, rfl, rfl, trivial⟩ rfl))) fun a v w' hr F => ?_
 have hR := hr
 refine dn ?_
 refine ?_
 exact rn0 F rfl (by rw [RS.scan, ask_seen]; exact hR.le (Hp.le_trans hle hKK))
end Go.Proofs.YtgcmddaibnimjaaGreatDoor
namespace Go.Proofs.YtgcmddaibnimjaaGreatDoor
open Go.RowKit Go.Eng
theorem words_size {s x : ByteArray} (h : x ∈ words s) : x.size ≤ s.size := by
 obtain ⟨y, _, rfl⟩ := List.mem_map.1 h
 rw [ByteArray.size_extract]; omega
theorem line_ne {σ : RS} {s w : ByteArray} (h : ¬ ((words s).length : Int) = 2) : σ.line s w = σ.add (s ++ nlB) := if_pos (.inl (by omega))
theorem line_w {σ : RS} {s w : ByteArray} (hl : (words s).length = 2) (h : ¬ (words s)[0]'(by omega) = w) : σ.line s w = σ.add (s ++ nlB) := if_pos (.inr (.inl (by rw [List.getElem?_eq_getElem (by omega)]; exact fun e => h (Option.some.inj e))))
theorem w1_eq {s : ByteArray} (hl : (words s).length = 2) : ((words s)[1]?).getD eB = (words s)[1]'(by omega) := by rw [List.getElem?_eq_getElem (by omega)]; rfl
theorem line_p {σ : RS} {s w : ByteArray} (hl : (words s).length = 2) (h : pMay ((words s)[1]'(by omega)) = false) : σ.line s w = σ.add (s ++ nlB) := if_pos (.inr (.inr (by rw [w1_eq hl]; exact h)))
theorem line_no {σ : RS} {s w : ByteArray} (hl : (words s).length = 2) (h : (words s)[0]'(by omega) = w) (hp : pMay ((words s)[1]'(by omega)) = true) : σ.line s w = if seenB σ.seen ((words s)[1]'(by omega)) = true then σ else σ.scan ((words s)[1]'(by omega)) w := by
 unfold RS.line
 rw [if_neg, w1_eq hl]
 rintro (h1 | h1 | h1)
 ·exact h1 hl
 ·exact h1 (by rw [List.getElem?_eq_getElem (by omega), h])
 ·rw [w1_eq hl, hp] at h1; cases h1
theorem line_seen {σ : RS} {s w : ByteArray} (hl : (words s).length = 2) (h : (words s)[0]'(by omega) = w) (hp : pMay ((words s)[1]'(by omega)) = true) (hs : seenB σ.seen ((words s)[1]'(by omega)) = true) : σ.line s w = σ := by rw [line_no hl h hp, if_pos hs]
theorem line_scan {σ : RS} {s w : ByteArray} (hl : (words s).length = 2) (h : (words s)[0]'(by omega) = w) (hp : pMay ((words s)[1]'(by omega)) = true) (hs : seenB σ.seen ((words s)[1]'(by omega)) = false) : σ.line s w = σ.scan ((words s)[1]'(by omega)) w := by rw [line_no hl h hp, if_neg (by simp [hs])]
def unl (l : List ByteArray) : List UInt8 := l.flatMap fun x => x.data.toList ++ [10]
def RS.setLines (σ : RS) (l : List ByteArray) : RS := RS.add { σ with buf := eB } ⟨(unl l).toArray⟩
theorem unl_snoc {l : List ByteArray} {i : Nat} (h : i < l.length) : Lib.byteCells (unl (l.take i)) ++ Lib.strCells (l[i] ++ ⟨#[10]⟩) = Lib.byteCells (unl (l.take (i + 1))) := by
 rw [List.take_succ_eq_append_getElem h]
 simp only [unl, List.flatMap_append, List.flatMap_cons, List.flatMap_nil, List.append_nil, Lib.byteCells, Lib.strCells, List.map_append]
 congr 1
 simp
theorem unl_one {l : List ByteArray} {x : ByteArray} (h : x ∈ l) : x.size + 1 ≤ (unl l).length := by
 induction l with
 | nil => cases h
 | cons y l ih =>
  simp only [unl, List.flatMap_cons, List.length_append, List.length_cons, List.length_nil] at ih ⊢
  rcases List.mem_cons.1 h with rfl | h
  ·have : x.data.toList.length = x.size := by simp
   omega
  ·have := ih h; omega
theorem unl_take (l : List ByteArray) (i : Nat) : (unl (l.take i)).length ≤ (unl l).length := by
 conv => rhs; rw [← List.take_append_drop i l]
 simp only [unl, List.flatMap_append, List.length_append]; omega
theorem unl_len (l : List ByteArray) : l.length ≤ (unl l).length := by
 induction l with
 | nil => exact Nat.zero_le _
 | cons y l ih =>
  simp only [unl, List.flatMap_cons, List.length_append, List.length_cons, List.length_nil] at ih ⊢
  omega
theorem bl_res {w0 W w : World} {hs : List Res} {b : Nat} {bs : List Value} (Sq : St w0 W hs) (hB : Below W.heap.size W w) (h : Lib.IsBuilder 238 5 W.heap.size b bs w) : ∃ r, St w0 w (hs ++ [r]) ∧ ∀ w', r.ok w' → Lib.IsBuilder 238 5 W.heap.size b bs w' ∧ W.heap.size ≤ w'.heap.size := by
 obtain ⟨p, hp, h1, v, h2, h3, h4⟩ : ∃ p, (p = .pointer none ∨ p = pt b) ∧ Lib.BuilderAt 238 5 W.heap.size b p bs w := by
  rcases h with h | h
  ·exact ⟨_, .inl rfl, h⟩
  ·exact ⟨_, .inr rfl, h⟩
 refine ⟨⟨fun k => k = b ∨ v.ownBlock = some k, fun w => w.heap[b]? = some (.cells #[p, v] 238 (0, 0)) ∧ w.ownsRow W.heap.size 5 1 v bs.length bs, fun w w' hk hw => ⟨(hk b (.inl rfl)).trans hw.1, hw.2.1, ?_⟩⟩, (Sq.call hB).add _ ⟨h2, h3⟩ (fun k hk => ?_) (fun i s hs k hk hks => ?_), fun w' hw' => ⟨?_, ?_⟩⟩
 ·rcases hw.2.2 with h5 | ⟨g, cap, cur, rfl, h5, h6, h7⟩
  ·exact .inl h5
  ·exact .inr ⟨g, cap, cur, rfl, h5, (hk g (.inr rfl)).trans h6, h7⟩
 ·rcases hk with rfl | hk
  ·exact ⟨Nat.le_trans Sq.bel.size h1, (Array.getElem?_eq_some_iff.1 h2).1⟩
  ·have := h3.lt k hk
   exact ⟨Nat.le_trans Sq.bel.size this.1, this.2⟩
 ·have h5 := ((Sq.own i s hs).2 k hks).2
  rcases hk with rfl | hk
  ·omega
  ·have := (h3.lt k hk).1; omega
 ·rcases hp with rfl | rfl
  ·exact .inl ⟨h1, v, hw'.1, hw'.2, h4⟩
  ·exact .inr ⟨h1, v, hw'.1, hw'.2, h4⟩
 ·have := (Array.getElem?_eq_some_iff.1 hw'.1).1
  omega
theorem callBB {w0 W w w' : World} {hs hq : List Res} (S : St w0 w hs) (he : hs.map Res.fp = hq.map Res.fp) (Sq : St w0 W hq) (hb : Below W.heap.size w w') : St w0 w' hs := by
 have hlt : ∀ i r, nth hs i = some r → ∀ k, r.fp k → k < W.heap.size := fun i r h k hk => by
  have h1 : (hs.map Res.fp)[i]? = some r.fp := by rw [List.getElem?_map, ← nth_eq, h]; rfl
  rw [he, List.getElem?_map, ← nth_eq] at h1
  cases hq' : nth hq i with
  | none => rw [hq'] at h1; cases h1
  | some s =>
   rw [hq'] at h1
   have h2 : s.fp = r.fp := Option.some.inj h1
   exact ((Sq.own i s hq').2 k (by rw [h2]; exact hk)).2
 refine ⟨S.bel.trans (hb.mono Sq.bel.size), fun i r h => ?_, S.sep⟩
 obtain ⟨h1, h2⟩ := S.own i r h
 exact ⟨r.loc w w' (fun k hk => hb.block k (hlt i r h k hk)) h1, fun k hk => ⟨(h2 k hk).1, Nat.lt_of_lt_of_le (h2 k hk).2 hb.size⟩⟩
theorem c_bstr {B b : Nat} {l : List UInt8} {w : World} (h : Lib.IsBuilder 238 5 B b (Lib.byteCells l) w) (hBw : B ≤ w.heap.size) : Calls Tryz.prog 175 [.pointer (some ⟨b, 0, none⟩)].toArray w (Ret fun v w' => v = .string ⟨l.toArray⟩ ∧ Below B w w') :=
 (Tryz.Builder_String_any B b l w h hBw).mono fun e w' he => by obtain ⟨rfl, h1⟩ := he; exact ⟨rfl, h1⟩
theorem c_line (s wd : ByteArray) {b1 b2 b3 b4 : Nat} {C : RC} {sb : Nat} {H0 : Hp} {σ : RS} {mr : Res} {w0 W : World} (G : Gl w0) (q1 : Bx H0 b1 9 [.string s]) (q2 : Bx H0 b2 9 [.string wd]) (q3 : Bx H0 b3 67 [pt C.rb]) (q4 : Bx H0 b4 48 [.map (some sb)]) (hs : s.size ≤ 100000) (hb : σ.buf.size ≤ 100000) (hk : ∀ k ∈ σ.known, k.is = true → k.data.size ≤ 65536) (hT : σ.todo.length ≤ 900000000000) (hR : Rep C sb (mpe sb (smap σ.seen)) H0 σ mr w0 W) : Calls Tryz.prog 161 [pt b1, pt b2, pt b3, pt b4].toArray W (Ret fun v w' => Rep C sb (mpe sb (smap (σ.line s wd).seen)) H0 (σ.line s wd) mr w0 w') := by
 obtain ⟨A, c, vals, H, hle, hE, hv, S⟩ := hR
 refine ent Tryz.func161 Tryz.ntmps161 rfl rfl ?_
 intro a F
 refine sq fun K1 hK1 => ?_
 refine rg ?_
 refine dv F (y_ld rfl rfl (ld1 Tryz.isAgg9 (S.fzc (i := 3) rfl (hle _ _ q1) rfl))) rfl rfl rfl fun a F => ?_
 refine dc F (c_f rfl rfl rfl Tryz.call153) rfl rfl rfl (c_words s _ (by omega)) fun a v w' hr F => ?_
 obtain ⟨⟨AL, cL, rfl, hO, hlo⟩, hbw⟩ := hr
 replace S := S.addOw hbw rfl hO hlo
 refine dv F (y_as rfl rfl) rfl rfl rfl fun a F => ?_
 refine dn ?_
 refine tn <| hK1 _ _ ?_
 refine sq fun K2 hK2 => ?_
 refine rq (C := fun w => St _ w _) Tryz.mixed (by kernel_rfl) (S.drewN 1) ?_
 refine qv F (fun w S => y_mv rfl rfl) rfl rfl rfl fun a F => ?_
 refine qv F (fun w S => y_ln rfl rfl Tryz.underlying25) rfl rfl rfl fun a F => ?_
 refine qv F (fun w S => y_in rfl rfl rfl) rfl rfl rfl fun a F => ?_
 refine qv F (fun w S => y_mv rfl rfl) rfl rfl rfl fun a F => ?_
 refine gsp F 10 rfl (fun h1 => ?_) (fun h1 => ?_)
 ·have g1 := h1
  try simp only [zi1, zi2, zi3, zi4, zi5, zi6, zi7, zi8] at g1
  refine qgs F rfl rfl rfl h1 rfl rfl fun a F => ?_
  refine qgs F rfl rfl rfl h1 rfl rfl fun a F => ?_
  refine qgs F rfl rfl rfl h1 rfl rfl fun a F => ?_
  refine qgs F rfl rfl rfl h1 rfl rfl fun a F => ?_
  refine qgs F rfl rfl rfl h1 rfl rfl fun a F => ?_
  refine qv F (fun w S => y_pkt h1 rfl rfl rfl) rfl rfl rfl fun a F => ?_
  refine qv F (fun w S => y_mv rfl rfl) rfl rfl rfl fun a F => ?_
  refine qgs F rfl rfl rfl rfl rfl rfl fun a F => ?_
  refine qgs F rfl rfl rfl rfl rfl rfl fun a F => ?_
  refine qgs F rfl rfl rfl rfl rfl rfl fun a F => ?_
  refine qgs F rfl rfl rfl rfl rfl rfl fun a F => ?_
  refine qgs F rfl rfl rfl rfl rfl rfl fun a F => ?_
  refine qv F (fun w S => y_pkt rfl rfl rfl rfl) rfl rfl rfl fun a F => ?_
  refine qn fun w S => ?_
  refine tn <| hK2 _ _ ?_
  refine ct F rfl rfl ?_
  refine rg ?_
  refine dv F (y_ld rfl rfl (ld1 Tryz.isAgg67 (S.fzc (i := 3) rfl (hle _ _ q3) rfl))) rfl rfl rfl fun a F => ?_
  refine dv F (y_ld rfl rfl (ld1 Tryz.isAgg9 (S.fzc (i := 3) rfl (hle _ _ q1) rfl))) rfl rfl rfl fun a F => ?_
  refine dv F (y_sad rfl rfl rfl (by show s.size + 1 ≤ _; omega)) rfl rfl rfl fun a F => ?_
  refine dc F (c_f rfl rfl rfl Tryz.call118) rfl rfl rfl (c_add (s ++ nlB) hb (by rw [ByteArray.size_append]; show s.size + 1 ≤ _; omega) (Rep.mk' hle hE hv (S.pick [0, 1, 2, 3, 4, 5] _ ⟨rfl, rfl, rfl, rfl, rfl, rfl, trivial⟩ rfl))) fun a v w' hr F => ?_
  have hR := hr
  refine dn ?_
  refine ?_
  exact rn0 F rfl (by rw [line_ne g1, add_seen]; exact hR)
 ·have g1 := h1
  try simp only [zi1, zi2, zi3, zi4, zi5, zi6, zi7, zi8] at g1
  refine qgv F rfl rfl rfl h1 (fun w S => y_mv rfl rfl) rfl rfl fun a F => ?_
  have hl2 : (words s).length = 2 := by omega
  obtain ⟨ab, ao, rfl, -, -⟩ := (S.ows (i := 6) rfl lenS (by decide)).at_ (j := 0) (by omega)
  refine qgv F rfl rfl rfl h1 (fun w S => y_ia rfl rfl rfl rfl Tryz.underlying25 Tryz.sizeOf9 0 rfl (by omega)) rfl rfl fun a F => ?_
  refine qgv F rfl rfl rfl h1 (fun w S => y_ld rfl rfl (ld1 Tryz.isAgg9 (S.owc (i := 6) rfl lenS (j := 0) (by omega) rfl (by decide)))) rfl rfl fun a F => ?_
  refine qgv F rfl rfl rfl h1 (fun w S => y_ld rfl rfl (ld1 Tryz.isAgg9 (S.fzc (i := 3) rfl (hle _ _ q2) rfl))) rfl rfl fun a F => ?_
  refine qgv F rfl rfl rfl h1 (fun w S => y_sn rfl rfl rfl) rfl rfl fun a F => ?_
  refine qv F (fun w S => y_pkf h1 rfl rfl rfl) rfl rfl rfl fun a F => ?_
  refine qv F (fun w S => y_mv rfl rfl) rfl rfl rfl fun a F => ?_
  refine gsp F 17 rfl (fun h2 => ?_) (fun h2 => ?_)
  ·have g2 := h2
   try simp only [zi1, zi2, zi3, zi4, zi5, zi6, zi7, zi8] at g2
   refine qgs F rfl rfl rfl h2 rfl rfl fun a F => ?_
   refine qgs F rfl rfl rfl h2 rfl rfl fun a F => ?_
   refine qgs F rfl rfl rfl h2 rfl rfl fun a F => ?_
   refine qgs F rfl rfl rfl h2 rfl rfl fun a F => ?_
   refine qgs F rfl rfl rfl h2 rfl rfl fun a F => ?_
   refine qv F (fun w S => y_pkt h2 rfl rfl rfl) rfl rfl rfl fun a F => ?_
   refine qn fun w S => ?_
   refine tn <| hK2 _ _ ?_
   refine ct F rfl rfl ?_
   refine rg ?_
   refine dv F (y_ld rfl rfl (ld1 Tryz.isAgg67 (S.fzc (i := 3) rfl (hle _ _ q3) rfl))) rfl rfl rfl fun a F => ?_
   refine dv F (y_ld rfl rfl (ld1 Tryz.isAgg9 (S.fzc (i := 3) rfl (hle _ _ q1) rfl))) rfl rfl rfl fun a F => ?_
   refine dv F (y_sad rfl rfl rfl (by show s.size + 1 ≤ _; omega)) rfl rfl rfl fun a F => ?_
   refine dc F (c_f rfl rfl rfl Tryz.call118) rfl rfl rfl (c_add (s ++ nlB) hb (by rw [ByteArray.size_append]; show s.size + 1 ≤ _; omega) (Rep.mk' hle hE hv (S.pick [0, 1, 2, 3, 4, 5] _ ⟨rfl, rfl, rfl, rfl, rfl, rfl, trivial⟩ rfl))) fun a v w' hr F => ?_
   have hR := hr
   refine dn ?_
   refine ?_
   exact rn0 F rfl (by rw [line_w hl2 g2, add_seen]; exact hR)
  ·have g2 := h2
   try simp only [zi1, zi2, zi3, zi4, zi5, zi6, zi7, zi8] at g2
   refine qgv F rfl rfl rfl h2 (fun w S => y_mv rfl rfl) rfl rfl fun a F => ?_
   refine qgv F rfl rfl rfl h2 (fun w S => y_ia rfl rfl rfl rfl Tryz.underlying25 Tryz.sizeOf9 1 rfl (by omega)) rfl rfl fun a F => ?_
   refine qgv F rfl rfl rfl h2 (fun w S => y_ld rfl rfl (ld1 Tryz.isAgg9 (S.owc (i := 6) rfl lenS (j := 1) (by omega) rfl (by decide)))) rfl rfl fun a F => ?_
   refine qgc F rfl rfl rfl h2 (.bool (pMay ((words s)[1]'(by omega)))) (fun w S => (c_f rfl rfl rfl Tryz.call142)) rfl rfl (fun w S => (c_May _ _ (G.st S) (by have := words_size (s := s) (List.getElem_mem (show 1 < (words s).length by omega)); omega)).mono (Ret.mono fun v w' h => ⟨h.1, S.call h.2⟩)) fun a F => ?_
   refine qgv F rfl rfl rfl h2 (fun w S => y_nt rfl rfl) rfl rfl fun a F => ?_
   refine qv F (fun w S => y_pkf h2 rfl rfl rfl) rfl rfl rfl fun a F => ?_
   refine qn fun w S => ?_
   refine tn <| hK2 _ _ ?_
   refine cb F rfl (fun h3 => ?_) (fun h3 => ?_)
   ·have g3 := h3
    try simp only [zi1, zi2, zi3, zi4, zi5, zi6, zi7, zi8] at g3
    refine rg ?_
    refine dv F (y_ld rfl rfl (ld1 Tryz.isAgg67 (S.fzc (i := 3) rfl (hle _ _ q3) rfl))) rfl rfl rfl fun a F => ?_
    refine dv F (y_ld rfl rfl (ld1 Tryz.isAgg9 (S.fzc (i := 3) rfl (hle _ _ q1) rfl))) rfl rfl rfl fun a F => ?_
    refine dv F (y_sad rfl rfl rfl (by show s.size + 1 ≤ _; omega)) rfl rfl rfl fun a F => ?_
    refine dc F (c_f rfl rfl rfl Tryz.call118) rfl rfl rfl (c_add (s ++ nlB) hb (by rw [ByteArray.size_append]; show s.size + 1 ≤ _; omega) (Rep.mk' hle hE hv (S.pick [0, 1, 2, 3, 4, 5] _ ⟨rfl, rfl, rfl, rfl, rfl, rfl, trivial⟩ rfl))) fun a v w' hr F => ?_
    have hR := hr
    refine dn ?_
    refine ?_
    exact rn0 F rfl (by rw [line_p hl2 g3, add_seen]; exact hR)
   ·have g3 := h3
    try simp only [zi1, zi2, zi3, zi4, zi5, zi6, zi7, zi8] at g3
    refine sq fun K3 hK3 => ?_
    refine rq (C := fun w => St _ w _) Tryz.mixed (by kernel_rfl) (S.drewN 1) ?_
    refine qv F (fun w S => y_ld rfl rfl (ld1 Tryz.isAgg48 (S.fzc (i := 3) rfl (hle _ _ q4) rfl))) rfl rfl rfl fun a F => ?_
    refine qv F (fun w S => y_mv rfl rfl) rfl rfl rfl fun a F => ?_
    refine qv F (fun w S => y_ia rfl rfl rfl rfl Tryz.underlying25 Tryz.sizeOf9 1 rfl (by omega)) rfl rfl rfl fun a F => ?_
    refine qv F (fun w S => y_ld rfl rfl (ld1 Tryz.isAgg9 (S.owc (i := 6) rfl lenS (j := 1) (by omega) rfl (by decide)))) rfl rfl rfl fun a F => ?_
    refine qv F (fun w S => y_cast (lk_seen σ.seen _) (y_lke rfl rfl rfl (S.ok (i := 4) rfl) Tryz.underlying48 Tryz.underlying9 zb4)) rfl rfl rfl fun a F => ?_
    refine qv F (fun w S => y_nt rfl rfl) rfl rfl rfl fun a F => ?_
    refine qn fun w S => ?_
    refine tn <| hK3 _ _ ?_
    refine cb F rfl (fun h4 => ?_) (fun h4 => ?_)
    ·have g4 := h4
     try simp only [zi1, zi2, zi3, zi4, zi5, zi6, zi7, zi8] at g4
     refine rp [.p, .p, .p, .p, .p, .p] 6 [[], [], [1], [1, 2], [], []] [(0, _), (1, _), (2, _), (3, _), (4, _), (5, _), (6, _), (7, _), (8, _), (9, _), (10, _), (11, _), (12, _), (13, _), (14, _), (15, _), (16, _), (17, _), (18, _), (19, _), (20, _), (21, _), (22, _), (23, _), (28, _), (29, _), (30, _), (31, _), (32, _), (33, _)] F ⟨rfl, rfl, rfl, rfl, rfl, rfl, rfl, rfl, rfl, rfl, rfl, rfl, rfl, rfl, rfl, rfl, rfl, rfl, rfl, rfl, rfl, rfl, rfl, rfl, rfl, rfl, rfl, rfl, rfl, rfl, trivial⟩ Tryz.mixed (by kernel_rfl) rfl (.inr ⟨by decide, by kernel_rfl, by kernel_rfl⟩) (by kernel_rfl) ⟨?_, ?_, ?_, ?_, ?_, ?_, trivial⟩ fun a w1 J => ?_
     ·intro a w1 hB F hA
      have S0 := S
      replace S := S.call hB
      exact pv F (fun w2 hB2 => have S := S.call hB2; y_ld rfl rfl (ld1 Tryz.isAgg67 (S.fzc (i := 3) rfl (hle _ _ q3) rfl))) rfl rfl rfl (by decide)
     ·intro a w1 hB F hA
      have S0 := S
      replace S := S.call hB
      exact pv F (fun w2 hB2 => have S := S.call hB2; y_mv rfl rfl) rfl rfl rfl (by decide)
     ·intro a w1 hB F hA
      have S0 := S
      replace S := S.call hB
      replace F := F.eP (hA 1 (by decide)) rfl (d := 35) rfl rfl (y_mv rfl rfl)
      exact pv F (fun w2 hB2 => have S := S.call hB2; y_ia rfl rfl rfl rfl Tryz.underlying25 Tryz.sizeOf9 1 rfl (by omega)) rfl rfl rfl (by decide)
     ·intro a w1 hB F hA
      have S0 := S
      replace S := S.call hB
      replace F := F.eP (hA 1 (by decide)) rfl (d := 35) rfl rfl (y_mv rfl rfl)
      replace F := F.eP (hA 2 (by decide)) rfl (d := 36) rfl rfl (y_ia rfl rfl rfl rfl Tryz.underlying25 Tryz.sizeOf9 1 rfl (by omega))
      exact pv F (fun w2 hB2 => have S := S.call hB2; y_ld rfl rfl (ld1 Tryz.isAgg9 (S.owc (i := 6) rfl lenS (j := 1) (by omega) rfl (by decide)))) rfl rfl rfl (by decide)
     ·intro a w1 hB F hA
      have S0 := S
      replace S := S.call hB
      exact pv F (fun w2 hB2 => have S := S.call hB2; y_ld rfl rfl (ld1 Tryz.isAgg9 (S.fzc (i := 3) rfl (hle _ _ q2) rfl))) rfl rfl rfl (by decide)
     ·intro a w1 hB F hA
      have S0 := S
      replace S := S.call hB
      exact pv F (fun w2 hB2 => have S := S.call hB2; y_ld rfl rfl (ld1 Tryz.isAgg48 (S.fzc (i := 3) rfl (hle _ _ q4) rfl))) rfl rfl rfl (by decide)
     have F := J.fr
     have E := EX.start J S
     have hle' := S.bel.size
     replace S := S.call J.bel
     replace F := F.eP (J.at 0 rfl) rfl (d := 34) rfl rfl (y_ld rfl rfl (ld1 Tryz.isAgg67 (S.fzc (i := 3) rfl (hle _ _ q3) rfl)))
     replace F := F.eP (J.at 1 rfl) rfl (d := 35) rfl rfl (y_mv rfl rfl)
     replace F := F.eP (J.at 2 rfl) rfl (d := 36) rfl rfl (y_ia rfl rfl rfl rfl Tryz.underlying25 Tryz.sizeOf9 1 rfl (by omega))
     replace F := F.eP (J.at 3 rfl) rfl (d := 37) rfl rfl (y_ld rfl rfl (ld1 Tryz.isAgg9 (S.owc (i := 6) rfl lenS (j := 1) (by omega) rfl (by decide))))
     replace F := F.eP (J.at 4 rfl) rfl (d := 38) rfl rfl (y_ld rfl rfl (ld1 Tryz.isAgg9 (S.fzc (i := 3) rfl (hle _ _ q2) rfl)))
     replace F := F.eP (J.at 5 rfl) rfl (d := 39) rfl rfl (y_ld rfl rfl (ld1 Tryz.isAgg48 (S.fzc (i := 3) rfl (hle _ _ q4) rfl)))
     replace S := E.st
     clear E J
     refine dc F (c_f rfl rfl rfl Tryz.call120) rfl rfl rfl (c_scan ((words s)[1]'(by omega)) wd G (by simpa using g4) hb hk hT (Rep.mk' hle hE hv (S.pick [0, 1, 2, 3, 4, 5] _ ⟨rfl, rfl, rfl, rfl, rfl, rfl, trivial⟩ rfl))) fun a v w' hr F => ?_
     have hR := hr
     refine dn ?_
     refine ?_
     exact rn0 F rfl (by rw [line_scan hl2 g2 (by simpa using g3) (by simpa using g4)]; exact hR)
    ·have g4 := h4
     try simp only [zi1, zi2, zi3, zi4, zi5, zi6, zi7, zi8] at g4
     refine wp_skip ?_
     refine ?_
     exact rn0 F rfl (by rw [line_seen hl2 g2 (by simpa using g3) (by simpa using g4)]; exact ⟨A, c, vals, H, hle, hE, hv, (S.pick [0, 1, 2, 3, 4, 5] _ ⟨rfl, rfl, rfl, rfl, rfl, rfl, trivial⟩ rfl)⟩)
theorem c_setLines (l : List ByteArray) {AL : Option Addr} {cL : Nat} {C : RC} {sb : Nat} {sr : Res} {H0 : Hp} {σ : RS} {mr : Res} {w0 W : World} (hA : FzS H0 1 encS AL l) (hs : (unl l).length ≤ 70000000000000) (hR : Rep C sb sr H0 σ mr w0 W) : Calls Tryz.prog 162 [.pointer (some ⟨C.rb, 0, none⟩), .slice AL l.length cL].toArray W (Ret fun v w' => Rep C sb sr H0 (σ.setLines l) mr w0 w') := by
 obtain ⟨A, c, vals, H, hle, hE, hv, S⟩ := hR
 have hll := unl_len l
 refine ent Tryz.func162 Tryz.ntmps162 rfl rfl ?_
 intro a F
 refine sq fun K1 hK1 => ?_
 have Sq := S
 refine rg ?_
 refine dv F (y_al rfl Tryz.zeroValue238 (cs := [.pointer none, .slice none 0 0]) rfl) rfl rfl rfl fun a F => ?_
 refine dn ?_
 refine tn <| hK1 _ _ ?_
 refine sq fun K2 hK2 => ?_
 refine sq fun K3 hK3 => ?_
 refine rg ?_
 refine dv F (y_mv rfl rfl) rfl rfl rfl fun a F => ?_
 refine dv F (y_ln rfl rfl Tryz.underlying25) rfl rfl rfl fun a F => ?_
 refine dv F (y_mv rfl rfl) rfl rfl rfl fun a F => ?_
 refine dn ?_
 refine tn <| hK3 _ _ ?_
 refine bl ?_
 have hbl : Lib.IsBuilder 238 5 W.heap.size W.heap.size (Lib.byteCells (unl (l.take 0))) (W.alloc (.cells [.pointer none, .slice none 0 0].toArray 238)) := Lib.fresh_isBuilder 238 5 W
 have hBel : Below W.heap.size W (W.alloc (.cells [.pointer none, .slice none 0 0].toArray 238)) := (Below.refl W.heap.size W).alloc (Nat.le_refl _) _
 refine lp (fun m a w => ∃ i : Nat, m = l.length - i ∧ (i ≤ l.length) ∧ (Lib.IsBuilder 238 5 W.heap.size W.heap.size (Lib.byteCells (unl (l.take i))) w) ∧ Fr 23 a [(0, pt C.rb), (1, .slice AL l.length cL), (4, pt W.heap.size), (7, .slice AL l.length cL), (8, .int .i64 (l.length : Int)), (9, .int .i64 (i : Int))] ∧ Below W.heap.size W w) (l.length) ?_ ?_
 ·exact ⟨0, rfl, Nat.zero_le _, hbl, F.sub _ ⟨rfl, rfl, rfl, rfl, rfl, rfl, trivial⟩, hBel⟩
 ·rintro m a w ⟨i, hm, hi, hbl, F, S⟩
  have hBel := S
  replace S := Sq.call hBel
  refine sq fun K4 hK4 => ?_
  refine rg ?_
  refine dv F (y_lt rfl rfl rfl) rfl rfl rfl fun a F => ?_
  refine dn ?_
  refine tn <| hK4 _ _ ?_
  refine sq fun K5 hK5 => ?_
  refine cd F rfl (fun h1 => ?_) (fun h1 => ?_)
  ·refine wp_skip ?_
   refine tn <| hK5 _ _ ?_
   refine sq fun K6 hK6 => ?_
   refine bl ?_
   refine sq fun K7 hK7 => ?_
   have hlt : i < l.length := by omega
   obtain ⟨ab, ao, rfl, hab, hcell⟩ := ((hA.le hle).sl S (i := 3) rfl).at_ hlt
   refine rg ?_
   refine dv F (y_ia rfl rfl rfl rfl Tryz.underlying25 Tryz.sizeOf9 i rfl hlt) rfl rfl rfl fun a F => ?_
   refine dv F (y_ld rfl rfl (ld1 Tryz.isAgg9 (hcell 0 _ rfl))) rfl rfl rfl fun a F => ?_
   refine dv F (y_as rfl rfl) rfl rfl rfl fun a F => ?_
   refine dn ?_
   refine tn <| hK7 _ _ ?_
   refine rg ?_
   refine dv F (y_mv rfl rfl) rfl rfl rfl fun a F => ?_
   refine dv F (y_sad rfl rfl rfl (by have := unl_one (List.getElem_mem hlt); show _ + 1 ≤ _; omega)) rfl rfl rfl fun a F => ?_
   refine dc F (c_f rfl rfl rfl Tryz.call173) rfl rfl rfl (c_bws hbl (by rw [Lib.byteCells_length]; have := unl_one (List.getElem_mem hlt); have := unl_take l i; rw [ByteArray.size_append]; show _ + (_ + 1) ≤ _; omega) hBel.size) fun a v w' hr F => ?_
   obtain ⟨hbl, hb2⟩ := hr
   replace hBel := hBel.trans hb2
   refine dn ?_
   refine bn <| tn <| hK6 _ _ ?_
   refine rg ?_
   refine dv F (y_add rfl rfl rfl (by omega)) rfl rfl rfl fun a F => ?_
   refine dv F (y_mv rfl rfl) rfl rfl rfl fun a F => ?_
   refine dn ?_
   exact ln (by omega) ⟨i + 1, rfl, by omega, (by rw [← unl_snoc hlt]; exact hbl), F.sub _ ⟨rfl, rfl, rfl, rfl, rfl, rfl, trivial⟩, hBel⟩
  ·refine wp_exit ?_
   refine tx <| lx <| bh <| tn <| hK2 _ _ ?_
   refine sq fun K8 hK8 => ?_
   replace hbl : Lib.IsBuilder 238 5 W.heap.size W.heap.size (Lib.byteCells (unl l)) w := by rw [← List.take_of_length_le (show l.length ≤ i by omega)]; exact hbl
   obtain ⟨rB, S, hrB⟩ := bl_res Sq hBel hbl
   refine rg ?_
   refine dv F (y_mv rfl rfl) rfl rfl rfl fun a F => ?_
   refine dv F (y_nc rfl rfl) rfl rfl rfl fun a F => ?_
   refine dv F (y_fa rfl rfl fi137_2) rfl rfl rfl fun a F => ?_
   refine dst F S rfl rfl rfl Tryz.sizeOf9 (i := 0) rfl rfl (Nat.le_of_ble_eq_true rfl) one1 rfl rfl fun a w F S => ?_
   refine dn ?_
   refine tn <| hK8 _ _ ?_
   refine rg ?_
   refine dv F (y_mv rfl rfl) rfl rfl rfl fun a F => ?_
   have hbl2 := hrB _ (S.ok (i := 6) rfl)
   have S1 : St w0 _ (RLs C A c vals H sr { σ with buf := eB } mr) := (S.pick [0, 1, 2, 3, 4, 5] _ ⟨rfl, rfl, rfl, rfl, rfl, rfl, trivial⟩ rfl)
   refine dc F (c_f rfl rfl rfl Tryz.call175) rfl rfl rfl (c_bstr hbl2.1 hbl2.2) fun a v w' hr F => ?_
   obtain ⟨rfl, hb2⟩ := hr
   replace S := callBB (hq := RLs C A c vals H sr σ mr) S1 rfl Sq hb2
   refine dc F (c_f rfl rfl rfl Tryz.call118) rfl rfl rfl (c_add (σ := { σ with buf := eB }) ⟨(unl l).toArray⟩ (Nat.zero_le _) (by show (unl l).toArray.size ≤ _; rw [List.size_toArray]; omega) (Rep.mk' hle hE hv S)) fun a v w' hr F => ?_
   have hR := hr
   refine dn ?_
   refine ?_
   exact rn0 F rfl hR
end Go.Proofs.YtgcmddaibnimjaaGreatDoor
namespace Go.Eng
open Go.RowKit Go.Sort Go.Proofs
def tl (x : ByteArray) : List UInt8 := x.data.toList
def mkL (l : List UInt8) : ByteArray := ⟨l.toArray⟩
theorem mkL_tl (x : ByteArray) : mkL (tl x) = x := by
 cases x; simp [mkL, tl]
theorem tl_mkL (l : List UInt8) : tl (mkL l) = l := by simp [mkL, tl]
theorem encStr_tl (x : ByteArray) : encStr (tl x) = .string x := congrArg Value.string (mkL_tl x)
def cel (x : ByteArray) : List Value := [.string x]
section
variable {w0 w w' : World} {hs : List Res}
theorem ow_holds {i e c n b o : Nat} {l : List ByteArray} (S : St w0 w hs) (h : nth hs i = some (ow e 1 (.slice (some ⟨b, o, none⟩) n c) n (l.flatMap cel))) : Holds encStr w b o (l.map tl).toArray ∧ b < w.heap.size := by
 obtain ⟨A, c', hv, h1, h2, h3, h4⟩ := S.ok h
 cases hv
 rcases h4 with ⟨h4, _⟩ | ⟨g, off, cur, fr, he, hg, hfr, hcur, hxs⟩
 ·cases h4
 ·cases he
  refine ⟨fun j hj => ?_, (Array.getElem?_eq_some_iff.1 hg).1⟩
  have hj' : j < l.length := by simpa using hj
  have hl : (l.flatMap cel)[j]? = some (.string l[j]) := by
   have := get_flat (enc := cel) (z := 1) (fun _ => rfl) l j l[j] 0 (.string l[j]) (List.getElem?_eq_getElem hj') rfl
   simpa using this
  have hc := hxs j _ hl
  have hlt := (Array.getElem?_eq_some_iff.1 hc).1
  constructor
  ·have e1 : (l.map tl).toArray[j]! = tl l[j] := by
    rw [getElem!_pos _ j hj]; simp
   rw [e1, encStr_tl]
   simp [World.cell?, hg, hc]
  ·simp only [World.frozen?, hg]
   have : ¬ (fr.1 ≤ o + j ∧ o + j < fr.2) := by omega
   simpa using this
theorem ow_put {i e c n b o q : Nat} {l ds : List ByteArray} {os : Array Obj} (S : St w0 w hs) (h : nth hs i = some (ow e 1 (.slice (some ⟨b, o, none⟩) n c) n (l.flatMap cel))) (hd : ds.length = l.length) :
  St w0 (grow (putRow encStr (Sort.ahead w q) b o (ds.map tl).toArray) os) (upd hs i (ow e 1 (.slice (some ⟨b, o, none⟩) n c) n (ds.flatMap cel))) := by
 obtain ⟨A, c', hv, h1, h2, h3, h4⟩ := S.ok h
 cases hv
 have hfl : (l.flatMap cel).length = l.length := by have := flat_len (enc := cel) (z := 1) (fun _ => rfl) l; omega
 have hfd : (ds.flatMap cel).length = ds.length := by have := flat_len (enc := cel) (z := 1) (fun _ => rfl) ds; omega
 rcases h4 with ⟨h4, _⟩ | ⟨g, off, cur, fr, he, hg, hfr, hcur, hxs⟩
 ·cases h4
 ·cases he
  have hlt := (Array.getElem?_eq_some_iff.1 hg).1
  have hsz : (putRow encStr (Sort.ahead w q) b o (ds.map tl).toArray).heap.size = w.heap.size := by simp
  have hnew : (grow (putRow encStr (Sort.ahead w q) b o (ds.map tl).toArray) os).heap[b]? = some (.cells (putCells encStr o (ds.map tl).toArray cur) e fr) := by
   rw [heap_grow_old _ _ (by rw [hsz]; exact hlt)]
   simp [putRow, mapBlock, Array.getElem?_modify, hg, onCells]
  refine S.turn (w' := grow (putRow encStr (Sort.ahead w q) b o (ds.map tl).toArray) os) h ⟨rfl, rfl, rfl, ?_, fun k hk hn => ?_⟩ (ow e 1 (.slice (some ⟨b, o, none⟩) n c) n (ds.flatMap cel)) ⟨_, _, rfl, ?_, h2, h3, .inr ⟨b, o, _, fr, rfl, hnew, ?_, ?_, fun j u hj => ?_⟩⟩ fun k hk => ?_
  ·rw [size_grow, hsz]; omega
  ·rw [heap_grow_old _ _ (by rw [hsz]; exact hk)]
   have : ¬ b = k := fun e' => hn (by rw [← e']; rfl)
   simp [putRow, mapBlock, Array.getElem?_modify, this]
  ·rw [hfd]; rw [hfl] at h1; omega
  ·simpa [putCells] using hfr
  ·simpa [putCells] using hcur
  ·have hjl := (List.getElem?_eq_some_iff.1 hj).1
   rw [hfd] at hjl
   have hld : (ds.flatMap cel)[j]? = some (.string ds[j]) := by
    have := get_flat (enc := cel) (z := 1) (fun _ => rfl) ds j ds[j] 0 (.string ds[j]) (List.getElem?_eq_getElem hjl) rfl
    simpa using this
   rw [hld] at hj
   cases hj
   have hjc : o + j < cur.size := by rw [hfl] at h1; omega
   simp only [putCells, Array.getElem?_mapIdx, Array.getElem?_eq_getElem hjc, Option.map_some]
   rw [if_pos ⟨by omega, by simp; omega⟩, show o + j - o = j by omega]
   have e1 : (ds.map tl).toArray[j]! = tl ds[j] := by
    rw [getElem!_pos _ j (by simpa using hjl)]; simp
   rw [e1, encStr_tl]
  ·have hk' : k = b := by
    have hk0 : some b = some k := hk
    exact (Option.some.inj hk0).symm
   subst hk'
   exact ⟨.inl rfl, by rw [size_grow, hsz]; omega⟩
end
section
variable {P : Program} {Q : Exit → Act → World → Prop} {w w0 : World} {n0 : Nat} {l : List (Nat × Value)} {o : Oper} {rest : List Oper} {ops : Array Oper} {a : Act} {hs : List Res}
theorem dso (F : Fr n0 a l) (S : St w0 w hs) {t g off k n c e : Nat} {p x : Operand} {v : Value} {xs : List Value} (ho : o.op = .store t p x) (hp : evl l p = some (.pointer (some ⟨g, off + k * 1, none⟩))) (hx : evl l x = some v)
  (hz : ∀ w, (Go.sizeOf t).run P w = .ok 1 w) {i : Nat} (hi : nth hs i = some (ow e 1 (.slice (some ⟨g, off, none⟩) n c) n xs)) (hk : k < n) (hlv : cellsOf v = [v]) (h1 : v.oneCell' = true) (hg : o.guard = none) (hd : o.dst = none)
  (kk : ∀ a w', Fr n0 a l → St w0 w' (upd hs i (ow e 1 (.slice (some ⟨g, off, none⟩) n c) n (xs.set k v))) → wpList P ops Q rest a w') : wpList P ops Q (o :: rest) a w := by
 rw [Nat.mul_one] at hp
 obtain ⟨A, c', hv, h2, h3, h4, h5⟩ := S.ok hi
 cases hv
 rcases h5 with ⟨h5, _⟩ | ⟨g', off', cur, fr, he, hh, hfr, hcur, hxs⟩
 ·cases h5
 ·cases he
  have hlen : off + k < cur.size := by omega
  obtain ⟨w', h6, h7, h8⟩ := run_storeCellsF (P := P) (b := g) (e := e) (fr := fr) [v] cur.toList (off + k) 0 w (by simpa using hh) (by simpa using hfr) (by simp; omega) (by intro u hu; simp at hu; subst hu; exact h1)
  have hpl := putl_get [v] cur.toList (off + k + 0) (by simp; omega)
  refine dk (w' := w') F (fun n a F => ?_) hg hd fun a F => kk a w' F (S.turn hi ⟨h8.os, h8.tape, h8.output, h8.size, fun j hj hn => h8.block j hj fun e' => hn (by subst e'; rfl)⟩ _ ⟨_, _, rfl, by simpa using h2, h3, h4, .inr ⟨g, off, _, fr, rfl, h7, ?_, ?_, fun j u hj => ?_⟩⟩ fun j hj => ?_)
  ·have hsz : v.cells.size = 1 := by rw [← Array.length_toList, cellsOf_eq, hlv]; rfl
   simp [execOp, ho, F.ev hp, F.ev hx, Instr.storeAt, Instr.sureAddr, storeVar, hz, hsz, cellsOf_eq, hlv, h6]
  ·rcases hfr with h | h
   ·exact .inl h
   ·right; simp only [List.size_toArray]; rw [hpl.1]; simpa using h
  ·simp only [List.size_toArray]; rw [hpl.1]; simpa using hcur
  ·simp only [List.getElem?_toArray]
   rw [hpl.2]
   rw [List.getElem?_set] at hj
   by_cases hkj : k = j
   ·subst hkj
    rw [if_pos rfl] at hj
    split at hj
    ·cases hj
     rw [if_pos ⟨by omega, by simp⟩]; simp
    ·cases hj
   ·rw [if_neg hkj] at hj
    rw [if_neg (by simp; omega)]
    have := hxs j u hj
    simpa using this
  ·have hj' : j = g := by
    have hj0 : some g = some j := hj
    exact (Option.some.inj hj0).symm
   subst hj'
   exact ⟨.inl rfl, (Array.getElem?_eq_some_iff.1 h7).1⟩
end
end Go.Eng
namespace Go.Proofs.YtgcmddaibnimjaaGreatDoor
open Go.RowKit Go.Eng
theorem upd_self {α : Type} : ∀ {l : List α} {i : Nat} {x : α}, nth l i = some x → upd l i x = l
 | [], _, _, h => by cases h
 | y :: l, 0, x, h => by cases h; rfl
 | y :: l, i + 1, x, h => congrArg (y :: ·) (upd_self (l := l) h)
theorem upd_upd {α : Type} : ∀ {l : List α} {i : Nat} {x y : α}, upd (upd l i x) i y = upd l i y
 | [], _, _, _ => rfl
 | z :: l, 0, _, _ => rfl
 | z :: l, i + 1, _, _ => congrArg (z :: ·) upd_upd
theorem flat_set : ∀ (l : List ByteArray) (k : Nat) (v : ByteArray), (l.flatMap encS).set k (.string v) = (l.set k v).flatMap encS
 | [], _, _ => rfl
 | x :: l, 0, v => rfl
 | x :: l, k + 1, v => by
  simp only [List.flatMap_cons, List.set_cons_succ]
  show Value.string x :: ((l.flatMap encS).set k (.string v)) = Value.string x :: _
  rw [flat_set l k v]; rfl
theorem ow_le {w0 w : World} {hs : List Res} {q e z n c : Nat} {A : Option Addr} {xs : List Value} (S : St w0 w hs) (h : nth hs q = some (ow e z (.slice A n c) n xs)) : n ≤ c := by
 obtain ⟨A', c', hv, h1, h2, _⟩ := S.ok h
 cases hv
 exact h2
theorem idx_cases {α : Type} (p : α → Bool) (l : List α) : (idx p l = -1 ∧ ∀ x ∈ l, p x = false) ∨ ∃ (i0 : Nat) (h : i0 < l.length), idx p l = (i0 : Int) ∧ p l[i0] = true ∧ ∀ (j : Nat) (hj : j < l.length), j < i0 → p l[j] = false := by
 unfold idx
 cases h : l.findIdx? p with
 | none => exact .inl ⟨rfl, by simpa [List.findIdx?_eq_none_iff] using h⟩
 | some i =>
  rw [List.findIdx?_eq_some_iff_getElem] at h
  obtain ⟨h1, h2, h3⟩ := h
  exact .inr ⟨i, h1, rfl, h2, fun j hj hji => by simpa using h3 j hji⟩
section
variable {l : List ByteArray} {p : ByteArray → Bool}
theorem filter_all (h : ∀ x ∈ l, p x = false) : (l.filter fun x => !p x) = l := List.filter_eq_self.2 fun x hx => by rw [h x hx]; rfl
theorem keep_yes {j : Nat} (hj : j < l.length) (h : p l[j] = false) : (l.take (j + 1)).filter (fun x => !p x) = (l.take j).filter (fun x => !p x) ++ [l[j]] := by
 rw [List.take_succ_eq_append_getElem hj, List.filter_append]
 simp [h]
theorem keep_no {j : Nat} (hj : j < l.length) (h : p l[j] = true) : (l.take (j + 1)).filter (fun x => !p x) = (l.take j).filter (fun x => !p x) := by
 rw [List.take_succ_eq_append_getElem hj, List.filter_append]
 simp [h]
theorem keep_first (l : List ByteArray) (p : ByteArray → Bool) (i0 : Nat) (h : i0 < l.length) (hp : p l[i0] = true) (hno : ∀ (j : Nat) (hj : j < l.length), j < i0 → p l[j] = false) : (l.take (i0 + 1)).filter (fun x => !p x) = l.take i0 := by
 rw [keep_no h hp]
 refine filter_all fun x hx => ?_
 obtain ⟨j, hj, rfl⟩ := List.getElem_of_mem hx
 rw [List.length_take] at hj
 rw [List.getElem_take]
 exact hno j (by omega) (by omega)
theorem row_first (l : List ByteArray) (p : ByteArray → Bool) (i0 : Nat) (h : i0 < l.length) (hp : p l[i0] = true) (hno : ∀ (j : Nat) (hj : j < l.length), j < i0 → p l[j] = false) : (l.take (i0 + 1)).filter (fun x => !p x) ++ l.drop i0 = l := by
 rw [keep_first l p i0 h hp hno, List.take_append_drop]
variable {i j : Nat}
theorem row_lt (hj : j < l.length) (hij : i < j) (hK : ((l.take j).filter (fun x => !p x)).length = i) : j < ((l.take j).filter (fun x => !p x) ++ l.drop i).length := by
 rw [List.length_append, hK, List.length_drop]; omega
theorem row_get (hj : j < l.length) (hij : i < j) (hK : ((l.take j).filter (fun x => !p x)).length = i) : ((l.take j).filter (fun x => !p x) ++ l.drop i)[j]'(row_lt hj hij hK) = l[j] := by
 rw [List.getElem_append_right (by omega), List.getElem_drop]
 congr 1
 omega
theorem row_yes (hj : j < l.length) (hij : i < j) (hK : ((l.take j).filter (fun x => !p x)).length = i) (h : p l[j] = false) : ((l.take j).filter (fun x => !p x) ++ l.drop i).set i l[j] = (l.take (j + 1)).filter (fun x => !p x) ++ l.drop (i + 1) := by
 rw [keep_yes hj h, List.set_append_right _ _ (by omega), hK, Nat.sub_self, List.drop_eq_getElem_cons (show i < l.length by omega), List.set_cons_zero, List.append_assoc]
 rfl
theorem del_end {w0 w : World} {hs : List Res} {A : Option Addr} {c q : Nat} (hjl : j = l.length) (hK : ((l.take j).filter (fun x => !p x)).length = i) (hi : nth hs q = some (ow 9 1 (.slice A l.length c) l.length (l.flatMap encS)))
  (S : St w0 w (upd hs q (ow 9 1 (.slice A l.length c) l.length ((((l.take j).filter (fun x => !p x) ++ l.drop i).flatMap encS).take i ++ List.replicate (l.length - i) (.string ⟨#[]⟩))))) :
  Value.slice A i c = .slice A (l.filter fun x => !p x).length c ∧ St w0 w (upd hs q (ow 9 1 (.slice A (l.filter fun x => !p x).length c) (l.filter fun x => !p x).length ((l.filter fun x => !p x).flatMap encS))) := by
 subst hjl
 rw [List.take_length] at hK S
 have hle : i ≤ l.length := by rw [← hK]; exact List.length_filter_le _ _
 have hfl : ∀ ys : List ByteArray, (ys.flatMap encS).length = ys.length := fun ys => by have := flat_len lenS ys; omega
 have S2 := ow_take S (nth_upd_eq _ _ _ _ hi) hle
 rw [upd_upd] at S2
 have e1 : (List.take i (List.flatMap encS (l.filter (fun x => !p x) ++ l.drop i)) ++ List.replicate (l.length - i) (Value.string ⟨#[]⟩)).take (i * 1) = (l.filter fun x => !p x).flatMap encS := by
  have hKl : ((l.filter fun x => !p x).flatMap encS).length = i := by rw [hfl, hK]
  have e0 : List.take i ((l.filter fun x => !p x).flatMap encS ++ (l.drop i).flatMap encS) = (l.filter fun x => !p x).flatMap encS := by
   rw [List.take_append_of_le_length (by omega), List.take_of_length_le (by omega)]
  rw [Nat.mul_one, List.flatMap_append, e0, List.take_append_of_le_length (by omega), List.take_of_length_le (by omega)]
 rw [e1] at S2
 rw [hK]
 exact ⟨rfl, S2⟩
end
section
variable {P : Program} {Q : Exit → Act → World → Prop} {w w' w0 : World} {n0 : Nat} {l : List (Nat × Value)} {o : Oper} {rest : List Oper} {ops : Array Oper} {a : Act} {hs : List Res}
theorem dv0 (F : Fr n0 a l) {v : Value} (y : Yl P o l w v w') (hg : o.guard = none) (hd : o.dst = none) (k : ∀ a, Fr n0 a l → wpList P ops Q rest a w') : wpList P ops Q (o :: rest) a w := by
 refine wpList_plain hg fun K hK => ?_
 unfold Oper.wp
 rw [y n0 a F, Oper.upon_value, hd]
 exact hK _ _ (k _ F)
theorem dclr (F : Fr n0 a l) (S : St w0 w hs) {t e k n c q : Nat} {A : Option Addr} {x : Operand} {xs : List Value} {z : Value} (ho : o.op = .call { callee := .builtin .clear, args := #[x], argTypes := #[t] }) (hx : evl l x = some (.slice (if c = k then A else A.map (·.add (k * 1))) (n - k) (c - k)))
  (hi : nth hs q = some (ow e 1 (.slice A n c) n xs)) (hk : k < n) (ht : P.underlying t = some (.slice e)) (hz : ∀ w, (zeroValue e).run P w = .ok z w) (hzc : z.cells = #[z]) (h1 : z.oneCell' = true) (hg : o.guard = none) (hd : o.dst = none)
  (kk : ∀ a w', Fr n0 a l → St w0 w' (upd hs q (ow e 1 (.slice A n c) n (xs.take k ++ List.replicate (n - k) z))) → wpList P ops Q rest a w') : wpList P ops Q (o :: rest) a w := by
 obtain ⟨A', c', hv, h2, h3, h4, h5⟩ := S.ok hi
 cases hv
 rcases h5 with ⟨_, h5⟩ | ⟨g, off, cur, fr, rfl, hh, hfr, hcur, hxs⟩
 ·omega
 ·have hck : ¬ c = k := by omega
  rw [if_neg hck, Nat.mul_one] at hx
  simp only [Option.map_some, add_mk] at hx
  have hzl : (Builtin.zeroCells z.cells (n - k)).toList = List.replicate (n - k) z := by
   rw [hzc]
   simp [Builtin.zeroCells]
   apply List.ext_getElem
   ·simp
   ·intro i h1 h2
    simp [Nat.mod_one]
  obtain ⟨w', h6, h7, h8⟩ := run_storeCellsF (P := P) (b := g) (e := e) (fr := fr) (List.replicate (n - k) z) cur.toList (off + k) 0 w (by simpa using hh) (by simpa using hfr) (by simp; omega) (by intro u hu; rw [List.eq_of_mem_replicate hu]; exact h1)
  have hpl := putl_get (List.replicate (n - k) z) cur.toList (off + k + 0) (by simp; omega)
  refine dv0 (v := .tuple #[]) (w' := w') F (fun m a F => ?_) hg hd fun a F => kk a w' F (S.turn hi ⟨h8.os, h8.tape, h8.output, h8.size, fun j hj hn => h8.block j hj fun e' => hn (by subst e'; rfl)⟩ _ ⟨_, _, rfl, ?_, h3, h4, .inr ⟨g, off, _, fr, rfl, h7, ?_, ?_, fun j u hj => ?_⟩⟩ fun j hj => ?_)
  ·have hcl : (Builtin.clear_ #[t] o.type #[.slice (some ⟨g, off + k, none⟩) (n - k) (c - k)]).run P w = .ok (.tuple #[]) w' := by
    obtain ⟨d, hd'⟩ : ∃ d, n - k = d + 1 := ⟨n - k - 1, by omega⟩
    rw [hd'] at hzl h6 ⊢
    simp [Builtin.clear_, run_underlying ht, hz, hzl, h6]
   simp [execOp, ho, F.ev hx, resolve, invoke, builtin, hcl]
  ·rw [List.length_append, List.length_take, List.length_replicate]; omega
  ·rcases hfr with h | h
   ·exact .inl h
   ·right; simp only [List.size_toArray]; rw [hpl.1]; simpa using h
  ·simp only [List.size_toArray]; rw [hpl.1]; simpa using hcur
  ·simp only [List.getElem?_toArray]
   rw [hpl.2]
   have hjl := (List.getElem?_eq_some_iff.1 hj).1
   rw [List.length_append, List.length_take, List.length_replicate] at hjl
   rcases Nat.lt_or_ge j k with h | h
   ·rw [if_neg (by simp; omega)]
    rw [List.getElem?_append_left (by rw [List.length_take]; omega), List.getElem?_take, if_pos h] at hj
    have := hxs j u hj
    simpa using this
   ·rw [if_pos (by simp; omega)]
    rw [List.getElem?_append_right (by rw [List.length_take]; omega)] at hj
    rw [← hj, List.length_take]
    simp only [List.getElem?_replicate]
    have e1 : off + j - (off + k + 0) = j - k := by omega
    have e2 : j - min k xs.length = j - k := by omega
    rw [e1, e2]
  ·have hj' : j = g := by
    have hj0 : some g = some j := hj
    exact (Option.some.inj hj0).symm
   subst hj'
   exact ⟨.inl rfl, (Array.getElem?_eq_some_iff.1 h7).1⟩
end
theorem c_Delete {A : Option Addr} {c q g : Nat} {l : List ByteArray} {w0 W : World} {hs : List Res} (p : ByteArray → Bool) (cap : List Value) (he : ∀ (args : Array Value) (w : World), (callFunc g args).run Tryz.prog w = .ok (.enter g args) w) (hi : nth hs q = some (ow 9 1 (.slice A l.length c) l.length (l.flatMap encS))) (S : St w0 W hs) (hsz : l.length ≤ 1000000)
  (hp : ∀ x ∈ l, ∀ (w : World) (ys : List ByteArray), St w0 w (upd hs q (ow 9 1 (.slice A l.length c) l.length (ys.flatMap encS))) → Calls Tryz.prog g ([Value.string x] ++ cap).toArray w (Ret fun v w' => v = .bool (p x) ∧ Below w.heap.size w w')) :
  Calls Tryz.prog 165 [.slice A l.length c, .func (.func g) #[] cap.toArray].toArray W (Ret fun v w' => v = .slice A (l.filter fun x => !p x).length c ∧ St w0 w' (upd hs q (ow 9 1 (.slice A (l.filter fun x => !p x).length c) (l.filter fun x => !p x).length ((l.filter fun x => !p x).flatMap encS)))) := by
 have hcap := ow_le S hi
 refine ent Tryz.func165 Tryz.ntmps165 rfl rfl ?_
 intro a F
 refine sq fun K1 hK1 => ?_
 refine rg ?_
 refine dv F (y_as rfl rfl) rfl rfl rfl fun a F => ?_
 refine dn ?_
 refine tn <| hK1 _ _ ?_
 refine sq fun K2 hK2 => ?_
 refine rg ?_
 refine dv F (y_mv rfl rfl) rfl rfl rfl fun a F => ?_
 refine dv F (y_mv rfl rfl) rfl rfl rfl fun a F => ?_
 refine dc F (c_f rfl rfl rfl Tryz.call140) rfl rfl rfl (c_IndexFuncS _ p g cap he (fun x hx w hb => hp x hx w l (by rw [upd_self hi]; exact S.call hb)) (S.ows hi lenS (by decide)) (by omega)) fun a v w' hr F => ?_
 obtain ⟨rfl, hb⟩ := hr
 replace S := S.call hb
 refine dv F (y_as rfl rfl) rfl rfl rfl fun a F => ?_
 refine dn ?_
 refine tn <| hK2 _ _ ?_
 refine sq fun K3 hK3 => ?_
 refine sq fun K4 hK4 => ?_
 refine rg ?_
 refine dv F (y_mv rfl rfl) rfl rfl rfl fun a F => ?_
 refine dv F (y_ie rfl rfl rfl) rfl rfl rfl fun a F => ?_
 refine dn ?_
 refine tn <| hK4 _ _ ?_
 refine cb F rfl (fun h1 => ?_) (fun h1 => ?_)
 ·have g1 := h1
  try simp only [zi1, zi2, zi3, zi4, zi5, zi6, zi7, zi8] at g1
  refine sq fun K5 hK5 => ?_
  refine rg ?_
  refine dv F (y_mv rfl rfl) rfl rfl rfl fun a F => ?_
  refine dv F (y_as rfl rfl) rfl rfl rfl fun a F => ?_
  refine dn ?_
  refine tn <| hK5 _ _ ?_
  refine wp_ret ?_
  refine tr <| ?_
  exact rt1 F rfl rfl ⟨by rw [filter_all (((idx_cases p l).resolve_right (fun ⟨i0, h1, h2, _⟩ => by omega)).2)], by rw [filter_all (((idx_cases p l).resolve_right (fun ⟨i0, h1, h2, _⟩ => by omega)).2), upd_self hi]; exact S⟩
 ·have g1 := h1
  try simp only [zi1, zi2, zi3, zi4, zi5, zi6, zi7, zi8] at g1
  refine wp_skip ?_
  refine tn <| hK3 _ _ ?_
  refine sq fun K6 hK6 => ?_
  refine sq fun K7 hK7 => ?_
  obtain ⟨i0, hi0, hidx, hp0, hno⟩ := (idx_cases p l).resolve_left (fun h => g1 h.1)
  rw [hidx] at F
  refine rg ?_
  refine dv F (y_mv rfl rfl) rfl rfl rfl fun a F => ?_
  refine dv F (y_add rfl rfl rfl (by omega)) rfl rfl rfl fun a F => ?_
  refine dv F (y_as rfl rfl) rfl rfl rfl fun a F => ?_
  refine dn ?_
  refine tn <| hK7 _ _ ?_
  refine bl ?_
  refine lp (fun m a w => ∃ i j : Nat, m = l.length - j ∧ (i < j) ∧ (j ≤ l.length) ∧ (((l.take j).filter (fun x => !p x)).length = i) ∧ Fr 42 a [(0, .slice A l.length c), (1, .func (.func g) #[] cap.toArray), (5, .int .i64 (i : Int)), (6, .int .i64 (j : Int))] ∧ St w0 w (upd hs q (ow 9 1 (.slice A l.length c) l.length (((l.take j).filter (fun x => !p x) ++ l.drop i).flatMap encS)))) (l.length - (i0 + 1)) ?_ ?_
  ·exact ⟨i0, i0 + 1, rfl, Nat.lt_succ_self _, hi0, (by rw [keep_first l p i0 hi0 hp0 hno, List.length_take]; omega), F.sub _ ⟨rfl, rfl, rfl, rfl, trivial⟩, (by rw [row_first l p i0 hi0 hp0 hno, upd_self hi]; exact S)⟩
  ·rintro m a w ⟨i, j, hm, hij, hj, hK, F, S⟩
   refine sq fun K8 hK8 => ?_
   refine sq fun K9 hK9 => ?_
   refine rg ?_
   refine dv F (y_mv rfl rfl) rfl rfl rfl fun a F => ?_
   refine dv F (y_mv rfl rfl) rfl rfl rfl fun a F => ?_
   refine dv F (y_ln rfl rfl Tryz.underlying25) rfl rfl rfl fun a F => ?_
   refine dv F (y_lt rfl rfl rfl) rfl rfl rfl fun a F => ?_
   refine dn ?_
   refine tn <| hK9 _ _ ?_
   refine cd F rfl (fun h1x => ?_) (fun h1x => ?_)
   ·refine wp_skip ?_
    refine tn <| hK8 _ _ ?_
    refine sq fun K10 hK10 => ?_
    refine bl ?_
    refine sq fun K11 hK11 => ?_
    have hlt : j < l.length := by omega
    obtain ⟨b, o, rfl, hbb, hcc⟩ := (S.ows (nth_upd_eq _ _ _ _ hi) lenS (by decide)).at_ (j := j) (row_lt hlt hij hK)
    refine rg ?_
    refine dv F (y_mv rfl rfl) rfl rfl rfl fun a F => ?_
    refine dv F (y_mv rfl rfl) rfl rfl rfl fun a F => ?_
    refine dv F (y_ia rfl rfl rfl rfl Tryz.underlying25 Tryz.sizeOf9 j rfl hlt) rfl rfl rfl fun a F => ?_
    refine dv F (y_ld rfl rfl (ld1 Tryz.isAgg9 (by have h := hcc 0 _ rfl; rw [row_get hlt hij hK] at h; exact h))) rfl rfl rfl fun a F => ?_
    refine dv F (y_as rfl rfl) rfl rfl rfl fun a F => ?_
    refine dn ?_
    refine tn <| hK11 _ _ ?_
    refine sq fun K12 hK12 => ?_
    refine rg ?_
    refine dv F (y_mv rfl rfl) rfl rfl rfl fun a F => ?_
    refine dv F (y_mv rfl rfl) rfl rfl rfl fun a F => ?_
    refine dc F (c_f rfl rfl rfl he) rfl rfl rfl (hp _ (List.getElem_mem hlt) _ _ S) fun a v w' hr F => ?_
    obtain ⟨rfl, hb⟩ := hr
    replace S := S.call hb
    refine dv F (y_nt rfl rfl) rfl rfl rfl fun a F => ?_
    refine dn ?_
    refine tn <| hK12 _ _ ?_
    refine cb F rfl (fun h2 => ?_) (fun h2 => ?_)
    ·have g2 := h2
     try simp only [zi1, zi2, zi3, zi4, zi5, zi6, zi7, zi8] at g2
     refine sq fun K13 hK13 => ?_
     refine rg ?_
     refine dv F (y_mv rfl rfl) rfl rfl rfl fun a F => ?_
     refine dv F (y_mv rfl rfl) rfl rfl rfl fun a F => ?_
     refine dv F (y_mv rfl rfl) rfl rfl rfl fun a F => ?_
     refine dv F (y_ia rfl rfl rfl rfl Tryz.underlying25 Tryz.sizeOf9 i rfl (by omega)) rfl rfl rfl fun a F => ?_
     refine dso F S rfl rfl rfl Tryz.sizeOf9 (nth_upd_eq _ _ _ _ hi) (by omega) rfl rfl rfl rfl fun a w F S => ?_
     rw [upd_upd, flat_set] at S
     refine dn ?_
     refine tn <| hK13 _ _ ?_
     refine rg ?_
     refine dv F (y_mv rfl rfl) rfl rfl rfl fun a F => ?_
     refine dv F (y_add rfl rfl rfl (by omega)) rfl rfl rfl fun a F => ?_
     refine dv F (y_as rfl rfl) rfl rfl rfl fun a F => ?_
     refine dn ?_
     refine bn <| tn <| hK10 _ _ ?_
     refine rg ?_
     refine dv F (y_mv rfl rfl) rfl rfl rfl fun a F => ?_
     refine dv F (y_add rfl rfl rfl (by omega)) rfl rfl rfl fun a F => ?_
     refine dv F (y_as rfl rfl) rfl rfl rfl fun a F => ?_
     refine dn ?_
     exact ln (by omega) ⟨i + 1, j + 1, rfl, by omega, by omega, (by rw [keep_yes hlt g2, List.length_append, hK]; rfl), F.sub _ ⟨rfl, rfl, rfl, rfl, trivial⟩, (by rw [← row_yes hlt hij hK g2]; exact S)⟩
    ·have g2 := h2
     try simp only [zi1, zi2, zi3, zi4, zi5, zi6, zi7, zi8] at g2
     refine wp_skip ?_
     refine bn <| tn <| hK10 _ _ ?_
     refine rg ?_
     refine dv F (y_mv rfl rfl) rfl rfl rfl fun a F => ?_
     refine dv F (y_add rfl rfl rfl (by omega)) rfl rfl rfl fun a F => ?_
     refine dv F (y_as rfl rfl) rfl rfl rfl fun a F => ?_
     refine dn ?_
     exact ln (by omega) ⟨i, j + 1, rfl, by omega, by omega, (by rw [keep_no hlt g2]; exact hK), F.sub _ ⟨rfl, rfl, rfl, rfl, trivial⟩, (by rw [keep_no hlt g2]; exact S)⟩
   ·refine wp_exit ?_
    refine tx <| lx <| bh <| tn <| hK6 _ _ ?_
    refine sq fun K14 hK14 => ?_
    obtain ⟨b, o, rfl, hbb, hcc⟩ := (S.ows (nth_upd_eq _ _ _ _ hi) lenS (by decide)).at_ (j := i) (by rw [List.length_append, hK, List.length_drop]; omega)
    have hjl : j = l.length := by omega
    refine rg ?_
    refine dv F (y_mv rfl rfl) rfl rfl rfl fun a F => ?_
    refine dv F (y_mv rfl rfl) rfl rfl rfl fun a F => ?_
    refine dv F (y_sll (N := l.length - i) (lo := i) rfl rfl rfl Tryz.underlying25 Tryz.sizeOf9 rfl rfl (by omega) (by omega)) rfl rfl rfl fun a F => ?_
    refine dclr F S rfl (A := some ⟨b, o, none⟩) (k := i) (n := l.length) (c := c) rfl (nth_upd_eq _ _ _ _ hi) (by omega) Tryz.underlying25 Tryz.zeroValue9 rfl rfl rfl rfl fun a w F S => ?_
    rw [upd_upd] at S
    refine dn ?_
    refine tn <| hK14 _ _ ?_
    refine sq fun K15 hK15 => ?_
    refine rg ?_
    refine dv F (y_mv rfl rfl) rfl rfl rfl fun a F => ?_
    refine dv F (y_mv rfl rfl) rfl rfl rfl fun a F => ?_
    refine dv F (y_slh (m := i) rfl rfl rfl Tryz.underlying25 Tryz.sizeOf9 rfl (by omega)) rfl rfl rfl fun a F => ?_
    refine dv F (y_as rfl rfl) rfl rfl rfl fun a F => ?_
    refine dn ?_
    refine tn <| hK15 _ _ ?_
    refine wp_ret ?_
    refine ?_
    exact rt1 F rfl rfl (del_end hjl hK hi S)
end Go.Proofs.YtgcmddaibnimjaaGreatDoor
namespace Go.Proofs.YtgcmddaibnimjaaGreatDoor
open Go.RowKit Go.Eng
def hasS (s sub : ByteArray) : Bool := Lib.contains s.data.toList sub.data.toList
theorem c_has (x y : ByteArray) (w : World) (m : Int) (hm : w.cell? ⟨0, 0, none⟩ = some (.int .i64 m)) (hs : x.size < 4294967281) : Calls Tryz.prog 125 [.string x, .string y].toArray w (Ret fun v w' => v = .bool (hasS x y) ∧ Below w.heap.size w w') := shelf (Tryz.strings_Contains x y m w hs hm)
theorem memf {α : Type} {p : α → Bool} {l : List α} {x : α} (h : x ∈ l.filter p) : x ∈ l := (List.mem_filter.1 h).1
def sortS (l : List ByteArray) : List ByteArray := ((l.map tl).mergeSort fun x y => decide (x ≤ y)).map mkL
def compS (l : List ByteArray) : List ByteArray := (Lib.compact (l.map tl)).map mkL
theorem mkL_map (l : List (List UInt8)) : (l.map mkL).map tl = l := by rw [List.map_map]; exact (List.map_congr_left fun x _ => tl_mkL x).trans (List.map_id _)
theorem sortS_len (l : List ByteArray) : (sortS l).length = l.length := by rw [sortS, List.length_map, List.length_mergeSort, List.length_map]
theorem tl_mem {l : List ByteArray} {x : List UInt8} (h : x ∈ l.map tl) : mkL x ∈ l := by
 obtain ⟨y, hy, rfl⟩ := List.mem_map.1 h
 rw [mkL_tl]; exact hy
theorem sortS_mem {l : List ByteArray} {x : ByteArray} (h : x ∈ sortS l) : x ∈ l := by
 obtain ⟨y, hy, rfl⟩ := List.mem_map.1 h
 exact tl_mem (List.mem_mergeSort.1 hy)
theorem compS_len (l : List ByteArray) : (compS l).length ≤ l.length := by
 rw [compS, List.length_map, Lib.compact, Lib.compactUpTo, List.length_map]
 refine Nat.le_trans (List.length_filter_le _ _) ?_
 rw [List.length_range, List.length_map]; exact Nat.le_refl _
theorem compS_mem {l : List ByteArray} {x : ByteArray} (h : x ∈ compS l) : x ∈ l := by
 obtain ⟨y, hy, rfl⟩ := List.mem_map.1 h
 rw [Lib.compact, Lib.compactUpTo] at hy
 obtain ⟨k, hk, rfl⟩ := List.mem_map.1 hy
 have hk := List.mem_range.1 (memf hk)
 refine tl_mem ?_
 rw [getElem!_pos _ k (by simpa using hk)]
 simp only [List.getElem_toArray]
 exact List.getElem_mem _
theorem unl_big {l : List ByteArray} {N M : Nat} (hl : l.length ≤ N) (hM : ∀ x ∈ l, x.size ≤ M) (hNM : N * (M + 1) ≤ 70000000000000 := by decide) : (unl l).length ≤ 70000000000000 := by
 have h : (unl l).length ≤ l.length * (M + 1) := by
  clear hl hNM
  induction l with
  | nil => exact Nat.zero_le _
  | cons x l ih =>
   have h1 := ih fun y hy => hM y (List.mem_cons_of_mem _ hy)
   have h2 := hM x (List.mem_cons_self ..)
   have h3 : x.data.toList.length = x.size := by simp
   simp only [unl, List.flatMap_cons, List.length_append, List.length_cons, List.length_nil, Nat.add_mul] at h1 ⊢
   omega
 exact Nat.le_trans h (Nat.le_trans (Nat.mul_le_mul_right _ hl) hNM)
theorem below_grow' {w : World} (q : Nat) (os : Array Obj) : Below w.heap.size w (Go.Sort.grow (w.drewN q) os) := ⟨rfl, rfl, rfl, by rw [Go.Sort.size_grow]; exact Nat.le_add_right _ _, fun k hk => Go.Sort.heap_grow_old (w.drewN q) os hk⟩
section
variable {w0 W : World} {hs : List Res} {A : Option Addr} {c q : Nat} {l : List ByteArray}
theorem ow_some {e z n : Nat} {xs : List Value} (S : St w0 W hs) (h : nth hs q = some (ow e z (.slice A n c) n xs)) : (A = none ∧ n = 0) ∨ ∃ b o, A = some ⟨b, o, none⟩ := by
 obtain ⟨A', c', hv, h1, h2, h3, h4⟩ := S.ok h
 cases hv
 rcases h4 with ⟨h4, h5⟩ | ⟨g, off, cur, fr, h4, _⟩
 ·exact .inl ⟨h4, by omega⟩
 ·exact .inr ⟨g, off, h4⟩
theorem c_sort (hi : nth hs q = some (ow 9 1 (.slice A l.length c) l.length (l.flatMap encS))) (S : St w0 W hs) (hsz : l.length < 4611686018427387904) :
  Calls Tryz.prog 111 [.slice A l.length c].toArray W (Ret fun _ w' => St w0 w' (upd hs q (ow 9 1 (.slice A (sortS l).length c) (sortS l).length ((sortS l).flatMap encS)))) := by
 rw [sortS_len]
 rcases ow_some S hi with ⟨rfl, h0⟩ | ⟨b, o, rfl⟩
 ·have : l = [] := List.eq_nil_of_length_eq_zero h0
  subst this
  refine (Tryz.slices_Sort_string_none none c W).mono fun e w' h => ?_
  obtain ⟨rfl, rfl⟩ := h
  show St w0 w' (upd hs q (ow 9 1 (.slice none ([] : List ByteArray).length c) ([] : List ByteArray).length ((sortS []).flatMap encS)))
  rw [show sortS [] = [] by simp [sortS]]
  exact (upd_self hi).symm ▸ S
 ·obtain ⟨h1, h2⟩ := ow_holds (l := l) S hi
  have h := Tryz.slices_Sort_string b o c (l.map tl) W h1 h2 (by simpa using hsz)
  rw [List.length_map] at h
  refine h.mono fun e w' h => ?_
  obtain ⟨rfl, n, os, rfl⟩ := h
  have := ow_put (q := n) (os := os) (l := l) (ds := sortS l) S hi (sortS_len l)
  rw [show (sortS l).map tl = (l.map tl).mergeSort fun x y => decide (x ≤ y) from mkL_map _] at this
  exact this
theorem c_compact (hi : nth hs q = some (ow 9 1 (.slice A l.length c) l.length (l.flatMap encS))) (S : St w0 W hs) (hsz : l.length < 4611686018427387904) :
  Calls Tryz.prog 163 [.slice A l.length c].toArray W (Ret fun v w' => v = .slice A (compS l).length c ∧ St w0 w' (upd hs q (ow 9 1 (.slice A (compS l).length c) (compS l).length ((compS l).flatMap encS)))) := by
 rcases ow_some S hi with ⟨rfl, h0⟩ | ⟨b, o, rfl⟩
 ·have : l = [] := List.eq_nil_of_length_eq_zero h0
  subst this
  refine (Tryz.slices_Compact_string_empty none c W).mono fun e w' h => ?_
  obtain ⟨rfl, rfl⟩ := h
  refine ⟨rfl, ?_⟩
  show St w0 w' (upd hs q (ow 9 1 (.slice none ([] : List ByteArray).length c) ([] : List ByteArray).length (([] : List ByteArray).flatMap encS)))
  exact (upd_self hi).symm ▸ S
 ·obtain ⟨h1, h2⟩ := ow_holds (l := l) S hi
  have hcap := ow_le S hi
  have h := Tryz.slices_Compact_string b o c (l.map tl) W h1 (by rw [List.length_map]; omega) (by rw [List.length_map]; omega)
  rw [List.length_map] at h
  refine h.mono fun e w' h => ?_
  obtain ⟨rfl, n, rfl⟩ := h
  have hcl := compS_len l
  have hcl2 : (compS l).length = (Lib.compact (l.map tl)).length := by rw [compS, List.length_map]
  have h3 := ow_put (q := n) (os := #[]) (l := l) (ds := compS l ++ List.replicate (l.length - (compS l).length) ⟨#[]⟩) S hi (by rw [List.length_append, List.length_replicate]; omega)
  rw [Go.Sort.grow_empty, List.map_append, List.map_replicate, show (compS l).map tl = Lib.compact (l.map tl) from mkL_map _, hcl2] at h3
  have h4 := ow_take h3 (nth_upd_eq _ _ _ _ hi) (show (compS l).length ≤ l.length from hcl)
  rw [upd_upd] at h4
  have hfl : ((compS l).flatMap cel).length = (compS l).length := by have := flat_len (enc := cel) (z := 1) (fun _ => rfl) (compS l); omega
  rw [List.flatMap_append, Nat.mul_one, List.take_append_of_le_length (by omega), List.take_of_length_le (by omega)] at h4
  exact ⟨by rw [hcl2], h4⟩
end
theorem c_itoa (n : Int) (w : World) (G : Gl w) (h : -9223372036854775808 ≤ n ∧ n ≤ 9223372036854775807) : Calls Tryz.prog 164 [.int .i64 n].toArray w (Ret fun v w' => v = .string ⟨(Lib.itoa n).toArray⟩ ∧ Below w.heap.size w w') :=
 (Tryz.strconv_Itoa n h.1 h.2 w G.tb).mono fun e w' he => by obtain ⟨rfl, k, os, rfl⟩ := he; exact ⟨rfl, below_grow' k os⟩
theorem itoa_le {n : Int} (h : -9223372036854775808 ≤ n ∧ n ≤ 9223372036854775807) : (⟨(Lib.itoa n).toArray⟩ : ByteArray).size + (⟨#[10]⟩ : ByteArray).size ≤ 9223372036854775807 := by
 have := Lib.itoa_length_le n h.1 h.2
 show (Lib.itoa n).toArray.size + 1 ≤ _
 rw [List.size_toArray]; omega
def upI (c : Int) : Int := if 97 ≤ c ∧ c ≤ 122 then c - 32 else c
def upperB (s : ByteArray) : ByteArray := mkB ((bI s).map upI)
theorem flatU8_set : ∀ (l : List Int) (k : Nat) (v : Int), (l.flatMap encU8).set k (.int .u8 v) = (l.set k v).flatMap encU8
 | [], _, _ => rfl
 | x :: l, 0, v => rfl
 | x :: l, k + 1, v => by
  simp only [List.flatMap_cons, List.set_cons_succ]
  show Value.int .u8 x :: ((l.flatMap encU8).set k (.int .u8 v)) = Value.int .u8 x :: _
  rw [flatU8_set l k v]; rfl
section
variable {xs : List Int} {i : Nat}
theorem up_len (h : i ≤ xs.length) : ((xs.take i).map upI ++ xs.drop i).length = xs.length := by
 rw [List.length_append, List.length_map, List.length_take, List.length_drop]; omega
theorem up_get (h : i < xs.length) : ((xs.take i).map upI ++ xs.drop i)[i]'(by rw [up_len (by omega)]; exact h) = xs[i] := by
 rw [List.getElem_append_right (by rw [List.length_map, List.length_take]; omega), List.getElem_drop]
 congr 1
 rw [List.length_map, List.length_take]; omega
theorem up_set (h : i < xs.length) {v : Int} (hv : v = upI xs[i]) : ((xs.take i).map upI ++ xs.drop i).set i v = (xs.take (i + 1)).map upI ++ xs.drop (i + 1) := by
 rw [List.take_succ_eq_append_getElem h, List.map_append, List.set_append_right _ _ (by rw [List.length_map, List.length_take]; omega), List.drop_eq_getElem_cons h]
 have : i - ((xs.take i).map upI).length = 0 := by rw [List.length_map, List.length_take]; omega
 rw [this, List.set_cons_zero, hv, List.append_assoc]; rfl
theorem up_no (h : i < xs.length) (hn : ¬ (97 ≤ xs[i] ∧ xs[i] ≤ 122)) : ((xs.take i).map upI ++ xs.drop i) = (xs.take (i + 1)).map upI ++ xs.drop (i + 1) := by
 have hl : i < ((xs.take i).map upI ++ xs.drop i).length := by rw [up_len (by omega)]; exact h
 have h1 : ((xs.take i).map upI ++ xs.drop i).set i (((xs.take i).map upI ++ xs.drop i)[i]'hl) = (xs.take i).map upI ++ xs.drop i := List.set_getElem_self ..
 rw [up_get h] at h1
 rw [← up_set h (v := xs[i]) (by rw [upI, if_neg hn])]
 exact h1.symm
theorem up_yes (h : i < xs.length) (hc : 97 ≤ xs[i] ∧ xs[i] ≤ 122) : ((xs.take i).map upI ++ xs.drop i).set i (IntKind.u8.wrap (xs[i] - 32)) = (xs.take (i + 1)).map upI ++ xs.drop (i + 1) :=
 up_set h (by rw [upI, if_pos hc, IntWalk.u8_in _ (by omega)])
theorem up_end : ((xs.take xs.length).map upI ++ xs.drop xs.length) = xs.map upI := by rw [List.take_length, List.drop_length, List.append_nil]
end
def RS.turn (σ : RS) (name arg : ByteArray) (l : List ByteArray) : RS :=
 if name = kSort then σ.setLines (sortS l) else if name = kUniq then σ.setLines (compS l) else if name = kUpper then { σ with buf := upperB σ.buf }
 else if name = kCount then { σ with buf := ⟨(Lib.itoa l.length).toArray⟩ ++ nlB } else if name = kKeep then σ.setLines (l.filter fun x => !!hasS x arg) else σ
section
variable {σ : RS} {name arg : ByteArray} {l : List ByteArray}
theorem turn_sort (h : name = ⟨#[115, 111, 114, 116]⟩) : σ.turn name arg l = σ.setLines (sortS l) := if_pos h
theorem turn_uniq (h : ¬ name = ⟨#[115, 111, 114, 116]⟩) (h2 : name = ⟨#[117, 110, 105, 113]⟩) : σ.turn name arg l = σ.setLines (compS l) := (if_neg h).trans (if_pos h2)
theorem turn_upper (h : ¬ name = ⟨#[115, 111, 114, 116]⟩) (h2 : ¬ name = ⟨#[117, 110, 105, 113]⟩) (h3 : name = ⟨#[117, 112, 112, 101, 114]⟩) : σ.turn name arg l = { σ with buf := upperB σ.buf } := (if_neg h).trans ((if_neg h2).trans (if_pos h3))
theorem turn_count (h : ¬ name = ⟨#[115, 111, 114, 116]⟩) (h2 : ¬ name = ⟨#[117, 110, 105, 113]⟩) (h3 : ¬ name = ⟨#[117, 112, 112, 101, 114]⟩) (h4 : name = ⟨#[99, 111, 117, 110, 116]⟩) : σ.turn name arg l = { σ with buf := ⟨(Lib.itoa l.length).toArray⟩ ++ nlB } := (if_neg h).trans ((if_neg h2).trans ((if_neg h3).trans (if_pos h4)))
theorem turn_keep (h : ¬ name = ⟨#[115, 111, 114, 116]⟩) (h2 : ¬ name = ⟨#[117, 110, 105, 113]⟩) (h3 : ¬ name = ⟨#[117, 112, 112, 101, 114]⟩) (h4 : ¬ name = ⟨#[99, 111, 117, 110, 116]⟩) (h5 : name = ⟨#[107, 101, 101, 112]⟩) : σ.turn name arg l = σ.setLines (l.filter fun x => !!hasS x arg) := (if_neg h).trans ((if_neg h2).trans ((if_neg h3).trans ((if_neg h4).trans (if_pos h5))))
theorem turn_none (h : ¬ name = ⟨#[115, 111, 114, 116]⟩) (h2 : ¬ name = ⟨#[117, 110, 105, 113]⟩) (h3 : ¬ name = ⟨#[117, 112, 112, 101, 114]⟩) (h4 : ¬ name = ⟨#[99, 111, 117, 110, 116]⟩) (h5 : ¬ name = ⟨#[107, 101, 101, 112]⟩) : σ.turn name arg l = σ := (if_neg h).trans ((if_neg h2).trans ((if_neg h3).trans ((if_neg h4).trans (if_neg h5))))
end
theorem c_nohas (x arg : ByteArray) {bx : Nat} (w0 : World) (hbx : w0.cell? ⟨bx, 0, none⟩ = some (.string arg)) (G : Gl w0) (hs : x.size ≤ 1000000000) : Calls Tryz.prog 166 [.string x, pt bx].toArray w0 (Ret fun v w' => v = .bool (!hasS x arg) ∧ Below w0.heap.size w0 w') := by
 refine ent Tryz.func166 Tryz.ntmps166 rfl rfl ?_
 intro a F
 have S := St.refl w0
 refine sq fun K1 hK1 => ?_
 refine rg ?_
 refine dv F (y_as rfl rfl) rfl rfl rfl fun a F => ?_
 refine dn ?_
 refine tn <| hK1 _ _ ?_
 refine sq fun K2 hK2 => ?_
 obtain ⟨mm, hmm⟩ := G.ml
 refine rg ?_
 refine dv F (y_mv rfl rfl) rfl rfl rfl fun a F => ?_
 refine dv F (y_ld rfl rfl (ld1 Tryz.isAgg9 hbx)) rfl rfl rfl fun a F => ?_
 refine dc F (c_f rfl rfl rfl Tryz.call125) rfl rfl rfl (c_has _ _ _ mm hmm (by omega)) fun a v w' hr F => ?_
 obtain ⟨rfl, hb⟩ := hr
 replace S := S.call hb
 refine dv F (y_nt rfl rfl) rfl rfl rfl fun a F => ?_
 refine dv F (y_as rfl rfl) rfl rfl rfl fun a F => ?_
 refine dn ?_
 refine tn <| hK2 _ _ ?_
 refine wp_ret ?_
 refine ?_
 exact rt1 F rfl rfl ⟨rfl, S.bel⟩
theorem c_has3 (x arg : ByteArray) {bx : Nat} (w0 : World) (hbx : w0.cell? ⟨bx, 0, none⟩ = some (.string arg)) (G : Gl w0) (hs : x.size ≤ 1000000000) : Calls Tryz.prog 124 [.string x, pt bx].toArray w0 (Ret fun v w' => v = .bool (hasS x arg) ∧ Below w0.heap.size w0 w') := by
 refine ent Tryz.func124 Tryz.ntmps124 rfl rfl ?_
 intro a F
 have S := St.refl w0
 refine sq fun K1 hK1 => ?_
 refine rg ?_
 refine dv F (y_as rfl rfl) rfl rfl rfl fun a F => ?_
 refine dn ?_
 refine tn <| hK1 _ _ ?_
 refine sq fun K2 hK2 => ?_
 obtain ⟨mm, hmm⟩ := G.ml
 refine rg ?_
 refine dv F (y_mv rfl rfl) rfl rfl rfl fun a F => ?_
 refine dv F (y_ld rfl rfl (ld1 Tryz.isAgg9 hbx)) rfl rfl rfl fun a F => ?_
 refine dc F (c_f rfl rfl rfl Tryz.call125) rfl rfl rfl (c_has _ _ _ mm hmm (by omega)) fun a v w' hr F => ?_
 obtain ⟨rfl, hb⟩ := hr
 replace S := S.call hb
 refine dv F (y_as rfl rfl) rfl rfl rfl fun a F => ?_
 refine dn ?_
 refine tn <| hK2 _ _ ?_
 refine wp_ret ?_
 refine ?_
 exact rt1 F rfl rfl ⟨rfl, S.bel⟩
theorem c_turn (name arg : ByteArray) (l : List ByteArray) {AL : Option Addr} {cL : Nat} {C : RC} {sb : Nat} {sr : Res} {H : Hp} {σ : RS} {mr : Res} {w0 W : World} {A : Option Addr} {c : Nat} {vals : List Value} (G : Gl w0) (hE : FzS H 2 encSt C.eA C.env) (hv : All2 (TaskAt H C.rb sb) σ.todo vals) (S : St w0 W (RLs C A c vals H sr σ mr ++ [ow 9 1 (.slice AL l.length cL) l.length (l.flatMap encS)])) (hb : σ.buf.size ≤ 100000) (hl : l.length ≤ 100000) (hsz : ∀ x ∈ l, x.size ≤ 100000) : Calls Tryz.prog 126 [.pointer (some ⟨C.rb, 0, none⟩), .string name, .string arg, .slice AL l.length cL].toArray W (Ret fun v w' => Rep C sb sr H (σ.turn name arg l) mr w0 w') := by
 have hle := Hp.le_refl H
 refine ent Tryz.func126 Tryz.ntmps126 rfl rfl ?_
 intro a F
 refine sq fun K1 hK1 => ?_
 refine rg ?_
 refine dbx F S rfl rfl rfl rfl rfl rfl fun a w b6 F S => ?_
 refine dn ?_
 refine tn <| hK1 _ _ ?_
 refine sq fun K2 hK2 => ?_
 refine rg ?_
 refine dv F (y_mv rfl rfl) rfl rfl rfl fun a F => ?_
 refine dn ?_
 refine tn <| hK2 _ _ ?_
 refine bl ?_
 refine sq fun K3 hK3 => ?_
 refine rg ?_
 refine dv F (y_se rfl rfl rfl) rfl rfl rfl fun a F => ?_
 refine dv F (y_as rfl rfl) rfl rfl rfl fun a F => ?_
 refine dn ?_
 refine tn <| hK3 _ _ ?_
 refine cb F rfl (fun h1 => ?_) (fun h1 => ?_)
 ·have g1 := h1
  try simp only [zi1, zi2, zi3, zi4, zi5, zi6, zi7, zi8] at g1
  refine sq fun K4 hK4 => ?_
  refine rg ?_
  refine dv F (y_mv rfl rfl) rfl rfl rfl fun a F => ?_
  refine dc F (c_f rfl rfl rfl Tryz.call111) rfl rfl rfl (c_sort (q := 6) rfl S (by omega)) fun a v w' hr F => ?_
  have hS := hr
  replace S := hS
  rw [show l.length = (sortS l).length from (sortS_len l).symm] at F
  refine dn ?_
  refine tn <| hK4 _ _ ?_
  refine rg ?_
  refine dv F (y_mv rfl rfl) rfl rfl rfl fun a F => ?_
  refine dv F (y_mv rfl rfl) rfl rfl rfl fun a F => ?_
  obtain ⟨K, hlK, hfK, S⟩ := S.frzOw (enc := encS) (xs := sortS l) (i := 3) (j := 6) rfl rfl (by decide) lenS
  refine dc F (c_f rfl rfl rfl Tryz.call162) rfl rfl rfl (c_setLines (H0 := K) (sortS l) hfK (unl_big (l := sortS l) (N := 100000) (M := 100000) (by have := sortS_len l; omega) (fun x hx => hsz x (sortS_mem hx))) (Rep.mk' (Hp.le_refl K) (hE.le hlK) (hv.mono fun _ _ _ h => h.le hlK) (S.pick [0, 1, 2, 3, 4, 5] _ ⟨rfl, rfl, rfl, rfl, rfl, rfl, trivial⟩ rfl))) fun a v w' hr F => ?_
  have hR := hr
  refine dn ?_
  refine bn <| ?_
  exact rn0 F rfl (by rw [turn_sort g1]; exact hR.le hlK)
 ·have g1 := h1
  try simp only [zi1, zi2, zi3, zi4, zi5, zi6, zi7, zi8] at g1
  refine sq fun K5 hK5 => ?_
  refine rg ?_
  refine dv F (y_se rfl rfl rfl) rfl rfl rfl fun a F => ?_
  refine dv F (y_as rfl rfl) rfl rfl rfl fun a F => ?_
  refine dn ?_
  refine tn <| hK5 _ _ ?_
  refine cb F rfl (fun h2 => ?_) (fun h2 => ?_)
  ·have g2 := h2
   try simp only [zi1, zi2, zi3, zi4, zi5, zi6, zi7, zi8] at g2
   refine rg ?_
   refine dv F (y_mv rfl rfl) rfl rfl rfl fun a F => ?_
   refine dv F (y_mv rfl rfl) rfl rfl rfl fun a F => ?_
   refine dc F (c_f rfl rfl rfl Tryz.call163) rfl rfl rfl (c_compact (q := 6) rfl S (by omega)) fun a v w' hr F => ?_
   obtain ⟨rfl, hS⟩ := hr
   replace S := hS
   obtain ⟨K, hlK, hfK, S⟩ := S.frzOw (enc := encS) (xs := compS l) (i := 3) (j := 6) rfl rfl (by decide) lenS
   refine dc F (c_f rfl rfl rfl Tryz.call162) rfl rfl rfl (c_setLines (H0 := K) (compS l) hfK (unl_big (l := compS l) (N := 100000) (M := 100000) (by have := compS_len l; omega) (fun x hx => hsz x (compS_mem hx))) (Rep.mk' (Hp.le_refl K) (hE.le hlK) (hv.mono fun _ _ _ h => h.le hlK) (S.pick [0, 1, 2, 3, 4, 5] _ ⟨rfl, rfl, rfl, rfl, rfl, rfl, trivial⟩ rfl))) fun a v w' hr F => ?_
   have hR := hr
   refine dn ?_
   refine bn <| ?_
   exact rn0 F rfl (by rw [turn_uniq g1 g2]; exact hR.le hlK)
  ·have g2 := h2
   try simp only [zi1, zi2, zi3, zi4, zi5, zi6, zi7, zi8] at g2
   refine sq fun K6 hK6 => ?_
   refine rg ?_
   refine dv F (y_se rfl rfl rfl) rfl rfl rfl fun a F => ?_
   refine dv F (y_as rfl rfl) rfl rfl rfl fun a F => ?_
   refine dn ?_
   refine tn <| hK6 _ _ ?_
   refine cb F rfl (fun h3 => ?_) (fun h3 => ?_)
   ·have g3 := h3
    try simp only [zi1, zi2, zi3, zi4, zi5, zi6, zi7, zi8] at g3
    refine sq fun K7 hK7 => ?_
    refine rg ?_
    refine dv F (y_mv rfl rfl) rfl rfl rfl fun a F => ?_
    refine dv F (y_nc rfl rfl) rfl rfl rfl fun a F => ?_
    refine dv F (y_fa rfl rfl fi137_2) rfl rfl rfl fun a F => ?_
    refine dv F (y_ld rfl rfl (S.ld (i := 0) rfl rfl Tryz.isAgg9)) rfl rfl rfl fun a F => ?_
    refine dcb F S rfl rfl Tryz.underlying9 Tryz.underlying61 Tryz.underlying5 (by omega) rfl rfl rfl fun a w A' c' F S => ?_
    refine dv F (y_as rfl rfl) rfl rfl rfl fun a F => ?_
    refine dn ?_
    refine tn <| hK7 _ _ ?_
    refine sq fun K8 hK8 => ?_
    refine sq fun K9 hK9 => ?_
    have hbl := bI_len σ.buf
    refine rg ?_
    refine dv F (y_mv rfl rfl) rfl rfl rfl fun a F => ?_
    refine dv F (y_ln rfl rfl Tryz.underlying61) rfl rfl rfl fun a F => ?_
    refine dv F (y_mv rfl rfl) rfl rfl rfl fun a F => ?_
    refine dn ?_
    refine tn <| hK9 _ _ ?_
    refine bl ?_
    refine lp (fun m a w => ∃ i : Nat, m = (bI σ.buf).length - i ∧ (i ≤ (bI σ.buf).length) ∧ Fr 72 a [(0, pt C.rb), (8, .slice A' (bI σ.buf).length c'), (32, .slice A' (bI σ.buf).length c'), (33, .int .i64 ((bI σ.buf).length : Int)), (34, .int .i64 (i : Int))] ∧ St w0 w [bk C.rb 137 (rcells C A vals.length c σ), ow 1 1 (.slice A vals.length c) vals.length vals, mpe C.kb (kmap σ.known), fz H, sr, mr, ow 5 1 (.slice A' (bI σ.buf).length c') (bI σ.buf).length ((((bI σ.buf).take i).map upI ++ (bI σ.buf).drop i).flatMap encU8)]) ((bI σ.buf).length) ?_ ?_
    ·exact ⟨0, rfl, Nat.zero_le _, F.sub _ ⟨rfl, rfl, rfl, rfl, rfl, trivial⟩, S.pick [0, 1, 2, 3, 4, 5, 8] _ ⟨rfl, rfl, rfl, rfl, rfl, rfl, rfl, trivial⟩ rfl⟩
    ·rintro m a w ⟨i, hm, hi, F, S⟩
     refine sq fun K10 hK10 => ?_
     refine rg ?_
     refine dv F (y_lt rfl rfl rfl) rfl rfl rfl fun a F => ?_
     refine dn ?_
     refine tn <| hK10 _ _ ?_
     refine sq fun K11 hK11 => ?_
     refine cd F rfl (fun h1x => ?_) (fun h1x => ?_)
     ·refine wp_skip ?_
      refine tn <| hK11 _ _ ?_
      refine sq fun K12 hK12 => ?_
      refine bl ?_
      refine sq fun K13 hK13 => ?_
      have hlt : i < (bI σ.buf).length := by omega
      obtain ⟨ab, ao, rfl, hab, hcell⟩ := (S.ows (i := 6) rfl lenU8 (by decide)).at_ (j := i) (by rw [up_len hi]; omega)
      refine rg ?_
      refine dv F (y_mv rfl rfl) rfl rfl rfl fun a F => ?_
      refine dv F (y_ia rfl rfl rfl rfl Tryz.underlying61 Tryz.sizeOf5 i rfl hlt) rfl rfl rfl fun a F => ?_
      refine dv F (y_ld rfl rfl (ld1 Tryz.isAgg5 (by have h := hcell 0 _ rfl; rw [up_get hlt] at h; exact h))) rfl rfl rfl fun a F => ?_
      refine dv F (y_as rfl rfl) rfl rfl rfl fun a F => ?_
      refine dv F (y_as rfl rfl) rfl rfl rfl fun a F => ?_
      refine dn ?_
      refine tn <| hK13 _ _ ?_
      refine sq fun K14 hK14 => ?_
      refine rg ?_
      refine dv F (y_mv rfl rfl) rfl rfl rfl fun a F => ?_
      refine dv F (y_ge rfl rfl rfl) rfl rfl rfl fun a F => ?_
      refine dv F (y_mv rfl rfl) rfl rfl rfl fun a F => ?_
      refine gsp F 41 rfl (fun h4 => ?_) (fun h4 => ?_)
      ·have g4 := h4
       try simp only [zi1, zi2, zi3, zi4, zi5, zi6, zi7, zi8] at g4
       refine gv F rfl rfl rfl h4 (y_mv rfl rfl) rfl rfl fun a F => ?_
       refine gv F rfl rfl rfl h4 (y_le rfl rfl rfl) rfl rfl fun a F => ?_
       refine dv F (y_pkt h4 rfl rfl rfl) rfl rfl rfl fun a F => ?_
       refine dn ?_
       refine tn <| hK14 _ _ ?_
       refine cb F rfl (fun h5 => ?_) (fun h5 => ?_)
       ·have g5 := h5
        try simp only [zi1, zi2, zi3, zi4, zi5, zi6, zi7, zi8] at g5
        refine rg ?_
        refine dv F (y_mv rfl rfl) rfl rfl rfl fun a F => ?_
        refine dv F (y_mv rfl rfl) rfl rfl rfl fun a F => ?_
        refine dv F (y_mv rfl rfl) rfl rfl rfl fun a F => ?_
        refine dv F (y_ws rfl rfl rfl) rfl rfl rfl fun a F => ?_
        refine dv F (y_ia rfl rfl rfl rfl Tryz.underlying61 Tryz.sizeOf5 i rfl hlt) rfl rfl rfl fun a F => ?_
        refine dso F S rfl rfl rfl Tryz.sizeOf5 (i := 6) rfl hlt rfl rfl rfl rfl fun a w F S => ?_
        rw [flatU8_set] at S
        refine dn ?_
        refine bn <| tn <| hK12 _ _ ?_
        refine rg ?_
        refine dv F (y_add rfl rfl rfl (by omega)) rfl rfl rfl fun a F => ?_
        refine dv F (y_mv rfl rfl) rfl rfl rfl fun a F => ?_
        refine dn ?_
        exact ln (by omega) ⟨i + 1, rfl, by omega, F.sub _ ⟨rfl, rfl, rfl, rfl, rfl, trivial⟩, (by rw [← up_yes hlt ⟨g4, g5⟩]; exact S.pick [0, 1, 2, 3, 4, 5, 6] _ ⟨rfl, rfl, rfl, rfl, rfl, rfl, rfl, trivial⟩ rfl)⟩
       ·have g5 := h5
        try simp only [zi1, zi2, zi3, zi4, zi5, zi6, zi7, zi8] at g5
        refine wp_skip ?_
        refine bn <| tn <| hK12 _ _ ?_
        refine rg ?_
        refine dv F (y_add rfl rfl rfl (by omega)) rfl rfl rfl fun a F => ?_
        refine dv F (y_mv rfl rfl) rfl rfl rfl fun a F => ?_
        refine dn ?_
        exact ln (by omega) ⟨i + 1, rfl, by omega, F.sub _ ⟨rfl, rfl, rfl, rfl, rfl, trivial⟩, (by rw [← up_no hlt (by omega)]; exact S.pick [0, 1, 2, 3, 4, 5, 6] _ ⟨rfl, rfl, rfl, rfl, rfl, rfl, rfl, trivial⟩ rfl)⟩
      ·have g4 := h4
       try simp only [zi1, zi2, zi3, zi4, zi5, zi6, zi7, zi8] at g4
       refine gs F rfl rfl rfl h4 rfl rfl fun a F => ?_
       refine gs F rfl rfl rfl h4 rfl rfl fun a F => ?_
       refine dv F (y_pkf h4 rfl rfl rfl) rfl rfl rfl fun a F => ?_
       refine dn ?_
       refine tn <| hK14 _ _ ?_
       refine cf F rfl rfl ?_
       refine wp_skip ?_
       refine bn <| tn <| hK12 _ _ ?_
       refine rg ?_
       refine dv F (y_add rfl rfl rfl (by omega)) rfl rfl rfl fun a F => ?_
       refine dv F (y_mv rfl rfl) rfl rfl rfl fun a F => ?_
       refine dn ?_
       exact ln (by omega) ⟨i + 1, rfl, by omega, F.sub _ ⟨rfl, rfl, rfl, rfl, rfl, trivial⟩, (by rw [← up_no hlt (by omega)]; exact S.pick [0, 1, 2, 3, 4, 5, 6] _ ⟨rfl, rfl, rfl, rfl, rfl, rfl, rfl, trivial⟩ rfl)⟩
     ·refine wp_exit ?_
      refine tx <| lx <| bh <| tn <| hK8 _ _ ?_
      obtain rfl : i = (bI σ.buf).length := by omega
      rw [up_end] at S
      rw [show (bI σ.buf).length = ((bI σ.buf).map upI).length from (List.length_map ..).symm] at F S
      refine rg ?_
      refine dv F (y_mv rfl rfl) rfl rfl rfl fun a F => ?_
      refine dv F (y_mv rfl rfl) rfl rfl rfl fun a F => ?_
      refine dv F (y_cbs rfl rfl Tryz.underlying61 Tryz.underlying5 Tryz.underlying9 (S.ows (i := 6) rfl lenU8 (by decide))) rfl rfl rfl fun a F => ?_
      refine dv F (y_nc rfl rfl) rfl rfl rfl fun a F => ?_
      refine dv F (y_fa rfl rfl fi137_2) rfl rfl rfl fun a F => ?_
      refine dst F S rfl rfl rfl Tryz.sizeOf9 (i := 0) rfl rfl (Nat.le_of_ble_eq_true rfl) one1 rfl rfl fun a w F S => ?_
      refine dn ?_
      refine bn <| ?_
      exact rn0 F rfl (by rw [turn_upper g1 g2 g3]; exact ⟨A, c, vals, H, hle, hE, hv, (S.pick [0, 1, 2, 3, 4, 5] _ ⟨rfl, rfl, rfl, rfl, rfl, rfl, trivial⟩ rfl)⟩)
   ·have g3 := h3
    try simp only [zi1, zi2, zi3, zi4, zi5, zi6, zi7, zi8] at g3
    refine sq fun K15 hK15 => ?_
    refine rg ?_
    refine dv F (y_se rfl rfl rfl) rfl rfl rfl fun a F => ?_
    refine dv F (y_as rfl rfl) rfl rfl rfl fun a F => ?_
    refine dn ?_
    refine tn <| hK15 _ _ ?_
    refine cb F rfl (fun h6 => ?_) (fun h6 => ?_)
    ·have g6 := h6
     try simp only [zi1, zi2, zi3, zi4, zi5, zi6, zi7, zi8] at g6
     refine rg ?_
     refine dv F (y_mv rfl rfl) rfl rfl rfl fun a F => ?_
     refine dv F (y_mv rfl rfl) rfl rfl rfl fun a F => ?_
     refine dv F (y_ln rfl rfl Tryz.underlying25) rfl rfl rfl fun a F => ?_
     refine dc F (c_f rfl rfl rfl Tryz.call164) rfl rfl rfl (c_itoa _ _ (G.st S) (by omega)) fun a v w' hr F => ?_
     obtain ⟨rfl, hb⟩ := hr
     replace S := S.call hb
     refine dv F (y_sad rfl rfl rfl (itoa_le (by omega))) rfl rfl rfl fun a F => ?_
     refine dv F (y_nc rfl rfl) rfl rfl rfl fun a F => ?_
     refine dv F (y_fa rfl rfl fi137_2) rfl rfl rfl fun a F => ?_
     refine dst F S rfl rfl rfl Tryz.sizeOf9 (i := 0) rfl rfl (Nat.le_of_ble_eq_true rfl) one1 rfl rfl fun a w F S => ?_
     refine dn ?_
     refine bn <| ?_
     exact rn0 F rfl (by rw [turn_count g1 g2 g3 g6]; exact ⟨A, c, vals, H, hle, hE, hv, (S.pick [0, 1, 2, 3, 4, 5] _ ⟨rfl, rfl, rfl, rfl, rfl, rfl, trivial⟩ rfl)⟩)
    ·have g6 := h6
     try simp only [zi1, zi2, zi3, zi4, zi5, zi6, zi7, zi8] at g6
     refine sq fun K16 hK16 => ?_
     refine rg ?_
     refine dv F (y_se rfl rfl rfl) rfl rfl rfl fun a F => ?_
     refine dv F (y_as rfl rfl) rfl rfl rfl fun a F => ?_
     refine dn ?_
     refine tn <| hK16 _ _ ?_
     refine cb F rfl (fun h7 => ?_) (fun h7 => ?_)
     ·have g7 := h7
      try simp only [zi1, zi2, zi3, zi4, zi5, zi6, zi7, zi8] at g7
      refine rg ?_
      refine dv F (y_mv rfl rfl) rfl rfl rfl fun a F => ?_
      refine dv F (y_mv rfl rfl) rfl rfl rfl fun a F => ?_
      refine dv F (y_mf rfl rfl) rfl rfl rfl fun a F => ?_
      refine dc F (c_f rfl rfl rfl Tryz.call165) rfl rfl rfl (c_Delete (fun x => !hasS x arg) [pt b6] Tryz.call166 (q := 6) rfl S (by omega) (fun x hx w ys S => c_nohas x arg w (S.cell (i := 7) rfl rfl) (G.st S) (by have := hsz x hx; omega))) fun a v w' hr F => ?_
      obtain ⟨rfl, hS⟩ := hr
      replace S := hS
      obtain ⟨K, hlK, hfK, S⟩ := S.frzOw (enc := encS) (xs := l.filter fun x => !!hasS x arg) (i := 3) (j := 6) rfl rfl (by decide) lenS
      refine dc F (c_f rfl rfl rfl Tryz.call162) rfl rfl rfl (c_setLines (H0 := K) (l.filter fun x => !!hasS x arg) hfK (unl_big (l := l.filter fun x => !!hasS x arg) (N := 100000) (M := 100000) (by have := List.length_filter_le (fun x => !!hasS x arg) l; omega) (fun x hx => hsz x (memf hx))) (Rep.mk' (Hp.le_refl K) (hE.le hlK) (hv.mono fun _ _ _ h => h.le hlK) (S.pick [0, 1, 2, 3, 4, 5] _ ⟨rfl, rfl, rfl, rfl, rfl, rfl, trivial⟩ rfl))) fun a v w' hr F => ?_
      have hR := hr
      refine dn ?_
      refine bn <| ?_
      exact rn0 F rfl (by rw [turn_keep g1 g2 g3 g6 g7]; exact hR.le hlK)
     ·have g7 := h7
      try simp only [zi1, zi2, zi3, zi4, zi5, zi6, zi7, zi8] at g7
      refine wp_skip ?_
      refine bn <| ?_
      exact rn0 F rfl (by rw [turn_none g1 g2 g3 g6 g7]; exact ⟨A, c, vals, H, hle, hE, hv, (S.pick [0, 1, 2, 3, 4, 5] _ ⟨rfl, rfl, rfl, rfl, rfl, rfl, trivial⟩ rfl)⟩)
end Go.Proofs.YtgcmddaibnimjaaGreatDoor
namespace Go.Proofs.YtgcmddaibnimjaaGreatDoor
open Go.RowKit Go.Eng
def Cmd.word (c : Cmd) (i : Nat) : ByteArray := (c.words[i]?).getD eB
def Cmd.arg (c : Cmd) : ByteArray := c.word 1
def CmdOk (c : Cmd) : Prop := (1 ≤ c.words.length ∧ c.rest.size ≤ 1000000) ∧ (c.word 0 = kScan → 3 ≤ c.words.length) ∧ ∀ x ∈ c.words, x.size ≤ 1000000
def RS.envC (σ : RS) (env : List (ByteArray × ByteArray)) (a : ByteArray) : RS := match env.findIdx? (fun x => decide (x.1 = a)) with
 | none => σ.fail 10
 | some i => σ.add (env.getD i (eB, eB)).2
def RS.needC (σ : RS) (a : ByteArray) : RS := if ((lines σ.buf).any fun x => hasS x a) = true then σ else σ.fail 15
def RS.doC (σ : RS) (env : List (ByteArray × ByteArray)) (c : Cmd) : RS :=
 if c.word 0 = kRead then σ.ask c.arg .rd else if c.word 0 = kTry then σ.ask c.arg .try_ else if c.word 0 = kScan then RS.scan { σ with seen := [] } c.arg (c.word 2)
 else if c.word 0 = kText then σ.add (c.rest ++ nlB) else if c.word 0 = kEnv then σ.envC env c.arg
 else if c.word 0 = kWrite then { σ with kind := 2, path := c.arg, data := σ.buf, why := 0, buf := eB } else if c.word 0 = kNeed then σ.needC c.arg
 else if c.word 0 = kFail then σ.fail 15 else σ.turn (c.word 0) c.arg (lines σ.buf)
theorem idx_none {α : Type} {p : α → Bool} {l : List α} (h : idx p l < 0) : l.findIdx? p = none := by
 unfold idx at h
 cases hf : l.findIdx? p with
 | none => rfl
 | some i => rw [hf] at h; exact absurd h (by show ¬ ((i : Int) < 0); omega)
theorem idx_is {α : Type} {p : α → Bool} {l : List α} {i : Nat} (h : idx p l = (i : Int)) : l.findIdx? p = some i := by
 unfold idx at h
 cases hf : l.findIdx? p with
 | none => rw [hf] at h; exact absurd h (by show ¬ (-1 : Int) = i; omega)
 | some j => rw [hf] at h; exact congrArg some (by have h' : (j : Int) = i := h; omega)
section
variable {σ : RS} {env : List (ByteArray × ByteArray)} {cm : Cmd}
theorem do_read  (hk : cm.word 0 = ⟨#[114, 101, 97, 100]⟩) : σ.doC env cm = σ.ask cm.arg .rd := if_pos hk
theorem do_try (h0 : ¬ cm.word 0 = ⟨#[114, 101, 97, 100]⟩) (hk : cm.word 0 = ⟨#[116, 114, 121]⟩) : σ.doC env cm = σ.ask cm.arg .try_ := (if_neg h0).trans (if_pos hk)
theorem do_scan (h0 : ¬ cm.word 0 = ⟨#[114, 101, 97, 100]⟩) (h1 : ¬ cm.word 0 = ⟨#[116, 114, 121]⟩) (hk : cm.word 0 = ⟨#[115, 99, 97, 110]⟩) : σ.doC env cm = RS.scan { σ with seen := [] } cm.arg (cm.word 2) := (if_neg h0).trans ((if_neg h1).trans (if_pos hk))
theorem do_text (h0 : ¬ cm.word 0 = ⟨#[114, 101, 97, 100]⟩) (h1 : ¬ cm.word 0 = ⟨#[116, 114, 121]⟩) (h2 : ¬ cm.word 0 = ⟨#[115, 99, 97, 110]⟩) (hk : cm.word 0 = ⟨#[116, 101, 120, 116]⟩) : σ.doC env cm = σ.add (cm.rest ++ nlB) := (if_neg h0).trans ((if_neg h1).trans ((if_neg h2).trans (if_pos hk)))
theorem do_env (h0 : ¬ cm.word 0 = ⟨#[114, 101, 97, 100]⟩) (h1 : ¬ cm.word 0 = ⟨#[116, 114, 121]⟩) (h2 : ¬ cm.word 0 = ⟨#[115, 99, 97, 110]⟩) (h3 : ¬ cm.word 0 = ⟨#[116, 101, 120, 116]⟩) (hk : cm.word 0 = ⟨#[101, 110, 118]⟩) : σ.doC env cm = σ.envC env cm.arg := (if_neg h0).trans ((if_neg h1).trans ((if_neg h2).trans ((if_neg h3).trans (if_pos hk))))
theorem do_write (h0 : ¬ cm.word 0 = ⟨#[114, 101, 97, 100]⟩) (h1 : ¬ cm.word 0 = ⟨#[116, 114, 121]⟩) (h2 : ¬ cm.word 0 = ⟨#[115, 99, 97, 110]⟩) (h3 : ¬ cm.word 0 = ⟨#[116, 101, 120, 116]⟩) (h4 : ¬ cm.word 0 = ⟨#[101, 110, 118]⟩) (hk : cm.word 0 = ⟨#[119, 114, 105, 116, 101]⟩) : σ.doC env cm = { σ with kind := 2, path := cm.arg, data := σ.buf, why := 0, buf := eB } := (if_neg h0).trans ((if_neg h1).trans ((if_neg h2).trans ((if_neg h3).trans ((if_neg h4).trans (if_pos hk)))))
theorem do_need (h0 : ¬ cm.word 0 = ⟨#[114, 101, 97, 100]⟩) (h1 : ¬ cm.word 0 = ⟨#[116, 114, 121]⟩) (h2 : ¬ cm.word 0 = ⟨#[115, 99, 97, 110]⟩) (h3 : ¬ cm.word 0 = ⟨#[116, 101, 120, 116]⟩) (h4 : ¬ cm.word 0 = ⟨#[101, 110, 118]⟩) (h5 : ¬ cm.word 0 = ⟨#[119, 114, 105, 116, 101]⟩) (hk : cm.word 0 = ⟨#[110, 101, 101, 100]⟩) : σ.doC env cm = σ.needC cm.arg := (if_neg h0).trans ((if_neg h1).trans ((if_neg h2).trans ((if_neg h3).trans ((if_neg h4).trans ((if_neg h5).trans (if_pos hk))))))
theorem do_fail (h0 : ¬ cm.word 0 = ⟨#[114, 101, 97, 100]⟩) (h1 : ¬ cm.word 0 = ⟨#[116, 114, 121]⟩) (h2 : ¬ cm.word 0 = ⟨#[115, 99, 97, 110]⟩) (h3 : ¬ cm.word 0 = ⟨#[116, 101, 120, 116]⟩) (h4 : ¬ cm.word 0 = ⟨#[101, 110, 118]⟩) (h5 : ¬ cm.word 0 = ⟨#[119, 114, 105, 116, 101]⟩) (h6 : ¬ cm.word 0 = ⟨#[110, 101, 101, 100]⟩) (hk : cm.word 0 = ⟨#[102, 97, 105, 108]⟩) : σ.doC env cm = σ.fail 15 := (if_neg h0).trans ((if_neg h1).trans ((if_neg h2).trans ((if_neg h3).trans ((if_neg h4).trans ((if_neg h5).trans ((if_neg h6).trans (if_pos hk)))))))
theorem do_turn (h0 : ¬ cm.word 0 = ⟨#[114, 101, 97, 100]⟩) (h1 : ¬ cm.word 0 = ⟨#[116, 114, 121]⟩) (h2 : ¬ cm.word 0 = ⟨#[115, 99, 97, 110]⟩) (h3 : ¬ cm.word 0 = ⟨#[116, 101, 120, 116]⟩) (h4 : ¬ cm.word 0 = ⟨#[101, 110, 118]⟩) (h5 : ¬ cm.word 0 = ⟨#[119, 114, 105, 116, 101]⟩) (h6 : ¬ cm.word 0 = ⟨#[110, 101, 101, 100]⟩) (h7 : ¬ cm.word 0 = ⟨#[102, 97, 105, 108]⟩) : σ.doC env cm = σ.turn (cm.word 0) cm.arg (lines σ.buf) := (if_neg h0).trans ((if_neg h1).trans ((if_neg h2).trans ((if_neg h3).trans ((if_neg h4).trans ((if_neg h5).trans ((if_neg h6).trans (if_neg h7)))))))
theorem do_env_none (h0 : ¬ cm.word 0 = ⟨#[114, 101, 97, 100]⟩) (h1 : ¬ cm.word 0 = ⟨#[116, 114, 121]⟩) (h2 : ¬ cm.word 0 = ⟨#[115, 99, 97, 110]⟩) (h3 : ¬ cm.word 0 = ⟨#[116, 101, 120, 116]⟩) (hk : cm.word 0 = ⟨#[101, 110, 118]⟩) (hn : env.findIdx? (fun x => decide (x.1 = cm.arg)) = none) : σ.doC env cm = σ.fail 10 := by rw [do_env h0 h1 h2 h3 hk, RS.envC, hn]
theorem do_env_some (h0 : ¬ cm.word 0 = ⟨#[114, 101, 97, 100]⟩) (h1 : ¬ cm.word 0 = ⟨#[116, 114, 121]⟩) (h2 : ¬ cm.word 0 = ⟨#[115, 99, 97, 110]⟩) (h3 : ¬ cm.word 0 = ⟨#[116, 101, 120, 116]⟩) (hk : cm.word 0 = ⟨#[101, 110, 118]⟩) {i0 : Nat} (hi0 : i0 < env.length) (hidx : idx (fun x => decide (x.1 = cm.arg)) env = (i0 : Int)) : σ.doC env cm = σ.add (env[i0]).2 := by rw [do_env h0 h1 h2 h3 hk, RS.envC, idx_is hidx]; simp [List.getD_eq_getElem?_getD, List.getElem?_eq_getElem hi0]
theorem do_need_no (h0 : ¬ cm.word 0 = ⟨#[114, 101, 97, 100]⟩) (h1 : ¬ cm.word 0 = ⟨#[116, 114, 121]⟩) (h2 : ¬ cm.word 0 = ⟨#[115, 99, 97, 110]⟩) (h3 : ¬ cm.word 0 = ⟨#[116, 101, 120, 116]⟩) (h4 : ¬ cm.word 0 = ⟨#[101, 110, 118]⟩) (h5 : ¬ cm.word 0 = ⟨#[119, 114, 105, 116, 101]⟩) (hk : cm.word 0 = ⟨#[110, 101, 101, 100]⟩) (hn : ((lines σ.buf).any fun x => hasS x cm.arg) = false) : σ.doC env cm = σ.fail 15 := by rw [do_need h0 h1 h2 h3 h4 h5 hk, RS.needC, hn]; rfl
theorem do_need_yes (h0 : ¬ cm.word 0 = ⟨#[114, 101, 97, 100]⟩) (h1 : ¬ cm.word 0 = ⟨#[116, 114, 121]⟩) (h2 : ¬ cm.word 0 = ⟨#[115, 99, 97, 110]⟩) (h3 : ¬ cm.word 0 = ⟨#[116, 101, 120, 116]⟩) (h4 : ¬ cm.word 0 = ⟨#[101, 110, 118]⟩) (h5 : ¬ cm.word 0 = ⟨#[119, 114, 105, 116, 101]⟩) (hk : cm.word 0 = ⟨#[110, 101, 101, 100]⟩) (hn : ((lines σ.buf).any fun x => hasS x cm.arg) = true) : σ.doC env cm = σ := by rw [do_need h0 h1 h2 h3 h4 h5 hk, RS.needC, hn]; rfl
end
theorem word_lt {c : Cmd} {j : Nat} (h : j < c.words.length) : c.words[j] = c.word j := by rw [Cmd.word, List.getElem?_eq_getElem h]; rfl
theorem arg_t {c : Cmd} (h : 1 < c.words.length) : c.word 1 = c.arg := rfl
theorem arg_f {c : Cmd} (h : c.words.length ≤ 1) : (⟨#[]⟩ : ByteArray) = c.arg := by rw [Cmd.arg, Cmd.word, List.getElem?_eq_none (by omega)]; rfl
theorem fzs_addr {α : Type} {w : World} {z : Nat} {enc : α → List Value} {A : Option Addr} {xs : List α} (h : Sl w z enc A xs) {j : Nat} (hj : j < xs.length) : ∃ b o, A = some ⟨b, o, none⟩ := by
 obtain ⟨b, o, he, _⟩ := h.at_ hj
 exact ⟨b, o, he⟩
theorem word_cell {H : Hp} {c : Cmd} {b o : Nat} {w0 w : World} {hs : List Res} (hW : FzS H 1 encS (some ⟨b, o, none⟩) c.words) (S : St w0 w hs) {i : Nat} (hi : nth hs i = some (fz H)) {j : Nat} (hj : j < c.words.length) : w.cell? ⟨b, o + j * 1, none⟩ = some (.string (c.word j)) := by
 obtain ⟨b', o', he, _, hc⟩ := (hW.sl S hi).at_ hj
 cases he
 rw [← word_lt hj]
 exact hc 0 _ rfl
theorem env_cell {H : Hp} {xs : List (ByteArray × ByteArray)} {A : Option Addr} {b o : Nat} {w0 w : World} {hs : List Res} (hE : FzS H 2 encSt A xs) (S : St w0 w hs) {i : Nat} (hi : nth hs i = some (fz H)) (hA : A = some ⟨b, o, none⟩) {j : Nat} (hj : j < xs.length) : w.cell? ⟨b, o + j * 2 + 1, none⟩ = some (.string (xs[j]).2) := by
 obtain ⟨b', o', he, _, hc⟩ := (hE.sl S hi).at_ hj
 rw [hA] at he
 cases he
 exact hc 1 _ rfl
theorem lines_size {s x : ByteArray} (h : x ∈ lines s) : x.size ≤ s.size := by
 unfold lines at h
 split at h
 ·cases h
 ·exact Nat.le_trans (splitB_size nlB _ _ x h) (trimS_size s)
theorem cmds_at {H : Hp} {rb sb sb' : Nat} {T : List Task} {vals : List Value} (h : ∀ x ∈ T, ∃ c, x = Task.cmd c) (hv : All2 (TaskAt H rb sb) T vals) : All2 (TaskAt H rb sb') T vals := hv.mono fun x hx y hy => by
 obtain ⟨c, rfl⟩ := h x hx
 exact hy
theorem bd72_0_1_2 {a : Int} {p d : ByteArray} (w : World) : (Instr.build 72 [(0, .int .i64 a), (1, .string p), (2, .string d)].toArray).run Tryz.prog w = .ok (.agg [.int .i64 a, .string p, .string d, .int .i64 0].toArray) w := by kernel_rfl
def mapOwn : Value → List Nat
 | .map (some b) => [b]
 | _ => []
def mapC (v : Value) (w : World) : Prop := ∃ b, v = .map (some b) ∧ w.heap[b]? = some (.map #[] 0)
theorem mapC_per : ∀ v w1 w2, Below w1.heap.size w1 w2 → mapC v w1 → mapC v w2 := fun v w1 w2 hb ⟨b, h1, h2⟩ => ⟨b, h1, (hb.block b (Array.getElem?_eq_some_iff.1 h2).1).trans h2⟩
theorem mapC_new (w : World) : mapC (.map (some w.heap.size)) (w.alloc (.map #[] 0)) := ⟨_, rfl, by show (w.heap.push _)[w.heap.size]? = _; simp⟩
theorem mapOwn_new (w : World) : ∀ b ∈ mapOwn (.map (some w.heap.size)), w.heap.size ≤ b ∧ b < (w.alloc (.map #[] 0)).heap.size := fun b hb => by
 have : b ∈ [w.heap.size] := hb
 simp only [List.mem_cons, List.not_mem_nil, or_false] at this
 subst this
 show _ ∧ _ < (w.heap.push _).size
 simp
section
variable {P : Program} {w w1 w0 : World} {n m : Nat} {l l0 : List (Nat × Value)} {o : Oper} {l' : List Oper} {L : List HS} {a : Act} {hs : List Res}
theorem y_mm {t : Nat} (ho : o.op = .makeMap t none) : Yl P o l w (.map (some w.heap.size)) (w.alloc (.map #[] 0)) := fun n a F => by simp [execOp, ho, run_makeMap_plain]
theorem EX.mapE {ds : List Nat} (J : PJ P w n l0 l' m (fun i => (L.getD i hs0).h) (Array.replicate m true ++ Array.replicate (l'.length - m) false) a w1) (hw : w0.heap.size ≤ w.heap.size) (E : EX w0 w w1 l' (fun i => (L.getD i hs0).h) a ds hs) (i : Nat) (hi : Nat.blt i m = true) (hds : (ds.all fun j => !Nat.beq j i && Nat.blt j m) = true) {b d : Nat}
  (hd : dsl l' i = d) (hb : w1.heap[b]? = some (.map #[] 0)) (ho : (L.getD i hs0).own (a.tmps.getD d undef) = [b]) : EX w0 w w1 l' (fun i => (L.getD i hs0).h) a (i :: ds) (hs ++ [mpe b []]) :=
 EX.add J hw E i (by simpa [Nat.blt_eq] using hi) hds (mpe b []) ⟨#[], 0, hb, ⟨rfl, List.nodup_nil⟩, bornNil⟩ fun k hk => by
  have : k = b := hk
  subst this
  rw [hd]
  show k ∈ (L.getD i hs0).own _
  rw [ho]; simp
end
theorem fi109_0 : FieldIs Tryz.prog 109 0 0 := fieldIs (z := 0) Tryz.underlying109 rfl rfl rfl Tryz.sizeOf9
theorem fi109_1 : FieldIs Tryz.prog 109 1 1 := fieldIs (z := 0) Tryz.underlying109 rfl rfl rfl Tryz.sizeOf9
theorem fi137_1 : FieldIs Tryz.prog 137 1 1 := fieldIs (z := 0) Tryz.underlying137 rfl rfl rfl Tryz.sizeOf24
theorem fi142_0 : FieldIs Tryz.prog 142 0 0 := fieldIs (z := 0) Tryz.underlying142 rfl rfl rfl Tryz.sizeOf25
theorem fi142_1 : FieldIs Tryz.prog 142 1 1 := fieldIs (z := 0) Tryz.underlying142 rfl rfl rfl Tryz.sizeOf9
theorem c_IndexFuncSt {A : Option Addr} {c : Nat} {xs : List (ByteArray × ByteArray)} (w0 : World) (p : ByteArray × ByteArray → Bool) (g : Nat) (cap : List Value) (he : ∀ (args : Array Value) (w : World), (callFunc g args).run Tryz.prog w = .ok (.enter g args) w)
  (hp : ∀ x ∈ xs, ∀ (W : World), Below w0.heap.size w0 W → Calls Tryz.prog g ([Value.agg (encSt x).toArray] ++ cap).toArray W (Ret fun v w' => v = .bool (p x) ∧ Below W.heap.size W w')) (hA : Sl w0 2 encSt A xs) (hn : xs.length ≤ 140737488351232) :
  Calls Tryz.prog 121 [.slice A xs.length c, .func (.func g) #[] cap.toArray].toArray w0 (Ret fun v w' => v = .int .i64 (idx p xs) ∧ Below w0.heap.size w0 w') := by
 refine ent Tryz.func121 Tryz.ntmps121 rfl rfl ?_
 intro a F
 have S := St.refl w0
 refine sq fun K1 hK1 => ?_
 refine rg ?_
 refine dv F (y_as rfl rfl) rfl rfl rfl fun a F => ?_
 refine dn ?_
 refine tn <| hK1 _ _ ?_
 refine sq fun K2 hK2 => ?_
 refine sq fun K3 hK3 => ?_
 refine rg ?_
 refine dv F (y_mv rfl rfl) rfl rfl rfl fun a F => ?_
 refine dv F (y_ln rfl rfl Tryz.underlying24) rfl rfl rfl fun a F => ?_
 refine dv F (y_mv rfl rfl) rfl rfl rfl fun a F => ?_
 refine dn ?_
 refine tn <| hK3 _ _ ?_
 refine bl ?_
 refine lp (fun m a w => ∃ i : Nat, m = xs.length - i ∧ (i ≤ xs.length) ∧ (∀ (j : Nat) (hj : j < xs.length), j < i → p xs[j] = false) ∧ Fr 19 a [(0, .slice A xs.length c), (1, .func (.func g) #[] cap.toArray), (7, .int .i64 (xs.length : Int)), (8, .int .i64 (i : Int))] ∧ St w0 w []) (xs.length) ?_ ?_
 ·exact ⟨0, rfl, Nat.zero_le _, fun j _ h => absurd h (Nat.not_lt_zero j), F.sub _ ⟨rfl, rfl, rfl, rfl, trivial⟩, S.pick [] _ trivial rfl⟩
 ·rintro m a w ⟨i, hm, hi, hno, F, S⟩
  refine sq fun K4 hK4 => ?_
  refine rg ?_
  refine dv F (y_lt rfl rfl rfl) rfl rfl rfl fun a F => ?_
  refine dn ?_
  refine tn <| hK4 _ _ ?_
  refine sq fun K5 hK5 => ?_
  refine cd F rfl (fun h1 => ?_) (fun h1 => ?_)
  ·refine wp_skip ?_
   refine tn <| hK5 _ _ ?_
   refine sq fun K6 hK6 => ?_
   refine bl ?_
   refine sq fun K7 hK7 => ?_
   refine rg ?_
   refine dv F (y_mv rfl rfl) rfl rfl rfl fun a F => ?_
   refine dv F (y_as rfl rfl) rfl rfl rfl fun a F => ?_
   refine dn ?_
   refine tn <| hK7 _ _ ?_
   refine sq fun K8 hK8 => ?_
   refine rg ?_
   refine dv F (y_mv rfl rfl) rfl rfl rfl fun a F => ?_
   refine dv F (y_mv rfl rfl) rfl rfl rfl fun a F => ?_
   refine dv F (y_mv rfl rfl) rfl rfl rfl fun a F => ?_
   have hlt : i < xs.length := by omega
   obtain ⟨ab, ao, rfl, hab, hcell⟩ := (hA.st S).at_ hlt
   refine dv F (y_ia rfl rfl rfl rfl Tryz.underlying24 Tryz.sizeOf109 i rfl hlt) rfl rfl rfl fun a F => ?_
   refine dv F (y_ld rfl rfl (lda Tryz.isAgg109 Tryz.sizeOf109 (lenSt _) hcell)) rfl rfl rfl fun a F => ?_
   refine dc F (c_f rfl rfl rfl he) rfl rfl rfl (hp _ (List.getElem_mem hlt) _ S.bel) fun a v w' hr F => ?_
   obtain ⟨rfl, hb⟩ := hr
   replace S := S.call hb
   refine dn ?_
   refine tn <| hK8 _ _ ?_
   refine cb F rfl (fun h2 => ?_) (fun h2 => ?_)
   ·refine sq fun K9 hK9 => ?_
    refine rg ?_
    refine dv F (y_mv rfl rfl) rfl rfl rfl fun a F => ?_
    refine dv F (y_as rfl rfl) rfl rfl rfl fun a F => ?_
    refine dn ?_
    refine tn <| hK9 _ _ ?_
    refine wp_ret ?_
    refine br <| tr <| lr <| br <| tr <| ?_
    exact rt1 F rfl rfl ⟨by rw [idx_hit p xs i hlt h2 hno], S.bel⟩
   ·refine wp_skip ?_
    refine bn <| tn <| hK6 _ _ ?_
    refine rg ?_
    refine dv F (y_add rfl rfl rfl (by omega)) rfl rfl rfl fun a F => ?_
    refine dv F (y_mv rfl rfl) rfl rfl rfl fun a F => ?_
    refine dn ?_
    exact ln (by omega) ⟨i + 1, rfl, by omega, allto hno hlt h2, F.sub _ ⟨rfl, rfl, rfl, rfl, trivial⟩, S.pick [] _ trivial rfl⟩
  ·refine wp_exit ?_
   refine tx <| lx <| bh <| tn <| hK2 _ _ ?_
   refine sq fun K10 hK10 => ?_
   refine rg ?_
   refine dv F (y_as rfl rfl) rfl rfl rfl fun a F => ?_
   refine dn ?_
   refine tn <| hK10 _ _ ?_
   refine wp_ret ?_
   refine ?_
   exact rt1 F rfl rfl ⟨by rw [idx_miss p xs fun j hj => hno j hj (by omega)], S.bel⟩
theorem c_envIs (x : ByteArray × ByteArray) (ar : ByteArray) {bx : Nat} (w0 : World) (hbx : w0.cell? ⟨bx, 0, none⟩ = some (.string ar)) : Calls Tryz.prog 122 [.agg (encSt x).toArray, pt bx].toArray w0 (Ret fun v w' => v = .bool (decide (x.1 = ar)) ∧ Below w0.heap.size w0 w') := by
 refine ent Tryz.func122 Tryz.ntmps122 rfl rfl ?_
 intro a F
 have S := St.refl w0
 refine sq fun K1 hK1 => ?_
 refine rg ?_
 refine dbx F S rfl rfl rfl rfl rfl rfl fun a w b2 F S => ?_
 refine dv F (y_as rfl rfl) rfl rfl rfl fun a F => ?_
 refine dn ?_
 refine tn <| hK1 _ _ ?_
 refine sq fun K2 hK2 => ?_
 refine rg ?_
 refine dv F (y_fa rfl rfl fi109_0) rfl rfl rfl fun a F => ?_
 refine dv F (y_ld rfl rfl (S.ld (i := 0) rfl rfl Tryz.isAgg9)) rfl rfl rfl fun a F => ?_
 refine dv F (y_ld rfl rfl (ld1 Tryz.isAgg9 ((S.bel.cell (p := ⟨bx, 0, none⟩) (by have := cell_lt hbx; exact this)).trans hbx))) rfl rfl rfl fun a F => ?_
 refine dv F (y_se rfl rfl rfl) rfl rfl rfl fun a F => ?_
 refine dv F (y_as rfl rfl) rfl rfl rfl fun a F => ?_
 refine dn ?_
 refine tn <| hK2 _ _ ?_
 refine wp_ret ?_
 refine ?_
 exact rt1 F rfl rfl ⟨rfl, S.bel⟩
theorem c_do (cm : Cmd) {A0 : Option Addr} {wc : Nat} {C : RC} {sb : Nat} {sr : Res} {H0 : Hp} {σ : RS} {mr : Res} {w0 W : World} (G : Gl w0) (hW : FzS H0 1 encS A0 cm.words) (hok : CmdOk cm) (hcmd : ∀ x ∈ σ.todo, ∃ c, x = Task.cmd c) (hb : σ.buf.size ≤ 65536) (hen : C.env.length ≤ 1000000) (hez : ∀ x ∈ C.env, x.2.size ≤ 1000000000) (hk : ∀ k ∈ σ.known, k.is = true → k.data.size ≤ 65536) (hT : σ.todo.length ≤ 900000000000) (hR : Rep C sb sr H0 σ mr w0 W) : Calls Tryz.prog 72 [.pointer (some ⟨C.rb, 0, none⟩), .agg [Value.slice A0 cm.words.length wc, .string cm.rest].toArray].toArray W (Ret fun v w' => (¬ cm.word 0 = kScan ∧ Rep C sb sr H0 (σ.doC C.env cm) mr w0 w') ∨ (cm.word 0 = kScan ∧ ∃ sb', Rep C sb' (mpe sb' (smap (σ.doC C.env cm).seen)) H0 (σ.doC C.env cm) mr w0 w')) := by
 obtain ⟨A, c, vals, H, hle, hE, hv, S⟩ := hR
 obtain ⟨wb, wo, hA0⟩ := fzs_addr ((hW.le hle).sl S (i := 3) rfl) hok.1.1
 subst hA0
 replace hW := hW.le hle
 have hw1 := hok.1.1
 refine ent Tryz.func72 Tryz.ntmps72 rfl rfl ?_
 intro a F
 refine sq fun K1 hK1 => ?_
 refine rg ?_
 refine dbx F S rfl rfl rfl rfl rfl rfl fun a w b2 F S => ?_
 refine dbx F S rfl rfl rfl rfl rfl rfl fun a w b3 F S => ?_
 refine dn ?_
 refine tn <| hK1 _ _ ?_
 refine sq fun K2 hK2 => ?_
 refine rg ?_
 refine dal F S rfl Tryz.zeroValue9 rfl rfl rfl rfl fun a w b4 F S => ?_
 refine dsw F S rfl rfl rfl Tryz.sizeOf9 (i := 8) rfl rfl rfl rfl one1 rfl rfl fun a w F S => ?_
 refine dn ?_
 refine tn <| hK2 _ _ ?_
 refine sq fun K3 hK3 => ?_
 refine sq fun K4 hK4 => ?_
 refine rg ?_
 refine dv F (y_fa rfl rfl fi142_0) rfl rfl rfl fun a F => ?_
 refine dv F (y_ld rfl rfl (S.ld (i := 7) rfl rfl Tryz.isAgg25)) rfl rfl rfl fun a F => ?_
 refine dv F (y_ln rfl rfl Tryz.underlying25) rfl rfl rfl fun a F => ?_
 refine dv F (y_gt rfl rfl rfl) rfl rfl rfl fun a F => ?_
 refine dn ?_
 refine tn <| hK4 _ _ ?_
 have hgo1 : ∀ (a : Act) (w : World), Fr 112 a [(0, pt C.rb), (2, pt b2), (3, pt b3), (4, pt b4)] → St w0 w [bk C.rb 137 (rcells C A vals.length c σ), ow 1 1 (.slice A vals.length c) vals.length vals, mpe C.kb (kmap σ.known), fz H, sr, mr, bk b2 67 [pt C.rb], bk b3 142 [.slice (some ⟨wb, wo, none⟩) cm.words.length wc, .string cm.rest], bk b4 9 [.string cm.arg]] → K3 a w := by
  intro  a w F S
  refine hK3 _ _ ?_
  refine sq fun K5 hK5 => ?_
  refine rg ?_
  refine dv F (y_ld rfl rfl (S.ld (i := 6) rfl rfl Tryz.isAgg67)) rfl rfl rfl fun a F => ?_
  refine dv F (y_nc rfl rfl) rfl rfl rfl fun a F => ?_
  refine dv F (y_fa rfl rfl fi137_2) rfl rfl rfl fun a F => ?_
  refine dv F (y_ld rfl rfl (S.ld (i := 0) rfl rfl Tryz.isAgg9)) rfl rfl rfl fun a F => ?_
  refine dc F (c_f rfl rfl rfl Tryz.call113) rfl rfl rfl (c_lines σ.buf _ (G.st S) (by omega)) fun a v w' hr F => ?_
  obtain ⟨⟨AL, cL, rfl, hO, hlo⟩, hbl⟩ := hr
  replace S := S.addOw hbl rfl hO hlo
  refine dv F (y_as rfl rfl) rfl rfl rfl fun a F => ?_
  refine dn ?_
  refine tn <| hK5 _ _ ?_
  refine sq fun K6 hK6 => ?_
  refine rg ?_
  refine dv F (y_fa rfl rfl fi142_0) rfl rfl rfl fun a F => ?_
  refine dv F (y_ld rfl rfl (S.ld (i := 7) rfl rfl Tryz.isAgg25)) rfl rfl rfl fun a F => ?_
  refine dv F (y_ia rfl rfl rfl rfl Tryz.underlying25 Tryz.sizeOf9 0 rfl (by omega)) rfl rfl rfl fun a F => ?_
  refine dv F (y_ld rfl rfl (ld1 Tryz.isAgg9 (word_cell hW S (i := 3) rfl (j := 0) (by omega)))) rfl rfl rfl fun a F => ?_
  refine dn ?_
  refine tn <| hK6 _ _ ?_
  refine bl ?_
  refine sq fun K7 hK7 => ?_
  refine rg ?_
  refine dv F (y_se rfl rfl rfl) rfl rfl rfl fun a F => ?_
  refine dv F (y_as rfl rfl) rfl rfl rfl fun a F => ?_
  refine dn ?_
  refine tn <| hK7 _ _ ?_
  refine cb F rfl (fun h1 => ?_) (fun h1 => ?_)
  ·have g1 := h1
   try simp only [zi1, zi2, zi3, zi4, zi5, zi6, zi7, zi8] at g1
   refine rp [.p, .p, .p, .p, .p, .c capOwn (thCC C.rb (Value.func (.func 118) [pt C.rb].toArray #[])) thCC_per] 6 [[], [], [], [], [3], [2, 3, 4]] [(0, _), (2, _), (3, _), (4, _), (5, _), (15, _), (16, _), (17, _), (18, _), (19, _), (20, _), (21, _), (22, _), (23, _), (32, _), (33, _)] F ⟨rfl, rfl, rfl, rfl, rfl, rfl, rfl, rfl, rfl, rfl, rfl, rfl, rfl, rfl, rfl, rfl, trivial⟩ Tryz.mixed (by kernel_rfl) rfl (.inr ⟨by decide, by kernel_rfl, by kernel_rfl⟩) (by kernel_rfl) ⟨?_, ?_, ?_, ?_, ?_, ?_, trivial⟩ fun a w1 J => ?_
   ·intro a w1 hB F hA
    have S0 := S
    replace S := S.call hB
    exact pv F (fun w2 hB2 => have S := S.call hB2; y_ld rfl rfl (S.ld (i := 6) rfl rfl Tryz.isAgg67)) rfl rfl rfl (by decide)
   ·intro a w1 hB F hA
    have S0 := S
    replace S := S.call hB
    exact pv F (fun w2 hB2 => have S := S.call hB2; y_ld rfl rfl (S.ld (i := 8) rfl rfl Tryz.isAgg9)) rfl rfl rfl (by decide)
   ·intro a w1 hB F hA
    have S0 := S
    replace S := S.call hB
    exact pv F (fun w2 hB2 => have S := S.call hB2; y_ld rfl rfl (S.ld (i := 6) rfl rfl Tryz.isAgg67)) rfl rfl rfl (by decide)
   ·intro a w1 hB F hA
    have S0 := S
    replace S := S.call hB
    exact pv F (fun w2 hB2 => have S := S.call hB2; y_ld rfl rfl (S.ld (i := 6) rfl rfl Tryz.isAgg67)) rfl rfl rfl (by decide)
   ·intro a w1 hB F hA
    have S0 := S
    replace S := S.call hB
    replace F := F.eP (hA 3 (by decide)) rfl (d := 37) rfl rfl (y_ld rfl rfl (S.ld (i := 6) rfl rfl Tryz.isAgg67))
    exact pv F (fun w2 hB2 => have S := S.call hB2; y_mfb rfl rfl rfl) rfl rfl rfl (by decide)
   ·intro a w1 hB F hA
    have S0 := S
    replace S := S.call hB
    replace F := F.eP (hA 2 (by decide)) rfl (d := 36) rfl rfl (y_ld rfl rfl (S.ld (i := 6) rfl rfl Tryz.isAgg67))
    replace F := F.eP (hA 3 (by decide)) rfl (d := 37) rfl rfl (y_ld rfl rfl (S.ld (i := 6) rfl rfl Tryz.isAgg67))
    replace F := F.eP (hA 4 (by decide)) rfl (d := 38) rfl rfl (y_mfb rfl rfl rfl)
    exact pc F (c_f rfl rfl rfl Tryz.call117) rfl rfl (c_there _ _ _ _ _) thCC_w
   have F := J.fr
   have E := EX.start J S
   have hle' := S.bel.size
   replace S := S.call J.bel
   replace F := F.eP (J.at 0 rfl) rfl (d := 34) rfl rfl (y_ld rfl rfl (S.ld (i := 6) rfl rfl Tryz.isAgg67))
   replace F := F.eP (J.at 1 rfl) rfl (d := 35) rfl rfl (y_ld rfl rfl (S.ld (i := 8) rfl rfl Tryz.isAgg9))
   replace F := F.eP (J.at 2 rfl) rfl (d := 36) rfl rfl (y_ld rfl rfl (S.ld (i := 6) rfl rfl Tryz.isAgg67))
   replace F := F.eP (J.at 3 rfl) rfl (d := 37) rfl rfl (y_ld rfl rfl (S.ld (i := 6) rfl rfl Tryz.isAgg67))
   replace F := F.eP (J.at 4 rfl) rfl (d := 38) rfl rfl (y_mfb rfl rfl rfl)
   obtain ⟨v39, F, hv39, ho39⟩ := F.eC (P := Tryz.prog) (hC := thCC_per) (J.at 5 rfl) rfl (d := 39) rfl rfl
   obtain ⟨c1, c2, rfl, hne, hc1, hc2⟩ := hv39
   have E := EX.two J hle' E 5 rfl rfl (d := 39) rfl hc1 hc2 ho39
   replace S := E.st
   clear E J
   replace S := S.unpS (ys := [bk c1 67 _, bk c2 160 _]) (xs := [_, _, _, _, _, _, _, _, _, _]) (sep2 hne)
   obtain ⟨H1, hl1, hf1, S⟩ := S.frz (i := 3) (j := 10) rfl rfl (by decide)
   obtain ⟨H2, hl2, hf2, S⟩ := S.frz (i := 3) (j := 11) rfl rfl (by decide)
   have hKK := Hp.le_trans hl1 hl2
   refine dc F (c_f rfl rfl rfl Tryz.call116) rfl rfl rfl (c_ask (H0 := H2) cm.arg .rd G ⟨c1, c2, rfl, hl2 _ _ hf1, hf2⟩ (by omega) hk hT (Rep.mk' (Hp.le_refl _) (hE.le hKK) (hv.mono fun _ _ _ h => h.le hKK) (S.pick [0, 1, 2, 3, 4, 5] _ ⟨rfl, rfl, rfl, rfl, rfl, rfl, trivial⟩ rfl))) fun a v w' hr F => ?_
   have hR := hr
   replace hR := hR.le (Hp.le_trans hle hKK)
   refine dn ?_
   refine bn <| ?_
   exact rn0 F rfl (.inl ⟨(by rw [g1]; decide), (by rw [do_read g1]; exact hR)⟩)
  ·have g1 := h1
   try simp only [zi1, zi2, zi3, zi4, zi5, zi6, zi7, zi8] at g1
   refine sq fun K8 hK8 => ?_
   refine rg ?_
   refine dv F (y_se rfl rfl rfl) rfl rfl rfl fun a F => ?_
   refine dv F (y_as rfl rfl) rfl rfl rfl fun a F => ?_
   refine dn ?_
   refine tn <| hK8 _ _ ?_
   refine cb F rfl (fun h2 => ?_) (fun h2 => ?_)
   ·have g2 := h2
    try simp only [zi1, zi2, zi3, zi4, zi5, zi6, zi7, zi8] at g2
    refine rg ?_
    refine dv F (y_ld rfl rfl (S.ld (i := 6) rfl rfl Tryz.isAgg67)) rfl rfl rfl fun a F => ?_
    refine dv F (y_ld rfl rfl (S.ld (i := 8) rfl rfl Tryz.isAgg9)) rfl rfl rfl fun a F => ?_
    refine dv F (y_mf rfl rfl) rfl rfl rfl fun a F => ?_
    obtain ⟨H1, hl1, hf1, S⟩ := S.frz (i := 3) (j := 6) rfl rfl (by decide)
    refine dc F (c_f rfl rfl rfl Tryz.call116) rfl rfl rfl (c_ask (H0 := H1) cm.arg .try_ (cap := [pt b2]) G ⟨b2, rfl, hf1⟩ (by omega) hk hT (Rep.mk' (Hp.le_refl _) (hE.le hl1) (hv.mono fun _ _ _ h => h.le hl1) (S.pick [0, 1, 2, 3, 4, 5] _ ⟨rfl, rfl, rfl, rfl, rfl, rfl, trivial⟩ rfl))) fun a v w' hr F => ?_
    have hR := hr
    replace hR := hR.le (Hp.le_trans hle hl1)
    refine dn ?_
    refine bn <| ?_
    exact rn0 F rfl (.inl ⟨(by rw [g2]; decide), (by rw [do_try g1 g2]; exact hR)⟩)
   ·have g2 := h2
    try simp only [zi1, zi2, zi3, zi4, zi5, zi6, zi7, zi8] at g2
    refine sq fun K9 hK9 => ?_
    refine rg ?_
    refine dv F (y_se rfl rfl rfl) rfl rfl rfl fun a F => ?_
    refine dv F (y_as rfl rfl) rfl rfl rfl fun a F => ?_
    refine dn ?_
    refine tn <| hK9 _ _ ?_
    refine cb F rfl (fun h3 => ?_) (fun h3 => ?_)
    ·have g3 := h3
     try simp only [zi1, zi2, zi3, zi4, zi5, zi6, zi7, zi8] at g3
     refine rp [.p, .p, .p, .p, .p, .p, .c mapOwn mapC mapC_per] 7 [[], [], [], [2], [2, 3], [2, 3, 4], []] [(0, _), (2, _), (3, _), (4, _), (5, _), (15, _), (16, _), (17, _), (18, _), (19, _), (20, _), (21, _), (22, _), (23, _), (32, _), (33, _), (41, _), (42, _), (47, _), (48, _)] F ⟨rfl, rfl, rfl, rfl, rfl, rfl, rfl, rfl, rfl, rfl, rfl, rfl, rfl, rfl, rfl, rfl, rfl, rfl, rfl, rfl, trivial⟩ Tryz.mixed (by kernel_rfl) rfl (.inr ⟨by decide, by kernel_rfl, by kernel_rfl⟩) (by kernel_rfl) ⟨?_, ?_, ?_, ?_, ?_, ?_, ?_, trivial⟩ fun a w1 J => ?_
     ·intro a w1 hB F hA
      have S0 := S
      replace S := S.call hB
      exact pv F (fun w2 hB2 => have S := S.call hB2; y_ld rfl rfl (S.ld (i := 6) rfl rfl Tryz.isAgg67)) rfl rfl rfl (by decide)
     ·intro a w1 hB F hA
      have S0 := S
      replace S := S.call hB
      exact pv F (fun w2 hB2 => have S := S.call hB2; y_ld rfl rfl (S.ld (i := 8) rfl rfl Tryz.isAgg9)) rfl rfl rfl (by decide)
     ·intro a w1 hB F hA
      have S0 := S
      replace S := S.call hB
      exact pv F (fun w2 hB2 => have S := S.call hB2; y_fa rfl rfl fi142_0) rfl rfl rfl (by decide)
     ·intro a w1 hB F hA
      have S0 := S
      replace S := S.call hB
      replace F := F.eP (hA 2 (by decide)) rfl (d := 51) rfl rfl (y_fa rfl rfl fi142_0)
      exact pv F (fun w2 hB2 => have S := S.call hB2; y_ld rfl rfl (S.ld (i := 7) rfl rfl Tryz.isAgg25)) rfl rfl rfl (by decide)
     ·intro a w1 hB F hA
      have S0 := S
      replace S := S.call hB
      replace F := F.eP (hA 2 (by decide)) rfl (d := 51) rfl rfl (y_fa rfl rfl fi142_0)
      replace F := F.eP (hA 3 (by decide)) rfl (d := 52) rfl rfl (y_ld rfl rfl (S.ld (i := 7) rfl rfl Tryz.isAgg25))
      exact pv F (fun w2 hB2 => have S := S.call hB2; y_ia rfl rfl rfl rfl Tryz.underlying25 Tryz.sizeOf9 2 rfl (by have := hok.2.1 g3; omega)) rfl rfl rfl (by decide)
     ·intro a w1 hB F hA
      have S0 := S
      replace S := S.call hB
      replace F := F.eP (hA 2 (by decide)) rfl (d := 51) rfl rfl (y_fa rfl rfl fi142_0)
      replace F := F.eP (hA 3 (by decide)) rfl (d := 52) rfl rfl (y_ld rfl rfl (S.ld (i := 7) rfl rfl Tryz.isAgg25))
      replace F := F.eP (hA 4 (by decide)) rfl (d := 53) rfl rfl (y_ia rfl rfl rfl rfl Tryz.underlying25 Tryz.sizeOf9 2 rfl (by have := hok.2.1 g3; omega))
      exact pv F (fun w2 hB2 => have S := S.call hB2; y_ld rfl rfl (ld1 Tryz.isAgg9 (word_cell hW S (i := 3) rfl (j := 2) (by have := hok.2.1 g3; omega)))) rfl rfl rfl (by decide)
     ·intro a w1 hB F hA
      have S0 := S
      replace S := S.call hB
      exact pe F (y_mm rfl) rfl rfl ((Below.refl _ _).alloc (Nat.le_refl _) _) (mapC_new _) (mapOwn_new _)
     have F := J.fr
     have E := EX.start J S
     have hle' := S.bel.size
     replace S := S.call J.bel
     replace F := F.eP (J.at 0 rfl) rfl (d := 49) rfl rfl (y_ld rfl rfl (S.ld (i := 6) rfl rfl Tryz.isAgg67))
     replace F := F.eP (J.at 1 rfl) rfl (d := 50) rfl rfl (y_ld rfl rfl (S.ld (i := 8) rfl rfl Tryz.isAgg9))
     replace F := F.eP (J.at 2 rfl) rfl (d := 51) rfl rfl (y_fa rfl rfl fi142_0)
     replace F := F.eP (J.at 3 rfl) rfl (d := 52) rfl rfl (y_ld rfl rfl (S.ld (i := 7) rfl rfl Tryz.isAgg25))
     replace F := F.eP (J.at 4 rfl) rfl (d := 53) rfl rfl (y_ia rfl rfl rfl rfl Tryz.underlying25 Tryz.sizeOf9 2 rfl (by have := hok.2.1 g3; omega))
     replace F := F.eP (J.at 5 rfl) rfl (d := 54) rfl rfl (y_ld rfl rfl (ld1 Tryz.isAgg9 (word_cell hW S (i := 3) rfl (j := 2) (by have := hok.2.1 g3; omega))))
     obtain ⟨v55, F, hv55, ho55⟩ := F.eC (P := Tryz.prog) (hC := mapC_per) (J.at 6 rfl) rfl (d := 55) rfl rfl
     obtain ⟨mb, rfl, hmb⟩ := hv55
     have E := EX.mapE J hle' E 6 rfl rfl (d := 55) rfl hmb ho55
     replace S := E.st
     clear E J
     refine dc F (c_f rfl rfl rfl Tryz.call120) rfl rfl rfl (c_scan (σ := { σ with seen := [] }) cm.arg (cm.word 2) (sb := mb) G rfl (show σ.buf.size ≤ 100000 by omega) hk hT (Rep.mk' hle hE (cmds_at hcmd hv) (S.pick [0, 1, 2, 3, 10, 5] _ ⟨rfl, rfl, rfl, rfl, rfl, rfl, trivial⟩ rfl))) fun a v w' hr F => ?_
     have hR := hr
     replace hR : ∃ sb', Rep C sb' (mpe sb' (smap (σ.doC C.env cm).seen)) H0 (σ.doC C.env cm) mr w0 _ := ⟨mb, by rw [do_scan g1 g2 g3]; exact hR⟩
     refine dn ?_
     refine bn <| ?_
     exact rn0 F rfl (.inr ⟨g3, hR⟩)
    ·have g3 := h3
     try simp only [zi1, zi2, zi3, zi4, zi5, zi6, zi7, zi8] at g3
     refine sq fun K10 hK10 => ?_
     refine rg ?_
     refine dv F (y_se rfl rfl rfl) rfl rfl rfl fun a F => ?_
     refine dv F (y_as rfl rfl) rfl rfl rfl fun a F => ?_
     refine dn ?_
     refine tn <| hK10 _ _ ?_
     refine cb F rfl (fun h4 => ?_) (fun h4 => ?_)
     ·have g4 := h4
      try simp only [zi1, zi2, zi3, zi4, zi5, zi6, zi7, zi8] at g4
      refine rg ?_
      refine dv F (y_ld rfl rfl (S.ld (i := 6) rfl rfl Tryz.isAgg67)) rfl rfl rfl fun a F => ?_
      refine dv F (y_fa rfl rfl fi142_1) rfl rfl rfl fun a F => ?_
      refine dv F (y_ld rfl rfl (S.ld (i := 7) rfl rfl Tryz.isAgg9)) rfl rfl rfl fun a F => ?_
      refine dv F (y_sad rfl rfl rfl (by have := hok.1.2; show cm.rest.size + 1 ≤ _; omega)) rfl rfl rfl fun a F => ?_
      refine dc F (c_f rfl rfl rfl Tryz.call118) rfl rfl rfl (c_add (cm.rest ++ nlB) (by omega) (by have := hok.1.2; rw [ByteArray.size_append]; show cm.rest.size + 1 ≤ _; omega) (Rep.mk' hle hE hv (S.pick [0, 1, 2, 3, 4, 5] _ ⟨rfl, rfl, rfl, rfl, rfl, rfl, trivial⟩ rfl))) fun a v w' hr F => ?_
      have hR := hr
      refine dn ?_
      refine bn <| ?_
      exact rn0 F rfl (.inl ⟨g3, (by rw [do_text g1 g2 g3 g4]; exact hR)⟩)
     ·have g4 := h4
      try simp only [zi1, zi2, zi3, zi4, zi5, zi6, zi7, zi8] at g4
      refine sq fun K11 hK11 => ?_
      refine rg ?_
      refine dv F (y_se rfl rfl rfl) rfl rfl rfl fun a F => ?_
      refine dv F (y_as rfl rfl) rfl rfl rfl fun a F => ?_
      refine dn ?_
      refine tn <| hK11 _ _ ?_
      refine cb F rfl (fun h5 => ?_) (fun h5 => ?_)
      ·have g5 := h5
       try simp only [zi1, zi2, zi3, zi4, zi5, zi6, zi7, zi8] at g5
       refine sq fun K12 hK12 => ?_
       refine rg ?_
       refine dv F (y_ld rfl rfl (S.ld (i := 6) rfl rfl Tryz.isAgg67)) rfl rfl rfl fun a F => ?_
       refine dv F (y_nc rfl rfl) rfl rfl rfl fun a F => ?_
       refine dv F (y_fa rfl rfl fi137_1) rfl rfl rfl fun a F => ?_
       refine dv F (y_ld rfl rfl (S.ld (i := 0) rfl rfl Tryz.isAgg24)) rfl rfl rfl fun a F => ?_
       refine dv F (y_mf rfl rfl) rfl rfl rfl fun a F => ?_
       refine dc F (c_f rfl rfl rfl Tryz.call121) rfl rfl rfl (c_IndexFuncSt _ (fun x => decide (x.1 = cm.arg)) 122 [pt b4] Tryz.call122 (fun x hx W hb => c_envIs x cm.arg W ((S.call hb).cell (i := 8) rfl rfl)) (hE.sl S (i := 3) rfl) (by omega)) fun a v w' hr F => ?_
       obtain ⟨rfl, hb⟩ := hr
       replace S := S.call hb
       refine dv F (y_as rfl rfl) rfl rfl rfl fun a F => ?_
       refine dn ?_
       refine tn <| hK12 _ _ ?_
       refine sq fun K13 hK13 => ?_
       refine sq fun K14 hK14 => ?_
       refine rg ?_
       refine dv F (y_mv rfl rfl) rfl rfl rfl fun a F => ?_
       refine dv F (y_lt rfl rfl rfl) rfl rfl rfl fun a F => ?_
       refine dn ?_
       refine tn <| hK14 _ _ ?_
       refine cb F rfl (fun h6 => ?_) (fun h6 => ?_)
       ·have g6 := h6
        try simp only [zi1, zi2, zi3, zi4, zi5, zi6, zi7, zi8] at g6
        refine sq fun K15 hK15 => ?_
        refine rg ?_
        refine dv F (y_ld rfl rfl (S.ld (i := 6) rfl rfl Tryz.isAgg67)) rfl rfl rfl fun a F => ?_
        refine dc F (c_f rfl rfl rfl Tryz.call123) rfl rfl rfl (c_fail 10 (Rep.mk' hle hE hv (S.pick [0, 1, 2, 3, 4, 5] _ ⟨rfl, rfl, rfl, rfl, rfl, rfl, trivial⟩ rfl))) fun a v w' hr F => ?_
        have hR := hr
        refine dn ?_
        refine tn <| hK15 _ _ ?_
        refine wp_ret ?_
        refine tr <| br <| ?_
        exact rt0 F rfl (.inl ⟨g3, (by rw [do_env_none g1 g2 g3 g4 g5 (idx_none (by omega))]; exact hR)⟩)
       ·have g6 := h6
        try simp only [zi1, zi2, zi3, zi4, zi5, zi6, zi7, zi8] at g6
        refine wp_skip ?_
        refine tn <| hK13 _ _ ?_
        obtain ⟨i0, hi0, hidx, hp0, -⟩ := (idx_cases (fun x : ByteArray × ByteArray => decide (x.1 = cm.arg)) C.env).resolve_left (fun h => by omega)
        obtain ⟨eb, eo, heA⟩ := fzs_addr (hE.sl S (i := 3) rfl) hi0
        refine rp [.p, .p, .p, .p, .p, .p, .p, .p, .p] 9 [[], [], [1], [1, 2], [1, 2, 3], [], [1, 2, 3, 4, 5], [1, 2, 3, 4, 5, 6], [1, 2, 3, 4, 5, 6, 7]] [(0, _), (2, _), (3, _), (4, _), (5, _), (6, _), (15, _), (16, _), (17, _), (18, _), (19, _), (20, _), (21, _), (22, _), (23, _), (32, _), (33, _), (41, _), (42, _), (47, _), (48, _), (57, _), (58, _), (64, _), (65, _), (66, _), (67, _), (68, _), (69, _), (70, _), (71, _), (72, _), (73, _)] F ⟨rfl, rfl, rfl, rfl, rfl, rfl, rfl, rfl, rfl, rfl, rfl, rfl, rfl, rfl, rfl, rfl, rfl, rfl, rfl, rfl, rfl, rfl, rfl, rfl, rfl, rfl, rfl, rfl, rfl, rfl, rfl, rfl, rfl, trivial⟩ Tryz.mixed (by kernel_rfl) rfl (.inr ⟨by decide, by kernel_rfl, by kernel_rfl⟩) (by kernel_rfl) ⟨?_, ?_, ?_, ?_, ?_, ?_, ?_, ?_, ?_, trivial⟩ fun a w1 J => ?_
        ·intro a w1 hB F hA
         have S0 := S
         replace S := S.call hB
         exact pv F (fun w2 hB2 => have S := S.call hB2; y_ld rfl rfl (S.ld (i := 6) rfl rfl Tryz.isAgg67)) rfl rfl rfl (by decide)
        ·intro a w1 hB F hA
         have S0 := S
         replace S := S.call hB
         exact pv F (fun w2 hB2 => have S := S.call hB2; y_ld rfl rfl (S.ld (i := 6) rfl rfl Tryz.isAgg67)) rfl rfl rfl (by decide)
        ·intro a w1 hB F hA
         have S0 := S
         replace S := S.call hB
         replace F := F.eP (hA 1 (by decide)) rfl (d := 77) rfl rfl (y_ld rfl rfl (S.ld (i := 6) rfl rfl Tryz.isAgg67))
         exact pv F (fun w2 hB2 => have S := S.call hB2; y_nc rfl rfl) rfl rfl rfl (by decide)
        ·intro a w1 hB F hA
         have S0 := S
         replace S := S.call hB
         replace F := F.eP (hA 1 (by decide)) rfl (d := 77) rfl rfl (y_ld rfl rfl (S.ld (i := 6) rfl rfl Tryz.isAgg67))
         replace F := F.eP (hA 2 (by decide)) rfl (d := 78) rfl rfl (y_nc rfl rfl)
         exact pv F (fun w2 hB2 => have S := S.call hB2; y_fa rfl rfl fi137_1) rfl rfl rfl (by decide)
        ·intro a w1 hB F hA
         have S0 := S
         replace S := S.call hB
         replace F := F.eP (hA 1 (by decide)) rfl (d := 77) rfl rfl (y_ld rfl rfl (S.ld (i := 6) rfl rfl Tryz.isAgg67))
         replace F := F.eP (hA 2 (by decide)) rfl (d := 78) rfl rfl (y_nc rfl rfl)
         replace F := F.eP (hA 3 (by decide)) rfl (d := 79) rfl rfl (y_fa rfl rfl fi137_1)
         exact pv F (fun w2 hB2 => have S := S.call hB2; y_ld rfl rfl (S.ld (i := 0) rfl rfl Tryz.isAgg24)) rfl rfl rfl (by decide)
        ·intro a w1 hB F hA
         have S0 := S
         replace S := S.call hB
         exact pv F (fun w2 hB2 => have S := S.call hB2; y_mv rfl rfl) rfl rfl rfl (by decide)
        ·intro a w1 hB F hA
         have S0 := S
         replace S := S.call hB
         replace F := F.eP (hA 1 (by decide)) rfl (d := 77) rfl rfl (y_ld rfl rfl (S.ld (i := 6) rfl rfl Tryz.isAgg67))
         replace F := F.eP (hA 2 (by decide)) rfl (d := 78) rfl rfl (y_nc rfl rfl)
         replace F := F.eP (hA 3 (by decide)) rfl (d := 79) rfl rfl (y_fa rfl rfl fi137_1)
         replace F := F.eP (hA 4 (by decide)) rfl (d := 80) rfl rfl (y_ld rfl rfl (S.ld (i := 0) rfl rfl Tryz.isAgg24))
         replace F := F.eP (hA 5 (by decide)) rfl (d := 81) rfl rfl (y_mv rfl rfl)
         exact pv F (fun w2 hB2 => have S := S.call hB2; y_ia rfl rfl heA rfl Tryz.underlying24 Tryz.sizeOf109 i0 hidx hi0) rfl rfl rfl (by decide)
        ·intro a w1 hB F hA
         have S0 := S
         replace S := S.call hB
         replace F := F.eP (hA 1 (by decide)) rfl (d := 77) rfl rfl (y_ld rfl rfl (S.ld (i := 6) rfl rfl Tryz.isAgg67))
         replace F := F.eP (hA 2 (by decide)) rfl (d := 78) rfl rfl (y_nc rfl rfl)
         replace F := F.eP (hA 3 (by decide)) rfl (d := 79) rfl rfl (y_fa rfl rfl fi137_1)
         replace F := F.eP (hA 4 (by decide)) rfl (d := 80) rfl rfl (y_ld rfl rfl (S.ld (i := 0) rfl rfl Tryz.isAgg24))
         replace F := F.eP (hA 5 (by decide)) rfl (d := 81) rfl rfl (y_mv rfl rfl)
         replace F := F.eP (hA 6 (by decide)) rfl (d := 82) rfl rfl (y_ia rfl rfl heA rfl Tryz.underlying24 Tryz.sizeOf109 i0 hidx hi0)
         exact pv F (fun w2 hB2 => have S := S.call hB2; y_fa rfl rfl fi109_1) rfl rfl rfl (by decide)
        ·intro a w1 hB F hA
         have S0 := S
         replace S := S.call hB
         replace F := F.eP (hA 1 (by decide)) rfl (d := 77) rfl rfl (y_ld rfl rfl (S.ld (i := 6) rfl rfl Tryz.isAgg67))
         replace F := F.eP (hA 2 (by decide)) rfl (d := 78) rfl rfl (y_nc rfl rfl)
         replace F := F.eP (hA 3 (by decide)) rfl (d := 79) rfl rfl (y_fa rfl rfl fi137_1)
         replace F := F.eP (hA 4 (by decide)) rfl (d := 80) rfl rfl (y_ld rfl rfl (S.ld (i := 0) rfl rfl Tryz.isAgg24))
         replace F := F.eP (hA 5 (by decide)) rfl (d := 81) rfl rfl (y_mv rfl rfl)
         replace F := F.eP (hA 6 (by decide)) rfl (d := 82) rfl rfl (y_ia rfl rfl heA rfl Tryz.underlying24 Tryz.sizeOf109 i0 hidx hi0)
         replace F := F.eP (hA 7 (by decide)) rfl (d := 83) rfl rfl (y_fa rfl rfl fi109_1)
         exact pv F (fun w2 hB2 => have S := S.call hB2; y_ld rfl rfl (ld1 Tryz.isAgg9 (env_cell hE S (i := 3) rfl heA hi0))) rfl rfl rfl (by decide)
        have F := J.fr
        have E := EX.start J S
        have hle' := S.bel.size
        replace S := S.call J.bel
        replace F := F.eP (J.at 0 rfl) rfl (d := 76) rfl rfl (y_ld rfl rfl (S.ld (i := 6) rfl rfl Tryz.isAgg67))
        replace F := F.eP (J.at 1 rfl) rfl (d := 77) rfl rfl (y_ld rfl rfl (S.ld (i := 6) rfl rfl Tryz.isAgg67))
        replace F := F.eP (J.at 2 rfl) rfl (d := 78) rfl rfl (y_nc rfl rfl)
        replace F := F.eP (J.at 3 rfl) rfl (d := 79) rfl rfl (y_fa rfl rfl fi137_1)
        replace F := F.eP (J.at 4 rfl) rfl (d := 80) rfl rfl (y_ld rfl rfl (S.ld (i := 0) rfl rfl Tryz.isAgg24))
        replace F := F.eP (J.at 5 rfl) rfl (d := 81) rfl rfl (y_mv rfl rfl)
        replace F := F.eP (J.at 6 rfl) rfl (d := 82) rfl rfl (y_ia rfl rfl heA rfl Tryz.underlying24 Tryz.sizeOf109 i0 hidx hi0)
        replace F := F.eP (J.at 7 rfl) rfl (d := 83) rfl rfl (y_fa rfl rfl fi109_1)
        replace F := F.eP (J.at 8 rfl) rfl (d := 84) rfl rfl (y_ld rfl rfl (ld1 Tryz.isAgg9 (env_cell hE S (i := 3) rfl heA hi0)))
        replace S := E.st
        clear E J
        refine dc F (c_f rfl rfl rfl Tryz.call118) rfl rfl rfl (c_add (C.env[i0]).2 (by omega) (by have := hez _ (List.getElem_mem hi0); omega) (Rep.mk' hle hE hv (S.pick [0, 1, 2, 3, 4, 5] _ ⟨rfl, rfl, rfl, rfl, rfl, rfl, trivial⟩ rfl))) fun a v w' hr F => ?_
        have hR := hr
        refine dn ?_
        refine bn <| ?_
        exact rn0 F rfl (.inl ⟨g3, (by rw [do_env_some g1 g2 g3 g4 g5 hi0 hidx]; exact hR)⟩)
      ·have g5 := h5
       try simp only [zi1, zi2, zi3, zi4, zi5, zi6, zi7, zi8] at g5
       refine sq fun K16 hK16 => ?_
       refine rg ?_
       refine dv F (y_se rfl rfl rfl) rfl rfl rfl fun a F => ?_
       refine dv F (y_as rfl rfl) rfl rfl rfl fun a F => ?_
       refine dn ?_
       refine tn <| hK16 _ _ ?_
       refine cb F rfl (fun h7 => ?_) (fun h7 => ?_)
       ·have g7 := h7
        try simp only [zi1, zi2, zi3, zi4, zi5, zi6, zi7, zi8] at g7
        refine sq fun K17 hK17 => ?_
        refine rp [.p, .p, .p, .p, .p, .p, .p, .p, .p] 9 [[], [], [], [2], [2, 3], [2, 3, 4], [1, 2, 3, 4, 5], [0, 1, 2, 3, 4, 5, 6], [0, 1, 2, 3, 4, 5, 6, 7]] [(0, _), (2, _), (3, _), (4, _), (5, _), (15, _), (16, _), (17, _), (18, _), (19, _), (20, _), (21, _), (22, _), (23, _), (32, _), (33, _), (41, _), (42, _), (47, _), (48, _), (57, _), (58, _), (64, _), (65, _), (86, _), (87, _)] F ⟨rfl, rfl, rfl, rfl, rfl, rfl, rfl, rfl, rfl, rfl, rfl, rfl, rfl, rfl, rfl, rfl, rfl, rfl, rfl, rfl, rfl, rfl, rfl, rfl, rfl, rfl, trivial⟩ Tryz.mixed (by kernel_rfl) rfl (.inr ⟨by decide, by kernel_rfl, by kernel_rfl⟩) (by kernel_rfl) ⟨?_, ?_, ?_, ?_, ?_, ?_, ?_, ?_, ?_, trivial⟩ fun a w1 J => ?_
        ·intro a w1 hB F hA
         have S0 := S
         replace S := S.call hB
         exact pv F (fun w2 hB2 => have S := S.call hB2; y_ld rfl rfl (S.ld (i := 6) rfl rfl Tryz.isAgg67)) rfl rfl rfl (by decide)
        ·intro a w1 hB F hA
         have S0 := S
         replace S := S.call hB
         exact pv F (fun w2 hB2 => have S := S.call hB2; y_ld rfl rfl (S.ld (i := 8) rfl rfl Tryz.isAgg9)) rfl rfl rfl (by decide)
        ·intro a w1 hB F hA
         have S0 := S
         replace S := S.call hB
         exact pv F (fun w2 hB2 => have S := S.call hB2; y_ld rfl rfl (S.ld (i := 6) rfl rfl Tryz.isAgg67)) rfl rfl rfl (by decide)
        ·intro a w1 hB F hA
         have S0 := S
         replace S := S.call hB
         replace F := F.eP (hA 2 (by decide)) rfl (d := 90) rfl rfl (y_ld rfl rfl (S.ld (i := 6) rfl rfl Tryz.isAgg67))
         exact pv F (fun w2 hB2 => have S := S.call hB2; y_nc rfl rfl) rfl rfl rfl (by decide)
        ·intro a w1 hB F hA
         have S0 := S
         replace S := S.call hB
         replace F := F.eP (hA 2 (by decide)) rfl (d := 90) rfl rfl (y_ld rfl rfl (S.ld (i := 6) rfl rfl Tryz.isAgg67))
         replace F := F.eP (hA 3 (by decide)) rfl (d := 91) rfl rfl (y_nc rfl rfl)
         exact pv F (fun w2 hB2 => have S := S.call hB2; y_fa rfl rfl fi137_2) rfl rfl rfl (by decide)
        ·intro a w1 hB F hA
         have S0 := S
         replace S := S.call hB
         replace F := F.eP (hA 2 (by decide)) rfl (d := 90) rfl rfl (y_ld rfl rfl (S.ld (i := 6) rfl rfl Tryz.isAgg67))
         replace F := F.eP (hA 3 (by decide)) rfl (d := 91) rfl rfl (y_nc rfl rfl)
         replace F := F.eP (hA 4 (by decide)) rfl (d := 92) rfl rfl (y_fa rfl rfl fi137_2)
         exact pv F (fun w2 hB2 => have S := S.call hB2; y_ld rfl rfl (S.ld (i := 0) rfl rfl Tryz.isAgg9)) rfl rfl rfl (by decide)
        ·intro a w1 hB F hA
         have S0 := S
         replace S := S.call hB
         replace F := F.eP (hA 1 (by decide)) rfl (d := 89) rfl rfl (y_ld rfl rfl (S.ld (i := 8) rfl rfl Tryz.isAgg9))
         replace F := F.eP (hA 2 (by decide)) rfl (d := 90) rfl rfl (y_ld rfl rfl (S.ld (i := 6) rfl rfl Tryz.isAgg67))
         replace F := F.eP (hA 3 (by decide)) rfl (d := 91) rfl rfl (y_nc rfl rfl)
         replace F := F.eP (hA 4 (by decide)) rfl (d := 92) rfl rfl (y_fa rfl rfl fi137_2)
         replace F := F.eP (hA 5 (by decide)) rfl (d := 93) rfl rfl (y_ld rfl rfl (S.ld (i := 0) rfl rfl Tryz.isAgg9))
         exact pv F (fun w2 hB2 => have S := S.call hB2; y_bd rfl rfl (bd72_0_1_2)) rfl rfl rfl (by decide)
        ·intro a w1 hB F hA
         have S0 := S
         replace S := S.call hB
         replace F := F.eP (hA 0 (by decide)) rfl (d := 88) rfl rfl (y_ld rfl rfl (S.ld (i := 6) rfl rfl Tryz.isAgg67))
         replace F := F.eP (hA 1 (by decide)) rfl (d := 89) rfl rfl (y_ld rfl rfl (S.ld (i := 8) rfl rfl Tryz.isAgg9))
         replace F := F.eP (hA 2 (by decide)) rfl (d := 90) rfl rfl (y_ld rfl rfl (S.ld (i := 6) rfl rfl Tryz.isAgg67))
         replace F := F.eP (hA 3 (by decide)) rfl (d := 91) rfl rfl (y_nc rfl rfl)
         replace F := F.eP (hA 4 (by decide)) rfl (d := 92) rfl rfl (y_fa rfl rfl fi137_2)
         replace F := F.eP (hA 5 (by decide)) rfl (d := 93) rfl rfl (y_ld rfl rfl (S.ld (i := 0) rfl rfl Tryz.isAgg9))
         replace F := F.eP (hA 6 (by decide)) rfl (d := 94) rfl rfl (y_bd rfl rfl (bd72_0_1_2))
         exact pv F (fun w2 hB2 => have S := S.call hB2; y_nc rfl rfl) rfl rfl rfl (by decide)
        ·intro a w1 hB F hA
         have S0 := S
         replace S := S.call hB
         replace F := F.eP (hA 0 (by decide)) rfl (d := 88) rfl rfl (y_ld rfl rfl (S.ld (i := 6) rfl rfl Tryz.isAgg67))
         replace F := F.eP (hA 1 (by decide)) rfl (d := 89) rfl rfl (y_ld rfl rfl (S.ld (i := 8) rfl rfl Tryz.isAgg9))
         replace F := F.eP (hA 2 (by decide)) rfl (d := 90) rfl rfl (y_ld rfl rfl (S.ld (i := 6) rfl rfl Tryz.isAgg67))
         replace F := F.eP (hA 3 (by decide)) rfl (d := 91) rfl rfl (y_nc rfl rfl)
         replace F := F.eP (hA 4 (by decide)) rfl (d := 92) rfl rfl (y_fa rfl rfl fi137_2)
         replace F := F.eP (hA 5 (by decide)) rfl (d := 93) rfl rfl (y_ld rfl rfl (S.ld (i := 0) rfl rfl Tryz.isAgg9))
         replace F := F.eP (hA 6 (by decide)) rfl (d := 94) rfl rfl (y_bd rfl rfl (bd72_0_1_2))
         replace F := F.eP (hA 7 (by decide)) rfl (d := 95) rfl rfl (y_nc rfl rfl)
         exact pv F (fun w2 hB2 => have S := S.call hB2; y_fa rfl rfl fi137_6) rfl rfl rfl (by decide)
        have F := J.fr
        have E := EX.start J S
        have hle' := S.bel.size
        replace S := S.call J.bel
        replace F := F.eP (J.at 0 rfl) rfl (d := 88) rfl rfl (y_ld rfl rfl (S.ld (i := 6) rfl rfl Tryz.isAgg67))
        replace F := F.eP (J.at 1 rfl) rfl (d := 89) rfl rfl (y_ld rfl rfl (S.ld (i := 8) rfl rfl Tryz.isAgg9))
        replace F := F.eP (J.at 2 rfl) rfl (d := 90) rfl rfl (y_ld rfl rfl (S.ld (i := 6) rfl rfl Tryz.isAgg67))
        replace F := F.eP (J.at 3 rfl) rfl (d := 91) rfl rfl (y_nc rfl rfl)
        replace F := F.eP (J.at 4 rfl) rfl (d := 92) rfl rfl (y_fa rfl rfl fi137_2)
        replace F := F.eP (J.at 5 rfl) rfl (d := 93) rfl rfl (y_ld rfl rfl (S.ld (i := 0) rfl rfl Tryz.isAgg9))
        replace F := F.eP (J.at 6 rfl) rfl (d := 94) rfl rfl (y_bd rfl rfl (bd72_0_1_2))
        replace F := F.eP (J.at 7 rfl) rfl (d := 95) rfl rfl (y_nc rfl rfl)
        replace F := F.eP (J.at 8 rfl) rfl (d := 96) rfl rfl (y_fa rfl rfl fi137_6)
        replace S := E.st
        clear E J
        refine dst F S rfl rfl rfl Tryz.sizeOf72 (i := 0) rfl rfl (Nat.le_of_ble_eq_true rfl) (one72 _ _ _ _) rfl rfl fun a w F S => ?_
        refine dn ?_
        refine tn <| hK17 _ _ ?_
        refine rg ?_
        refine dv F (y_ld rfl rfl (S.ld (i := 6) rfl rfl Tryz.isAgg67)) rfl rfl rfl fun a F => ?_
        refine dv F (y_nc rfl rfl) rfl rfl rfl fun a F => ?_
        refine dv F (y_fa rfl rfl fi137_2) rfl rfl rfl fun a F => ?_
        refine dst F S rfl rfl rfl Tryz.sizeOf9 (i := 0) rfl rfl (Nat.le_of_ble_eq_true rfl) one1 rfl rfl fun a w F S => ?_
        refine dn ?_
        refine bn <| ?_
        exact rn0 F rfl (.inl ⟨g3, (by rw [do_write g1 g2 g3 g4 g5 g7]; exact ⟨A, c, vals, H, hle, hE, hv, (S.pick [0, 1, 2, 3, 4, 5] _ ⟨rfl, rfl, rfl, rfl, rfl, rfl, trivial⟩ rfl)⟩)⟩)
       ·have g7 := h7
        try simp only [zi1, zi2, zi3, zi4, zi5, zi6, zi7, zi8] at g7
        refine sq fun K18 hK18 => ?_
        refine rg ?_
        refine dv F (y_se rfl rfl rfl) rfl rfl rfl fun a F => ?_
        refine dv F (y_as rfl rfl) rfl rfl rfl fun a F => ?_
        refine dn ?_
        refine tn <| hK18 _ _ ?_
        refine cb F rfl (fun h8 => ?_) (fun h8 => ?_)
        ·have g8 := h8
         try simp only [zi1, zi2, zi3, zi4, zi5, zi6, zi7, zi8] at g8
         refine sq fun K19 hK19 => ?_
         refine rg ?_
         refine dv F (y_mv rfl rfl) rfl rfl rfl fun a F => ?_
         refine dv F (y_mf rfl rfl) rfl rfl rfl fun a F => ?_
         refine dc F (c_f rfl rfl rfl Tryz.call101) rfl rfl rfl (c_ContainsFuncS _ (fun x => hasS x cm.arg) 124 [pt b4] Tryz.call124 (fun x hx W hb => c_has3 x cm.arg W ((S.call hb).cell (i := 8) rfl rfl) (G.st (S.call hb)) (by have := lines_size hx; omega)) (S.ows (i := 9) rfl lenS (by decide)) (by have := lines_le σ.buf; omega)) fun a v w' hr F => ?_
         obtain ⟨rfl, hb⟩ := hr
         replace S := S.call hb
         refine dv F (y_nt rfl rfl) rfl rfl rfl fun a F => ?_
         refine dn ?_
         refine tn <| hK19 _ _ ?_
         refine cb F rfl (fun h9 => ?_) (fun h9 => ?_)
         ·have g9 := h9
          try simp only [zi1, zi2, zi3, zi4, zi5, zi6, zi7, zi8] at g9
          refine rg ?_
          refine dv F (y_ld rfl rfl (S.ld (i := 6) rfl rfl Tryz.isAgg67)) rfl rfl rfl fun a F => ?_
          refine dc F (c_f rfl rfl rfl Tryz.call123) rfl rfl rfl (c_fail 15 (Rep.mk' hle hE hv (S.pick [0, 1, 2, 3, 4, 5] _ ⟨rfl, rfl, rfl, rfl, rfl, rfl, trivial⟩ rfl))) fun a v w' hr F => ?_
          have hR := hr
          refine dn ?_
          refine bn <| ?_
          exact rn0 F rfl (.inl ⟨g3, (by rw [do_need_no g1 g2 g3 g4 g5 g7 g8 (by simpa using g9)]; exact hR)⟩)
         ·have g9 := h9
          try simp only [zi1, zi2, zi3, zi4, zi5, zi6, zi7, zi8] at g9
          refine wp_skip ?_
          refine bn <| ?_
          exact rn0 F rfl (.inl ⟨g3, (by rw [do_need_yes g1 g2 g3 g4 g5 g7 g8 (by simpa using g9)]; exact ⟨A, c, vals, H, hle, hE, hv, (S.pick [0, 1, 2, 3, 4, 5] _ ⟨rfl, rfl, rfl, rfl, rfl, rfl, trivial⟩ rfl)⟩)⟩)
        ·have g8 := h8
         try simp only [zi1, zi2, zi3, zi4, zi5, zi6, zi7, zi8] at g8
         refine sq fun K20 hK20 => ?_
         refine rg ?_
         refine dv F (y_se rfl rfl rfl) rfl rfl rfl fun a F => ?_
         refine dv F (y_as rfl rfl) rfl rfl rfl fun a F => ?_
         refine dn ?_
         refine tn <| hK20 _ _ ?_
         refine cb F rfl (fun h10 => ?_) (fun h10 => ?_)
         ·have g10 := h10
          try simp only [zi1, zi2, zi3, zi4, zi5, zi6, zi7, zi8] at g10
          refine rg ?_
          refine dv F (y_ld rfl rfl (S.ld (i := 6) rfl rfl Tryz.isAgg67)) rfl rfl rfl fun a F => ?_
          refine dc F (c_f rfl rfl rfl Tryz.call123) rfl rfl rfl (c_fail 15 (Rep.mk' hle hE hv (S.pick [0, 1, 2, 3, 4, 5] _ ⟨rfl, rfl, rfl, rfl, rfl, rfl, trivial⟩ rfl))) fun a v w' hr F => ?_
          have hR := hr
          refine dn ?_
          refine bn <| ?_
          exact rn0 F rfl (.inl ⟨g3, (by rw [do_fail g1 g2 g3 g4 g5 g7 g8 g10]; exact hR)⟩)
         ·have g10 := h10
          try simp only [zi1, zi2, zi3, zi4, zi5, zi6, zi7, zi8] at g10
          refine rp [.p, .p, .p, .p, .p, .p, .p] 7 [[], [], [1], [1, 2], [1, 2, 3], [], []] [(0, _), (2, _), (3, _), (4, _), (5, _), (15, _), (16, _), (17, _), (18, _), (19, _), (20, _), (21, _), (22, _), (23, _), (32, _), (33, _), (41, _), (42, _), (47, _), (48, _), (57, _), (58, _), (64, _), (65, _), (86, _), (87, _), (100, _), (101, _), (108, _), (109, _)] F ⟨rfl, rfl, rfl, rfl, rfl, rfl, rfl, rfl, rfl, rfl, rfl, rfl, rfl, rfl, rfl, rfl, rfl, rfl, rfl, rfl, rfl, rfl, rfl, rfl, rfl, rfl, rfl, rfl, rfl, rfl, trivial⟩ Tryz.mixed (by kernel_rfl) rfl (.inr ⟨by decide, by kernel_rfl, by kernel_rfl⟩) (by kernel_rfl) ⟨?_, ?_, ?_, ?_, ?_, ?_, ?_, trivial⟩ fun a w1 J => ?_
          ·intro a w1 hB F hA
           have S0 := S
           replace S := S.call hB
           exact pv F (fun w2 hB2 => have S := S.call hB2; y_ld rfl rfl (S.ld (i := 6) rfl rfl Tryz.isAgg67)) rfl rfl rfl (by decide)
          ·intro a w1 hB F hA
           have S0 := S
           replace S := S.call hB
           exact pv F (fun w2 hB2 => have S := S.call hB2; y_fa rfl rfl fi142_0) rfl rfl rfl (by decide)
          ·intro a w1 hB F hA
           have S0 := S
           replace S := S.call hB
           replace F := F.eP (hA 1 (by decide)) rfl (d := 25) rfl rfl (y_fa rfl rfl fi142_0)
           exact pv F (fun w2 hB2 => have S := S.call hB2; y_ld rfl rfl (S.ld (i := 7) rfl rfl Tryz.isAgg25)) rfl rfl rfl (by decide)
          ·intro a w1 hB F hA
           have S0 := S
           replace S := S.call hB
           replace F := F.eP (hA 1 (by decide)) rfl (d := 25) rfl rfl (y_fa rfl rfl fi142_0)
           replace F := F.eP (hA 2 (by decide)) rfl (d := 26) rfl rfl (y_ld rfl rfl (S.ld (i := 7) rfl rfl Tryz.isAgg25))
           exact pv F (fun w2 hB2 => have S := S.call hB2; y_ia rfl rfl rfl rfl Tryz.underlying25 Tryz.sizeOf9 0 rfl (by omega)) rfl rfl rfl (by decide)
          ·intro a w1 hB F hA
           have S0 := S
           replace S := S.call hB
           replace F := F.eP (hA 1 (by decide)) rfl (d := 25) rfl rfl (y_fa rfl rfl fi142_0)
           replace F := F.eP (hA 2 (by decide)) rfl (d := 26) rfl rfl (y_ld rfl rfl (S.ld (i := 7) rfl rfl Tryz.isAgg25))
           replace F := F.eP (hA 3 (by decide)) rfl (d := 27) rfl rfl (y_ia rfl rfl rfl rfl Tryz.underlying25 Tryz.sizeOf9 0 rfl (by omega))
           exact pv F (fun w2 hB2 => have S := S.call hB2; y_ld rfl rfl (ld1 Tryz.isAgg9 (word_cell hW S (i := 3) rfl (j := 0) (by omega)))) rfl rfl rfl (by decide)
          ·intro a w1 hB F hA
           have S0 := S
           replace S := S.call hB
           exact pv F (fun w2 hB2 => have S := S.call hB2; y_ld rfl rfl (S.ld (i := 8) rfl rfl Tryz.isAgg9)) rfl rfl rfl (by decide)
          ·intro a w1 hB F hA
           have S0 := S
           replace S := S.call hB
           exact pv F (fun w2 hB2 => have S := S.call hB2; y_mv rfl rfl) rfl rfl rfl (by decide)
          have F := J.fr
          have E := EX.start J S
          have hle' := S.bel.size
          replace S := S.call J.bel
          replace F := F.eP (J.at 0 rfl) rfl (d := 24) rfl rfl (y_ld rfl rfl (S.ld (i := 6) rfl rfl Tryz.isAgg67))
          replace F := F.eP (J.at 1 rfl) rfl (d := 25) rfl rfl (y_fa rfl rfl fi142_0)
          replace F := F.eP (J.at 2 rfl) rfl (d := 26) rfl rfl (y_ld rfl rfl (S.ld (i := 7) rfl rfl Tryz.isAgg25))
          replace F := F.eP (J.at 3 rfl) rfl (d := 27) rfl rfl (y_ia rfl rfl rfl rfl Tryz.underlying25 Tryz.sizeOf9 0 rfl (by omega))
          replace F := F.eP (J.at 4 rfl) rfl (d := 28) rfl rfl (y_ld rfl rfl (ld1 Tryz.isAgg9 (word_cell hW S (i := 3) rfl (j := 0) (by omega))))
          replace F := F.eP (J.at 5 rfl) rfl (d := 29) rfl rfl (y_ld rfl rfl (S.ld (i := 8) rfl rfl Tryz.isAgg9))
          replace F := F.eP (J.at 6 rfl) rfl (d := 30) rfl rfl (y_mv rfl rfl)
          replace S := E.st
          clear E J
          refine dc F (c_f rfl rfl rfl Tryz.call126) rfl rfl rfl (c_turn (cm.word 0) cm.arg (lines σ.buf) G hE hv (S.pick [0, 1, 2, 3, 4, 5, 9] _ ⟨rfl, rfl, rfl, rfl, rfl, rfl, rfl, trivial⟩ rfl) (by omega) (by have := lines_le σ.buf; omega) (fun x hx => by have := lines_size hx; omega)) fun a v w' hr F => ?_
          have hR := hr
          replace hR := hR.le hle
          refine dn ?_
          refine bn <| ?_
          exact rn0 F rfl (.inl ⟨g3, (by rw [do_turn g1 g2 g3 g4 g5 g7 g8 g10]; exact hR)⟩)
 refine cb F rfl (fun h11 => ?_) (fun h11 => ?_)
 ·have g11 := h11
  try simp only [zi1, zi2, zi3, zi4, zi5, zi6, zi7, zi8] at g11
  refine rg ?_
  refine dv F (y_fa rfl rfl fi142_0) rfl rfl rfl fun a F => ?_
  refine dv F (y_ld rfl rfl (S.ld (i := 7) rfl rfl Tryz.isAgg25)) rfl rfl rfl fun a F => ?_
  refine dv F (y_ia rfl rfl rfl rfl Tryz.underlying25 Tryz.sizeOf9 1 rfl (by omega)) rfl rfl rfl fun a F => ?_
  refine dv F (y_ld rfl rfl (ld1 Tryz.isAgg9 (word_cell hW S (i := 3) rfl (j := 1) (by omega)))) rfl rfl rfl fun a F => ?_
  refine dsw F S rfl rfl rfl Tryz.sizeOf9 (i := 8) rfl rfl rfl rfl one1 rfl rfl fun a w F S => ?_
  refine dn ?_
  exact tn (hgo1  _ _ (F.sub _ ⟨rfl, rfl, rfl, rfl, trivial⟩) (by have S := S.pick [0, 1, 2, 3, 4, 5, 6, 7, 8] [bk C.rb 137 (rcells C A vals.length c σ), ow 1 1 (.slice A vals.length c) vals.length vals, mpe C.kb (kmap σ.known), fz H, sr, mr, bk b2 67 [pt C.rb], bk b3 142 [.slice (some ⟨wb, wo, none⟩) cm.words.length wc, .string cm.rest], bk b4 9 [.string (cm.word 1)]] ⟨rfl, rfl, rfl, rfl, rfl, rfl, rfl, rfl, rfl, trivial⟩ rfl; rw [arg_t (c := cm) (by omega)] at S; exact S))
 ·have g11 := h11
  try simp only [zi1, zi2, zi3, zi4, zi5, zi6, zi7, zi8] at g11
  refine wp_skip ?_
  exact tn (hgo1  _ _ (F.sub _ ⟨rfl, rfl, rfl, rfl, trivial⟩) (by have S := S.pick [0, 1, 2, 3, 4, 5, 6, 7, 8] [bk C.rb 137 (rcells C A vals.length c σ), ow 1 1 (.slice A vals.length c) vals.length vals, mpe C.kb (kmap σ.known), fz H, sr, mr, bk b2 67 [pt C.rb], bk b3 142 [.slice (some ⟨wb, wo, none⟩) cm.words.length wc, .string cm.rest], bk b4 9 [.string ⟨#[]⟩]] ⟨rfl, rfl, rfl, rfl, rfl, rfl, rfl, rfl, rfl, trivial⟩ rfl; rw [arg_f (c := cm) (by omega)] at S; exact S))
end Go.Proofs.YtgcmddaibnimjaaGreatDoor
namespace Go.Proofs.YtgcmddaibnimjaaGreatDoor
open Go.RowKit Go.Eng
def okR : Task → Prop
 | .cmd _ => False
 | .got _ _ => True
 | .line s _ => s.size ≤ 65536
def wt : Task → Nat
 | .cmd _ => 42000000
 | .got _ (.scan _) => 65538
 | .got _ _ => 1
 | .line _ _ => 1
def wts (T : List Task) : Nat := (T.map wt).sum
theorem wts_app (S T : List Task) : wts (S ++ T) = wts S + wts T := by simp [wts]
theorem wts_one (x : Task) : wts [x] = wt x := by simp [wts]
theorem wt_pos (x : Task) : 1 ≤ wt x := by
 cases x with
 | cmd c => simp [wt]
 | got p t => cases t <;> simp [wt]
 | line s w => simp [wt]
theorem wts_len : ∀ T : List Task, T.length ≤ wts T
 | [] => Nat.zero_le _
 | x :: T => by
  have h1 := wts_len T
  have h2 := wt_pos x
  simp only [wts, List.map_cons, List.sum_cons, List.length_cons] at h1 ⊢
  omega
def mu (σ : RS) : Nat := wts σ.todo + (501 - σ.seen.length) * 70000
def wTh : Th → Nat
 | .scan _ => 65537
 | _ => 0
structure Rs (σ σ' : RS) (m : Nat) : Prop where
 buf : σ'.buf.size ≤ 65536
 known : σ'.known = σ.known
 todo : ∃ ex, σ'.todo = σ.todo ++ ex ∧ (∀ x ∈ ex, okR x) ∧ wts ex ≤ m
 seen : σ'.seen = σ.seen
 wait : σ'.waits = true → ((kfind σ.known σ'.asks = none ∧ σ.known.length < 500) ∧ σ'.kind = σ.kind) ∧ σ'.asks.size ≤ 1000000
 kx : σ'.kind = σ.kind ∨ σ'.kind = 2 ∨ (σ'.kind = 4 ∧ ¬ σ'.why = 0)
theorem Rs.refl {σ : RS} (hb : σ.buf.size ≤ 65536) (hw : σ.waits = false) : Rs σ σ 0 := ⟨hb, rfl, ⟨[], by simp, fun x hx => (by cases hx), Nat.le_refl _⟩, rfl, fun h => (by rw [hw] at h; cases h), .inl rfl⟩
theorem ex0 {σ : RS} : ∃ ex, σ.todo = σ.todo ++ ex ∧ (∀ x ∈ ex, okR x) ∧ wts ex ≤ 0 := ⟨[], by simp, fun x hx => (by cases hx), Nat.le_refl _⟩
theorem Rs.fail {σ : RS} (e : Int) (he : ¬ e = 0) (hb : σ.buf.size ≤ 65536) (hw : σ.waits = false) : Rs σ (σ.fail e) 0 := ⟨hb, rfl, ex0, rfl, fun h => (by have h' : σ.waits = true := h; rw [hw] at h'; cases h'), .inr (.inr ⟨rfl, he⟩)⟩
theorem Rs.add {σ : RS} (s : ByteArray) (hb : σ.buf.size ≤ 65536) (hw : σ.waits = false) : Rs σ (σ.add s) 0 := by
 unfold RS.add
 split
 ·exact Rs.fail 6 (by decide) hb hw
 ·exact ⟨by show (σ.buf ++ s).size ≤ _; rw [ByteArray.size_append]; omega, rfl, ex0, rfl, fun h => (by have h' : σ.waits = true := h; rw [hw] at h'; cases h'), .inl rfl⟩
theorem Rs.mono {σ σ' : RS} {m n : Nat} (h : Rs σ σ' m) (hmn : m ≤ n) : Rs σ σ' n := ⟨h.buf, h.known, let ⟨ex, h1, h2, h3⟩ := h.todo; ⟨ex, h1, h2, by omega⟩, h.seen, h.wait, h.kx⟩
theorem Rs.then_ {σ : RS} (t : Th) {k : Kn} (hk : k.is = true → k.data.size ≤ 65536) (hb : σ.buf.size ≤ 65536) (hw : σ.waits = false) : Rs σ (σ.then_ t k) (wTh t) := by
 cases t with
 | rd => simp only [RS.then_]; split <;> first | exact Rs.add _ hb hw | exact Rs.fail _ (by decide) hb hw
 | try_ => simp only [RS.then_]; split <;> first | exact Rs.add _ hb hw | exact Rs.refl hb hw
 | scan w =>
  simp only [RS.then_]
  split
  ·rename_i his
   have hk := hk his
   refine ⟨hb, rfl, ⟨(lines k.data).reverse.map fun s => Task.line s w, rfl, fun x hx => ?_, ?_⟩, rfl, fun h => (by have h' : σ.waits = true := h; rw [hw] at h'; cases h'), .inl rfl⟩
   ·obtain ⟨s, hs, rfl⟩ := List.mem_map.1 hx
    have := lines_size (List.mem_reverse.1 hs)
    show s.size ≤ 65536
    omega
   ·have h1 : wts ((lines k.data).reverse.map fun s => Task.line s w) = (lines k.data).length := by
     have : ∀ l : List ByteArray, wts (l.map fun s => Task.line s w) = l.length := fun l => by
      induction l with
      | nil => rfl
      | cons y l ih =>
       have e : wts ((y :: l).map fun s => Task.line s w) = wt (.line y w) + wts (l.map fun s => Task.line s w) := by simp [wts]
       rw [e, ih, List.length_cons]; simp [wt]; omega
     rw [this, List.length_reverse]
    have h2 := lines_le k.data
    show wts _ ≤ 65537
    omega
  ·exact (Rs.fail _ (by decide) hb hw).mono (Nat.zero_le _)
theorem wt_got (p : ByteArray) (t : Th) : wt (.got p t) ≤ wTh t + 1 := by cases t <;> simp [wt, wTh]
theorem Rs.ask {σ : RS} (p : ByteArray) (t : Th) (hp : p.size ≤ 1000000) (hk : ∀ k ∈ σ.known, k.is = true → k.data.size ≤ 65536) (hb : σ.buf.size ≤ 65536) (hw : σ.waits = false) : Rs σ (σ.ask p t) (wTh t + 1) := by
 unfold RS.ask
 split
 ·rename_i k hf
  exact (Rs.then_ t (hk k (kfind_mem hf).1) hb hw).mono (by omega)
 ·rename_i hf
  split
  ·exact (Rs.fail _ (by decide) hb hw).mono (by omega)
  ·refine ⟨hb, rfl, ⟨[.got p t], rfl, fun x hx => ?_, ?_⟩, rfl, fun _ => ⟨⟨⟨hf, by omega⟩, rfl⟩, hp⟩, .inl rfl⟩
   ·rw [List.mem_singleton] at hx; subst hx; trivial
   ·rw [wts_one]; exact wt_got p t
theorem ask_ends {σ : RS} (p : ByteArray) (t : Th) : (σ.ask p t).kind = 4 ∨ (kfind σ.known p).isSome = true ∨ ((σ.ask p t).waits = true ∧ (σ.ask p t).asks = p) := by
 unfold RS.ask
 split
 ·rename_i hf; exact .inr (.inl (by rw [hf]; rfl))
 ·split
  ·exact .inl rfl
  ·exact .inr (.inr ⟨rfl, rfl⟩)
theorem Rs.setLines {σ : RS} (l : List ByteArray) (hw : σ.waits = false) : Rs σ (σ.setLines l) 0 := by
 have h := Rs.add (σ := { σ with buf := eB }) ⟨(unl l).toArray⟩ (Nat.zero_le _) hw
 exact ⟨h.buf, h.known, h.todo, h.seen, h.wait, h.kx⟩
theorem upper_size (s : ByteArray) : (upperB s).size = s.size := by
 have : (upperB s).size = ((bI s).map upI).length := by show (List.toArray _).size = _; simp
 rw [this, List.length_map, bI_len]
theorem Rs.turn {σ : RS} (n a : ByteArray) (l : List ByteArray) (hl : l.length ≤ 1000000) (hb : σ.buf.size ≤ 65536) (hw : σ.waits = false) : Rs σ (σ.turn n a l) 0 := by
 have hw' : ∀ τ : RS, τ.waits = σ.waits → ∀ {X : Prop}, τ.waits = true → X := fun τ h _ h' => by rw [h, hw] at h'; cases h'
 unfold RS.turn
 split
 ·exact Rs.setLines _ hw
 split
 ·exact Rs.setLines _ hw
 split
 ·exact ⟨by show (upperB σ.buf).size ≤ _; rw [upper_size]; exact hb, rfl, ex0, rfl, fun h => hw' σ rfl h, .inl rfl⟩
 split
 ·refine ⟨?_, rfl, ex0, rfl, fun h => hw' σ rfl h, .inl rfl⟩
  show (_ ++ nlB).size ≤ _
  rw [ByteArray.size_append]
  have := Lib.itoa_length_le (l.length : Int) (by omega) (by omega)
  show (Lib.itoa l.length).toArray.size + 1 ≤ _
  rw [List.size_toArray]; omega
 split
 ·exact Rs.setLines _ hw
 ·exact Rs.refl hb hw
structure Inv (σ : RS) : Prop where
 buf : σ.buf.size ≤ 65536
 kd : ∀ k ∈ σ.known, k.is = true → k.data.size ≤ 65536
 kn : σ.known.length ≤ 500
 todo : ∃ (cs : List Cmd) (rs : List Task), σ.todo = cs.map Task.cmd ++ rs ∧ (∀ c ∈ cs, CmdOk c) ∧ ∀ x ∈ rs, okR x
 nd : σ.seen.Nodup
 seen : ¬ σ.kind = 4 → ∀ x ∈ σ.seen, (kfind σ.known x).isSome = true ∨ (σ.waits = true ∧ x = σ.asks)
 wait : σ.waits = true → ((kfind σ.known σ.asks = none ∧ σ.known.length < 500) ∧ σ.kind = 0) ∧ σ.asks.size ≤ 1000000
 kx : σ.kind = 0 ∨ σ.kind = 2 ∨ σ.kind = 3 ∨ (σ.kind = 4 ∧ ¬ σ.why = 0)
 mu : mu σ ≤ 20000000000
def RS.run (env : List (ByteArray × ByteArray)) (σ : RS) : Task → RS
 | .cmd c => σ.doC env c
 | .got p t => σ.got p t
 | .line s w => σ.line s w
theorem sub_len : ∀ {l m : List ByteArray}, l.Nodup → (∀ x ∈ l, x ∈ m) → l.length ≤ m.length
 | [], _, _, _ => Nat.zero_le _
 | x :: l, m, hn, hs => by
  have hx := hs x (List.mem_cons_self ..)
  have hn' := List.nodup_cons.1 hn
  have h := sub_len (m := m.filter fun y => !decide (y = x)) hn'.2 fun y hy => List.mem_filter.2 ⟨hs y (List.mem_cons_of_mem _ hy), by
   have : ¬ y = x := by rintro rfl; exact hn'.1 hy
   simp [this]⟩
  have h2 : (m.filter fun y => !decide (y = x)).length < m.length := List.length_filter_lt_length_iff_exists.2 ⟨x, hx, by simp⟩
  rw [List.length_cons]; omega
theorem kfind_path {l : List Kn} {p : ByteArray} (h : (kfind l p).isSome = true) : p ∈ l.map Kn.path := by
 obtain ⟨k, hk⟩ := Option.isSome_iff_exists.1 h
 exact List.mem_map.2 ⟨k, (kfind_mem hk).1, (kfind_mem hk).2⟩
theorem seen_le {σ : RS} (nd : σ.seen.Nodup) (hs : ∀ x ∈ σ.seen, (kfind σ.known x).isSome = true) (kn : σ.known.length ≤ 500) : σ.seen.length ≤ 500 := by
 have := sub_len nd fun x hx => kfind_path (hs x hx)
 rw [List.length_map] at this; omega
structure Base (σ : RS) : Prop where
 buf : σ.buf.size ≤ 65536
 kd : ∀ k ∈ σ.known, k.is = true → k.data.size ≤ 65536
 kn : σ.known.length ≤ 500
 nd : σ.seen.Nodup
 seen : ∀ x ∈ σ.seen, (kfind σ.known x).isSome = true
 w : σ.waits = false
structure Fin_ (σ σ' : RS) : Prop where
 buf : σ'.buf.size ≤ 65536
 known : σ'.known = σ.known
 todo : ∃ ex, σ'.todo = σ.todo ++ ex ∧ ∀ x ∈ ex, okR x
 nd : σ'.seen.Nodup
 seen : ¬ σ'.kind = 4 → ∀ x ∈ σ'.seen, (kfind σ.known x).isSome = true ∨ (σ'.waits = true ∧ x = σ'.asks)
 wait : σ'.waits = true → ((kfind σ.known σ'.asks = none ∧ σ.known.length < 500) ∧ σ'.kind = σ.kind) ∧ σ'.asks.size ≤ 1000000
 kx : σ'.kind = σ.kind ∨ σ'.kind = 2 ∨ (σ'.kind = 4 ∧ ¬ σ'.why = 0)
theorem Rs.fin {σ σ' : RS} {m : Nat} (h : Rs σ σ' m) (hB : Base σ) : Fin_ σ σ' ∧ mu σ' ≤ mu σ + m := by
 obtain ⟨ex, h1, h2, h3⟩ := h.todo
 refine ⟨⟨h.buf, h.known, ⟨ex, h1, h2⟩, by rw [h.seen]; exact hB.nd, fun _ x hx => .inl (hB.seen x (by rw [← h.seen]; exact hx)), h.wait, h.kx⟩, ?_⟩
 simp only [mu, h1, wts_app, h.seen]; omega
theorem scan_fin {σ : RS} (p w : ByteArray) (hps : p.size ≤ 1000000) (hB : Base σ) (hp : seenB σ.seen p = false) : Fin_ σ (σ.scan p w) ∧ mu (σ.scan p w) + 70000 ≤ mu σ + 65538 := by
 have hA := Rs.ask (σ := { σ with seen := σ.seen ++ [p] }) p (.scan w) hps hB.kd hB.buf hB.w
 have hE := ask_ends (σ := { σ with seen := σ.seen ++ [p] }) p (.scan w)
 have hnp : p ∉ σ.seen := fun hm => by
  simp only [seenB, List.any_eq_false, decide_eq_true_eq] at hp
  exact hp p hm rfl
 obtain ⟨ex, h1, h2, h3⟩ := hA.todo
 have hlen := seen_le hB.nd hB.seen hB.kn
 have hs : (σ.scan p w).seen = σ.seen ++ [p] := hA.seen
 refine ⟨⟨hA.buf, hA.known, ⟨ex, h1, h2⟩, ?_, fun hk x hx => ?_, hA.wait, hA.kx⟩, ?_⟩
 ·rw [hs, List.nodup_append]
  refine ⟨hB.nd, by simp, fun a ha b hb => ?_⟩
  rw [List.mem_singleton] at hb
  subst hb
  rintro rfl
  exact hnp ha
 ·rw [hs, List.mem_append, List.mem_singleton] at hx
  rcases hx with hx | rfl
  ·exact .inl (hB.seen x hx)
  ·rcases hE with h | h | h
   ·exact absurd h hk
   ·exact .inl h
   ·exact .inr ⟨h.1, h.2.symm⟩
 ·have e : mu (σ.scan p w) = wts (σ.todo ++ ex) + (501 - (σ.seen ++ [p]).length) * 70000 := by
   show wts (σ.scan p w).todo + (501 - (σ.scan p w).seen.length) * 70000 = _
   rw [hs, show (σ.scan p w).todo = σ.todo ++ ex from h1]
  have h3' : wts ex ≤ 65538 := h3
  rw [e, wts_app, List.length_append, List.length_cons, List.length_nil]
  simp only [mu]; omega
theorem word_sz {s : ByteArray} (h : s.size ≤ 65536) (i : Nat) : (((words s)[i]?).getD eB).size ≤ 1000000 := by
 cases hw : (words s)[i]? with
 | none => exact Nat.zero_le _
 | some x => exact Nat.le_trans (words_size (List.mem_of_getElem? hw)) (by omega)
theorem arg_sz {c : Cmd} (h : CmdOk c) (i : Nat) : (c.word i).size ≤ 1000000 := by
 unfold Cmd.word
 cases hw : c.words[i]? with
 | none => exact Nat.zero_le _
 | some x => exact h.2.2 x (List.mem_of_getElem? hw)
theorem line_fin {σ : RS} (s w : ByteArray) (hsz : s.size ≤ 65536) (hB : Base σ) : Fin_ σ (σ.line s w) ∧ mu (σ.line s w) ≤ mu σ := by
 unfold RS.line
 split
 ·exact (Rs.add _ hB.buf hB.w).fin hB
 split
 ·exact (Rs.refl hB.buf hB.w).fin hB
 ·rename_i h
  have := scan_fin (((words s)[1]?).getD eB) w (word_sz hsz 1) hB (by simpa using h)
  exact ⟨this.1, by omega⟩
theorem got_fin {σ : RS} (p : ByteArray) (t : Th) (hB : Base σ) : Fin_ σ (σ.got p t) ∧ mu (σ.got p t) < mu σ + wt (.got p t) := by
 have h := (Rs.then_ t (kfind_small hB.kd p) hB.buf hB.w).fin hB
 refine ⟨h.1, ?_⟩
 have h2 : mu (σ.got p t) ≤ mu σ + wTh t := h.2
 cases t <;> simp only [wt, wTh] at h2 ⊢ <;> omega
theorem do_fin {σ : RS} (env : List (ByteArray × ByteArray)) (c : Cmd) (hok : CmdOk c) (hB : Base σ) : Fin_ σ (σ.doC env c) ∧ mu (σ.doC env c) < mu σ + 42000000 := by
 have key : ∀ {σ' : RS} {m : Nat}, Rs σ σ' m → m < 42000000 → Fin_ σ σ' ∧ mu σ' < mu σ + 42000000 := fun h hm => by
  have := h.fin hB
  exact ⟨this.1, by omega⟩
 have hll : (lines σ.buf).length ≤ 1000000 := by have := lines_le σ.buf; have := hB.buf; omega
 unfold RS.doC
 split
 ·exact key (Rs.ask _ _ (arg_sz hok 1) hB.kd hB.buf hB.w) (by decide)
 split
 ·exact key (Rs.ask _ _ (arg_sz hok 1) hB.kd hB.buf hB.w) (by decide)
 split
 ·have hB' : Base { σ with seen := [] } := ⟨hB.buf, hB.kd, hB.kn, List.nodup_nil, fun x hx => (by cases hx), hB.w⟩
  have h := scan_fin (σ := { σ with seen := [] }) c.arg (c.word 2) (arg_sz hok 1) hB' rfl
  refine ⟨⟨h.1.buf, h.1.known, h.1.todo, h.1.nd, h.1.seen, h.1.wait, h.1.kx⟩, ?_⟩
  have h2 := h.2
  have e : mu { σ with seen := [] } = wts σ.todo + 501 * 70000 := rfl
  rw [e] at h2
  simp only [mu] at h2 ⊢; omega
 split
 ·exact key (Rs.add _ hB.buf hB.w) (by decide)
 split
 ·unfold RS.envC
  split
  ·exact key (Rs.fail _ (by decide) hB.buf hB.w) (by decide)
  ·exact key (Rs.add _ hB.buf hB.w) (by decide)
 split
 ·exact key (σ' := { σ with kind := 2, path := c.arg, data := σ.buf, why := 0, buf := eB }) ⟨Nat.zero_le _, rfl, ex0, rfl, fun h => (by have h' : σ.waits = true := h; rw [hB.w] at h'; cases h'), .inr (.inl rfl)⟩ (by decide)
 split
 ·unfold RS.needC
  split
  ·exact key (Rs.refl hB.buf hB.w) (by decide)
  ·exact key (Rs.fail _ (by decide) hB.buf hB.w) (by decide)
 split
 ·exact key (Rs.fail _ (by decide) hB.buf hB.w) (by decide)
 ·exact key (Rs.turn _ _ _ hll hB.buf hB.w) (by decide)
theorem run_fin {σ : RS} (env : List (ByteArray × ByteArray)) (x : Task) (hx : (∃ c, x = .cmd c ∧ CmdOk c) ∨ okR x) (hB : Base σ) : Fin_ σ (σ.run env x) ∧ mu (σ.run env x) < mu σ + wt x := by
 cases x with
 | cmd c =>
  rcases hx with ⟨c', e, hok⟩ | h
  ·cases e; exact do_fin env c hok hB
  ·exact h.elim
 | got p t => exact got_fin p t hB
 | line s w =>
  have hsz : s.size ≤ 65536 := by
   rcases hx with ⟨c, e, _⟩ | h
   ·cases e
   ·exact h
  have := line_fin s w hsz hB
  exact ⟨this.1, by have h2 : mu (σ.line s w) ≤ mu σ := this.2; show mu (σ.line s w) < mu σ + 1; omega⟩
def RS.halt (σ : RS) : Prop := ¬ σ.kind = 0 ∨ σ.waits = true
instance (σ : RS) : Decidable σ.halt := inferInstanceAs (Decidable (¬ σ.kind = 0 ∨ σ.waits = true))
def RS.end_ (σ : RS) : RS := { σ with kind := 3, path := eB, data := eB, why := 0 }
def RS.step (env : List (ByteArray × ByteArray)) (σ : RS) : RS :=
 match σ.todo.getLast? with
 | none => σ.end_
 | some x => RS.run env { σ with todo := σ.todo.dropLast } x
theorem step_snoc {env : List (ByteArray × ByteArray)} {σ : RS} {T : List Task} {x : Task} (h : σ.todo = T ++ [x]) : σ.step env = RS.run env { σ with todo := T } x := by
 unfold RS.step
 rw [h, List.getLast?_append, List.dropLast_append_of_ne_nil (by simp)]
 simp
theorem step_nil {env : List (ByteArray × ByteArray)} {σ : RS} (h : σ.todo = []) : σ.step env = σ.end_ := by
 unfold RS.step
 rw [h]; rfl
theorem Inv.base {σ : RS} (h : Inv σ) (hn : ¬ σ.halt) : Base σ := by
 have hk : σ.kind = 0 := Decidable.byContradiction fun e => hn (.inl e)
 have hw : σ.waits = false := by cases hw : σ.waits with
  | false => rfl
  | true => exact absurd (.inr hw) hn
 refine ⟨h.buf, h.kd, h.kn, h.nd, fun x hx => ?_, hw⟩
 rcases h.seen (by omega) x hx with h1 | h1
 ·exact h1
 ·rw [hw] at h1; cases h1.1
theorem shape_pop {T : List Task} {x : Task} (h : ∃ (cs : List Cmd) (rs : List Task), T ++ [x] = cs.map Task.cmd ++ rs ∧ (∀ c ∈ cs, CmdOk c) ∧ ∀ x ∈ rs, okR x) :
  (∃ (cs : List Cmd) (rs : List Task), T = cs.map Task.cmd ++ rs ∧ (∀ c ∈ cs, CmdOk c) ∧ ∀ x ∈ rs, okR x) ∧ ((∃ c, x = .cmd c ∧ CmdOk c ∧ ∀ y ∈ T, ∃ c, y = .cmd c) ∨ okR x) := by
 obtain ⟨cs, rs, h1, h2, h3⟩ := h
 rcases List.eq_nil_or_concat rs with rfl | ⟨rs', y, rfl⟩
 ·rw [List.append_nil] at h1
  rcases List.eq_nil_or_concat cs with rfl | ⟨cs', c, rfl⟩
  ·simp at h1
  ·rw [List.concat_eq_append, List.map_append] at h1
   obtain ⟨e1, e2⟩ := List.append_inj' h1 rfl
   simp at e2
   subst e1 e2
   refine ⟨⟨cs', [], by simp, fun c' hc' => h2 c' (by simp [hc']), fun x hx => (by cases hx)⟩, .inl ⟨c, rfl, h2 c (by simp), fun y hy => ?_⟩⟩
   obtain ⟨c', _, rfl⟩ := List.mem_map.1 hy
   exact ⟨c', rfl⟩
 ·rw [List.concat_eq_append, ← List.append_assoc] at h1
  obtain ⟨e1, e2⟩ := List.append_inj' h1 rfl
  simp at e2
  subst e1 e2
  exact ⟨⟨cs, rs', rfl, h2, fun z hz => h3 z (by simp [hz])⟩, .inr (h3 x (by simp))⟩
theorem shape_ext {T ex : List Task} (h : ∃ (cs : List Cmd) (rs : List Task), T = cs.map Task.cmd ++ rs ∧ (∀ c ∈ cs, CmdOk c) ∧ ∀ x ∈ rs, okR x) (he : ∀ x ∈ ex, okR x) : ∃ (cs : List Cmd) (rs : List Task), T ++ ex = cs.map Task.cmd ++ rs ∧ (∀ c ∈ cs, CmdOk c) ∧ ∀ x ∈ rs, okR x := by
 obtain ⟨cs, rs, rfl, h2, h3⟩ := h
 refine ⟨cs, rs ++ ex, by rw [List.append_assoc], h2, fun x hx => ?_⟩
 rcases List.mem_append.1 hx with hx | hx
 ·exact h3 x hx
 ·exact he x hx
theorem Inv_step {σ : RS} (env : List (ByteArray × ByteArray)) (h : Inv σ) (hn : ¬ σ.halt) {T : List Task} {x : Task} (hT : σ.todo = T ++ [x]) : Inv (σ.step env) ∧ mu (σ.step env) < mu σ := by
 have hB0 := h.base hn
 have hB : Base { σ with todo := T } := ⟨hB0.buf, hB0.kd, hB0.kn, hB0.nd, hB0.seen, hB0.w⟩
 have hsh := shape_pop (by rw [← hT]; exact h.todo)
 have hr := run_fin env x (hsh.2.imp (fun ⟨c, e, hc, _⟩ => ⟨c, e, hc⟩) id) hB
 rw [step_snoc hT]
 have hmu : mu { σ with todo := T } + wt x = mu σ := by
  show wts T + (501 - σ.seen.length) * 70000 + wt x = wts σ.todo + _
  rw [hT, wts_app, wts_one]; omega
 have hm := h.mu
 obtain ⟨ex, h1, h2⟩ := hr.1.todo
 have hk0 : σ.kind = 0 := Decidable.byContradiction fun e => hn (.inl e)
 refine ⟨⟨hr.1.buf, ?_, ?_, ?_, hr.1.nd, ?_, ?_, ?_, by omega⟩, by omega⟩
 ·rw [hr.1.known]; exact h.kd
 ·rw [hr.1.known]; exact h.kn
 ·rw [h1]; exact shape_ext hsh.1 h2
 ·intro hk y hy
  rw [hr.1.known]
  exact hr.1.seen hk y hy
 ·intro hw
  rw [hr.1.known]
  have := hr.1.wait hw
  exact ⟨⟨this.1.1, this.1.2.trans hk0⟩, this.2⟩
 ·rcases hr.1.kx with h | h | h
  ·exact .inl (h.trans hk0)
  ·exact .inr (.inl h)
  ·exact .inr (.inr (.inr h))
theorem Inv_end {σ : RS} (h : Inv σ) (hn : ¬ σ.halt) : Inv σ.end_ := by
 have hB := h.base hn
 exact ⟨h.buf, h.kd, h.kn, h.todo, h.nd, fun _ x hx => .inl (hB.seen x hx), fun hw => (by have hw' : σ.waits = true := hw; rw [hB.w] at hw'; cases hw'), .inr (.inr (.inl rfl)), h.mu⟩
def settleF (env : List (ByteArray × ByteArray)) : Nat → RS → RS
 | 0, σ => σ
 | n + 1, σ => if σ.halt then σ else settleF env n (σ.step env)
def RS.settle (env : List (ByteArray × ByteArray)) (σ : RS) : RS := settleF env (mu σ + 2) σ
theorem end_halt (σ : RS) : σ.end_.halt := .inl (by show ¬ (3 : Int) = 0; decide)
theorem settleF_halt {env : List (ByteArray × ByteArray)} {σ : RS} (h : σ.halt) : ∀ n, settleF env n σ = σ
 | 0 => rfl
 | n + 1 => if_pos h
theorem settleF_more {env : List (ByteArray × ByteArray)} : ∀ (n m : Nat) (σ : RS), Inv σ → mu σ + 2 ≤ n → mu σ + 2 ≤ m → settleF env n σ = settleF env m σ := by
 intro n
 induction n with
 | zero => intro m σ _ h; omega
 | succ n ih =>
  intro m σ hI h1 h2
  obtain ⟨m, rfl⟩ : ∃ k, m = k + 1 := ⟨m - 1, by omega⟩
  simp only [settleF]
  split
  ·rfl
  ·rename_i hn
   rcases List.eq_nil_or_concat σ.todo with h | ⟨T, x, h⟩
   ·rw [step_nil h, settleF_halt (end_halt σ), settleF_halt (end_halt σ)]
   ·rw [List.concat_eq_append] at h
    have := Inv_step env hI hn h
    exact ih m _ this.1 (by omega) (by omega)
theorem settle_halt {env : List (ByteArray × ByteArray)} {σ : RS} (h : σ.halt) : σ.settle env = σ := settleF_halt h _
theorem settle_step {env : List (ByteArray × ByteArray)} {σ : RS} (hI : Inv σ) (hn : ¬ σ.halt) {T : List Task} {x : Task} (hT : σ.todo = T ++ [x]) : (σ.step env).settle env = σ.settle env := by
 have h := Inv_step env hI hn hT
 unfold RS.settle
 rw [show settleF env (mu σ + 2) σ = settleF env (mu σ + 1) (σ.step env) from if_neg hn]
 exact settleF_more _ _ _ h.1 (Nat.le_refl _) (by omega)
theorem settle_end {env : List (ByteArray × ByteArray)} {σ : RS} (hn : ¬ σ.halt) (hT : σ.todo = []) : σ.settle env = σ.end_ := by
 unfold RS.settle
 rw [show settleF env (mu σ + 2) σ = settleF env (mu σ + 1) (σ.step env) from if_neg hn, step_nil hT]
 exact settleF_halt (end_halt σ) _
theorem settle_inv {env : List (ByteArray × ByteArray)} : ∀ (n : Nat) (σ : RS), mu σ ≤ n → Inv σ → Inv (σ.settle env) ∧ (σ.settle env).halt := by
 intro n
 induction n with
 | zero =>
  intro σ hm hI
  by_cases hn : σ.halt
  ·rw [settle_halt hn]; exact ⟨hI, hn⟩
  ·rcases List.eq_nil_or_concat σ.todo with h | ⟨T, x, h⟩
   ·rw [settle_end hn h]; exact ⟨Inv_end hI hn, end_halt σ⟩
   ·rw [List.concat_eq_append] at h
    have := Inv_step env hI hn h; omega
 | succ n ih =>
  intro σ hm hI
  by_cases hn : σ.halt
  ·rw [settle_halt hn]; exact ⟨hI, hn⟩
  ·rcases List.eq_nil_or_concat σ.todo with h | ⟨T, x, h⟩
   ·rw [settle_end hn h]; exact ⟨Inv_end hI hn, end_halt σ⟩
   ·rw [List.concat_eq_append] at h
    have := Inv_step env hI hn h
    rw [← settle_step hI hn h]
    exact ih _ (by omega) this.1
end Go.Proofs.YtgcmddaibnimjaaGreatDoor
