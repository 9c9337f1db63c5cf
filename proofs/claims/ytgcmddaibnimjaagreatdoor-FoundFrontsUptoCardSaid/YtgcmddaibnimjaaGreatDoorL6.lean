/- A part of the proof of a law of this seat. No condition of its own. -/
import Derived.Test.YtgcmddaibnimjaaGreatDoorM5
import Derived.Sort.Walk0
import Derived.ProofKit
import Derived.SizedLaws
import Derived.Deep.Slices
import Derived.OpenShut
import Derived.Test.YtgcmddaibnimjaaGreatDoorRows
set_option linter.unusedVariables false
set_option linter.unusedSimpArgs false
set_option maxRecDepth 8000
set_option maxHeartbeats 4000000
namespace Go.Eng
open Go.RowKit
end Go.Eng
namespace Go.Eng
open Go.RowKit
end Go.Eng
namespace Go.Proofs.YtgcmddaibnimjaaGreatDoor
open Go.RowKit Go.Eng
end Go.Proofs.YtgcmddaibnimjaaGreatDoor
namespace Go.Proofs.YtgcmddaibnimjaaGreatDoor
open Go.RowKit Go.Eng
structure SameB (B C : BC) : Prop where
 env : B.C.env = C.C.env
 outs : B.outs = C.outs
 ins : B.ins = C.ins
 asks : B.asks = C.asks
section
variable {B C : BC}
theorem turn_same (h : SameB B C) (β : BS) : β.turn B = β.turn C := by
 unfold BS.turn
 rw [h.env, h.outs, h.ins, h.asks]
theorem goF_same (h : SameB B C) : ∀ (n : Nat) (β : BS), β.goF B n = β.goF C n
 | 0, β => rfl
 | n + 1, β => by
  unfold BS.goF
  rw [turn_same h, goF_same h n]
theorem go_same (h : SameB B C) (β : BS) : β.go B = β.go C := goF_same h _ β
theorem give_same (h : SameB B C) (β : BS) (k : Kn) : β.give B k = β.give C k := by
 unfold BS.give
 rw [h.env]
 simp only [go_same h]
end
end Go.Proofs.YtgcmddaibnimjaaGreatDoor
namespace Go.Proofs.YtgcmddaibnimjaaGreatDoor
open Go.RowKit Go.Eng
def BS.ans1 (B : BC) (ans : ByteArray → Option Kn) (β : BS) : BS := if β.over = true then β else match ans β.asks with
 | none => β
 | some k => (β.give B k).2
def BS.feedA (B : BC) (ans : ByteArray → Option Kn) : Nat → BS → BS
 | 0, β => β
 | n + 1, β => BS.feedA B ans n (β.ans1 B ans)
def AOk (ans : ByteArray → Option Kn) : Prop := ∀ p k, ans p = some k → k.path = p ∧ KOk k
section
variable {B C : BC} {ans : ByteArray → Option Kn}
theorem ans1_over {β : BS} (h : β.over = true) : β.ans1 B ans = β := if_pos h
theorem ans1_none {β : BS} (ho : β.over = false) (h : ans β.asks = none) : β.ans1 B ans = β := by unfold BS.ans1; rw [if_neg (by simp [ho]), h]
theorem ans1_some {β : BS} {k : Kn} (ho : β.over = false) (h : ans β.asks = some k) : β.ans1 B ans = (β.give B k).2 := by unfold BS.ans1; rw [if_neg (by simp [ho]), h]
theorem feedA_fix {β : BS} (h : β.ans1 B ans = β) : ∀ n, β.feedA B ans n = β
 | 0 => rfl
 | n + 1 => by
  show BS.feedA B ans n (β.ans1 B ans) = β
  rw [h]; exact feedA_fix h n
theorem ans1_same (h : SameB B C) (β : BS) : β.ans1 B ans = β.ans1 C ans := by
 unfold BS.ans1
 simp only [give_same h]
theorem feedA_same (h : SameB B C) : ∀ (n : Nat) (β : BS), β.feedA B ans n = β.feedA C ans n
 | 0, β => rfl
 | n + 1, β => by
  show BS.feedA B ans n (β.ans1 B ans) = BS.feedA C ans n (β.ans1 C ans)
  rw [ans1_same h]; exact feedA_same h n _
theorem ans1_ok (ha : AOk ans) {β : BS} (h : BOk B β) : BOk B (β.ans1 B ans) := by
 cases ho : β.over with
 | true => rw [ans1_over ho]; exact h
 | false =>
  cases hk : ans β.asks with
  | none => rw [ans1_none ho hk]; exact h
  | some k =>
   obtain ⟨h1, h2⟩ := ha _ _ hk
   rw [ans1_some ho hk]; exact (give_take h ho h1 h2).2.1
theorem feedA_ok (ha : AOk ans) : ∀ (n : Nat) (β : BS), BOk B β → BOk B (β.feedA B ans n)
 | 0, β, h => h
 | n + 1, β, h => feedA_ok ha n _ (ans1_ok ha h)
theorem ans1_reads (ha : AOk ans) {β : BS} (h : BOk B β) : (β.over = false ∧ ∃ k, ans β.asks = some k ∧ (β.ans1 B ans).reads = β.reads ++ [sumRd k]) ∨ (β.ans1 B ans = β ∧ (β.over = true ∨ ans β.asks = none)) := by
 cases ho : β.over with
 | true => exact .inr ⟨ans1_over ho, .inl rfl⟩
 | false =>
  cases hk : ans β.asks with
  | none => exact .inr ⟨ans1_none ho hk, .inr rfl⟩
  | some k =>
   obtain ⟨h1, h2⟩ := ha _ _ hk
   exact .inl ⟨rfl, k, rfl, by rw [ans1_some ho hk]; exact (give_take h ho h1 h2).2.2⟩
theorem feedA_ends (ha : AOk ans) : ∀ (n : Nat) (β : BS), BOk B β → 501 ≤ β.reads.length + n → (β.feedA B ans n).over = true ∨ ans (β.feedA B ans n).asks = none
 | 0, β, h, hn => by have := reads_le h.j; omega
 | n + 1, β, h, hn => by
  rcases ans1_reads ha h with ⟨h1, k, h2, h3⟩ | ⟨h1, h2⟩
  ·refine feedA_ends ha n (β.ans1 B ans) (ans1_ok ha h) ?_
   rw [h3, List.length_append, List.length_cons, List.length_nil]; omega
  ·rw [feedA_fix h1]; exact h2
end
def ffind (l : List (ByteArray × ByteArray)) (p : ByteArray) : Option (ByteArray × ByteArray) := l.find? fun x => decide (x.1 = p)
def tell (l : List (ByteArray × ByteArray)) (p : ByteArray) : Kn := match ffind l p with
 | none => ⟨p, false, eB⟩
 | some f => ⟨p, true, f.2⟩
def tellA (l : List (ByteArray × ByteArray)) : ByteArray → Option Kn := fun p => some (tell l p)
theorem tell_path (l : List (ByteArray × ByteArray)) (p : ByteArray) : (tell l p).path = p := by unfold tell; split <;> rfl
theorem tellA_ok {l : List (ByteArray × ByteArray)} (h : ∀ x ∈ l, x.2.size ≤ 65536) : AOk (tellA l) := fun p k hk => by
 cases hk
 refine ⟨tell_path l p, ?_⟩
 unfold tell
 split
 ·intro h; cases h
 ·rename_i f hf
  intro _
  exact h f (List.mem_of_find?_eq_some hf)
def mkBC (env : List (ByteArray × ByteArray)) (outs ins asks : List ByteArray) : BC := ⟨⟨0, 0, none, 0, env⟩, 0, 0, outs, ins, asks, none, 0, 0, 0, 0⟩
theorem same_mk {B : BC} {env : List (ByteArray × ByteArray)} {outs ins asks : List ByteArray} (h1 : B.C.env = env) (h2 : B.outs = outs) (h3 : B.ins = ins) (h4 : B.asks = asks) : SameB B (mkBC env outs ins asks) := ⟨h1, h2, h3, h4⟩
def run0 (env : List (ByteArray × ByteArray)) (outs ins asks : List ByteArray) (l : List Cmd) : BS := (BS.start l).go (mkBC env outs ins asks)
def runA (env : List (ByteArray × ByteArray)) (outs ins asks : List ByteArray) (l : List Cmd) (ans : ByteArray → Option Kn) : BS := (run0 env outs ins asks l).feedA (mkBC env outs ins asks) ans 600
def long (l : List (ByteArray × ByteArray)) : Bool := l.any fun x => decide (65536 < x.2.size)
def longK (l : List Kn) : Bool := l.any fun k => k.is && decide (65536 < k.data.size)
def allR (t : ByteArray) (env : List (ByteArray × ByteArray)) (outs ins asks : List ByteArray) (files : List (ByteArray × ByteArray)) : Oc × Int := match commandsE t with
 | .inl (e, _) => (oc0, e)
 | .inr l => if long files = true then (oc0, 6) else ((runA env outs ins asks l (tellA files)).out, 0)
structure Wnt where
 kind : Int
 path : ByteArray
 i : Int
def encWn (x : Wnt) : List Value := [.int .i64 x.kind, .string x.path, .int .i64 x.i]
def w0t : Wnt := ⟨0, eB, 0⟩
def BS.want (β : BS) : Wnt := if β.over = true then w0t else ⟨1, β.asks, 0⟩
def tryR (t : ByteArray) (env : List (ByteArray × ByteArray)) (outs ins asks : List ByteArray) (known : List Kn) : Wnt × Oc × Int := match commandsE t with
 | .inl (e, _) => (w0t, oc0, e)
 | .inr l => if longK known = true then (w0t, oc0, 6) else ((runA env outs ins asks l (kfind known)).want, (runA env outs ins asks l (kfind known)).out, 0)
theorem long_no {l : List (ByteArray × ByteArray)} (h : long l = false) : ∀ x ∈ l, x.2.size ≤ 65536 := fun x hx => by
 have := List.any_eq_false.1 h x hx
 simp at this; omega
theorem longK_no {l : List Kn} (h : longK l = false) : ∀ k ∈ l, KOk k := fun k hk hi => by
 have := List.any_eq_false.1 h k hk
 rw [hi] at this
 simp at this; omega
theorem kfind_aok {l : List Kn} (h : ∀ k ∈ l, KOk k) : AOk (kfind l) := fun p k hk => ⟨(kfind_ok h hk).2, (kfind_ok h hk).1⟩
theorem runA_ok {env : List (ByteArray × ByteArray)} {outs ins asks : List ByteArray} {t : ByteArray} {l : List Cmd} (h : commandsE t = .inr l) {ans : ByteArray → Option Kn} (ha : AOk ans) : BOk (mkBC env outs ins asks) (runA env outs ins asks l ans) ∧ ((runA env outs ins asks l ans).over = true ∨ ans (runA env outs ins asks l ans).asks = none) :=
 ⟨feedA_ok ha _ _ (start_ok' h), feedA_ends ha _ _ (start_ok' h) (by omega)⟩
end Go.Proofs.YtgcmddaibnimjaaGreatDoor
namespace Go.Proofs.YtgcmddaibnimjaaGreatDoor
open Go.RowKit Go.Eng
end Go.Proofs.YtgcmddaibnimjaaGreatDoor
namespace Go.Proofs.YtgcmddaibnimjaaGreatDoor
open Go.RowKit Go.Eng
def aA : ByteArray := ⟨#[97]⟩
def aO : ByteArray := ⟨#[111,117,116,47,111]⟩
def aL : List Cmd := [⟨[kRead, aA], eB⟩, ⟨[kWrite, aO], eB⟩]
def aR : RS := { todo := [.cmd ⟨[kWrite, aO], eB⟩, .got aA .rd], buf := eB, known := [], asks := aA, waits := true, kind := 0, path := eB, data := eB, why := 0, seen := [] }
theorem a_next : (RS.start aL).next [] = (⟨1, aA, eB, 0⟩, aR) := by kernel_rfl
end Go.Proofs.YtgcmddaibnimjaaGreatDoor
namespace Go.Proofs.YtgcmddaibnimjaaGreatDoor
open Go.RowKit Go.Eng
theorem eqF (x y : ByteArray × ByteArray) (d : Nat) (w : World) : (Op.equalIn (d + 3) 66 (.agg (encSt x).toArray) (.agg (encSt y).toArray)).run Tryz.prog w = .ok (decide (x = y)) w := by
 have hS : Tryz.prog.underlying 66 = some (.struct (Tryz.prog.fieldsOf 66)) := by kernel_rfl
 have hp : Tryz.prog.stoodInHeld 66 = false := by kernel_rfl
 rw [show d + 3 = (d + 2) + 1 from rfl, run_equalIn_agg w (d + 2) 66 _ _ hS hp]
 simp only [Program.fieldsOf, Tryz.underlying66, Op.eqFields]
 simp only [ne_eq, String.reduceEq, not_false_eq_true, if_true, Sem.run_bind]
 rw [run_part1 Tryz.isAgg9 (v := .string x.1) rfl, Result.andThen_ok, run_part1 Tryz.isAgg9 (v := .string y.1) rfl, Result.andThen_ok, run_equalIn_string w _ 9 _ _ Tryz.underlying9, Result.andThen_ok, toList_eq]
 have e : (x = y) ↔ (x.1 = y.1 ∧ x.2 = y.2) := by cases x; cases y; simp
 by_cases h1 : x.1 = y.1
 ·simp only [h1, decide_true, Bool.not_true, Bool.false_eq_true, if_false, Sem.run_bind]
  rw [run_part1 Tryz.isAgg9 (v := .string x.2) rfl, Result.andThen_ok, run_part1 Tryz.isAgg9 (v := .string y.2) rfl, Result.andThen_ok, run_equalIn_string w _ 9 _ _ Tryz.underlying9, Result.andThen_ok, toList_eq]
  by_cases h2 : x.2 = y.2
  ·simp [e, h1, h2]
  ·simp [e, h2]
 ·simp [h1, e]
section
variable {w : World} {l : List (Nat × Value)} {o : Oper}
theorem y_nqF {s : Nat} {x y : Operand} {p q : ByteArray × ByteArray} (ho : o.op = .binOp .neq 66 x y s) (hx : evl l x = some (.agg (encSt p).toArray)) (hy : evl l y = some (.agg (encSt q).toArray)) : Yl Tryz.prog o l w (.bool (!decide (p = q))) w := fun n a F => by
 simp only [execOp, ho, F.ev hx, F.ev hy, Sem.run_bind, Sem.run_pure]
 rw [run_eqGuard_agg w _ _ _ _ _ _ Tryz.eqGuardType66, Result.andThen_ok, run_neq_struct, eqF p q 9997]
 rfl
end
end Go.Proofs.YtgcmddaibnimjaaGreatDoor
namespace Go.Proofs.YtgcmddaibnimjaaGreatDoor
open Go.RowKit Go.Eng
theorem fi41_3 : FieldIs Tryz.prog 41 3 3 := fieldIs (z := 0) Tryz.underlying41 rfl rfl rfl Tryz.sizeOf39
end Go.Proofs.YtgcmddaibnimjaaGreatDoor
namespace Go.Proofs.YtgcmddaibnimjaaGreatDoor
open Go.RowKit Go.Eng
theorem sl_at2 {α : Type} {w : World} {z b o : Nat} {enc : α → List Value} {xs : List α} (h : Sl w z enc (some ⟨b, o, none⟩) xs) {j : Nat} (hj : j < xs.length) (i : Nat) (u : Value) (hu : (enc xs[j])[i]? = some u) : w.cell? ⟨b, o + j * z + i, none⟩ = some u := by
 obtain ⟨b', o', h1, _, h2⟩ := h.at_ hj
 cases h1
 exact h2 i u hu
theorem newE_cases {w0 w : World} {v : Value} {env : List (ByteArray × ByteArray)} {outs ins asks : List ByteArray} {cs : List Res} {t : ByteArray} (h : NewE w0 w v env outs ins asks cs (commandsE t)) :
  (∃ e n, commandsE t = .inl (e, n) ∧ ¬ e = 0 ∧ v = .tuple [.pointer none, .int .i64 e].toArray ∧ St w0 w cs) ∨ (∃ l B Hb, commandsE t = .inr l ∧ B.C.env = env ∧ B.outs = outs ∧ B.ins = ins ∧ B.asks = asks ∧ v = .tuple [pt B.bx, .int .i64 0].toArray ∧ BE B Hb ((BS.start l).go B) cs w0 w) := by
 generalize hr : commandsE t = r at h
 match r, h with
 | .inl (e, n), ⟨h1, h2⟩ => exact .inl ⟨e, n, rfl, com_ne hr, h1, h2⟩
 | .inr l, ⟨B, H0, h1, h2, h3, h4, h5, h6⟩ => exact .inr ⟨l, B, H0, rfl, h1, h2, h3, h4, h5, h6⟩
theorem mem_sum {α : Type} (f : α → Nat) {l : List α} {x : α} (h : x ∈ l) : f x ≤ (l.map f).sum := by
 induction l with
 | nil => cases h
 | cons y l ih =>
  rw [List.map_cons, List.sum_cons]
  rcases List.mem_cons.1 h with rfl | h
  ·omega
  ·have := ih h; omega
theorem kz_mem {l : List Kn} {k : Kn} (h : k ∈ l) : k.path.size + k.data.size + 1 ≤ kz l := mem_sum kz1 h
theorem sz1_mem {l : List ByteArray} {x : ByteArray} (h : x ∈ l) : x.size + 1 ≤ sz1 l := mem_sum (fun s : ByteArray => s.size + 1) h
theorem ez1_mem {l : List (ByteArray × ByteArray)} {x : ByteArray × ByteArray} (h : x ∈ l) : x.1.size + x.2.size + 1 ≤ ez1 l := mem_sum (fun x : ByteArray × ByteArray => x.1.size + x.2.size + 1) h
theorem small_of {t : ByteArray} {env : List (ByteArray × ByteArray)} {ins asks outs : List ByteArray} (h : gz t env ins asks outs ≤ 2000) :
  t.size ≤ 1000000 ∧ env.length ≤ 1000000 ∧ (∀ x ∈ env, x.2.size ≤ 1000000000) ∧ (outs.length ≤ 1000000 ∧ ins.length ≤ 1000000 ∧ asks.length ≤ 1000000) ∧ (∀ x ∈ asks, x.size ≤ 1000000) ∧ ∀ x ∈ outs, x.size ≤ 1000000 := by
 have e : lsz (gl ins asks outs) = sz1 ins + (sz1 asks + (sz1 outs + 0)) := rfl
 unfold gz at h
 have h1 := ez1_len env; have h2 := sz1_len ins; have h3 := sz1_len asks; have h4 := sz1_len outs
 refine ⟨by omega, by omega, fun x hx => ?_, ⟨by omega, by omega, by omega⟩, fun x hx => ?_, fun x hx => ?_⟩
 ·have := ez1_mem hx; omega
 ·have := sz1_mem hx; omega
 ·have := sz1_mem hx; omega
theorem bsm_of {B : BC} {env : List (ByteArray × ByteArray)} {outs ins asks : List ByteArray} (h1 : B.C.env = env) (h2 : B.outs = outs) (h3 : B.ins = ins) (h4 : B.asks = asks) (m2 : env.length ≤ 1000000) (m3 : ∀ x ∈ env, x.2.size ≤ 1000000000) (m4 : outs.length ≤ 1000000 ∧ ins.length ≤ 1000000 ∧ asks.length ≤ 1000000) (m5 : ∀ x ∈ asks, x.size ≤ 1000000) (m6 : ∀ x ∈ outs, x.size ≤ 1000000) : BSm B := by
 subst h1 h2 h3 h4; exact ⟨m2, m3, m4, m5, m6⟩
theorem fi41_1 : FieldIs Tryz.prog 41 1 1 := fieldIs (z := 0) Tryz.underlying41 rfl rfl rfl Tryz.sizeOf33
theorem fi66_0 : FieldIs Tryz.prog 66 0 0 := fieldIs (z := 0) Tryz.underlying66 rfl rfl rfl Tryz.sizeOf9
end Go.Proofs.YtgcmddaibnimjaaGreatDoor
namespace Go.Proofs.YtgcmddaibnimjaaGreatDoor
open Go.RowKit Go.Eng
def sameO (p q : Oc) : Bool := decide (p.kind = q.kind) && decide (p.why = q.why) && decide (p.outs = q.outs) && decide (p.reads = q.reads)
theorem sameO_yes {p q : Oc} (h1 : p.kind = q.kind) (h2 : p.why = q.why) (h3 : p.outs = q.outs) (h4 : p.reads = q.reads) : sameO p q = true := by simp [sameO, h1, h2, h3, h4]
theorem sameO_rfl (p : Oc) : sameO p p = true := sameO_yes rfl rfl rfl rfl
theorem sameO_eq {p q : Oc} (h : sameO p q = true) : p = q := by
 simp only [sameO, Bool.and_eq_true, decide_eq_true_eq] at h
 cases p; cases q; simp_all
theorem sameO_no {p q : Oc} (h : ¬ p = q) : sameO p q = false := by
 cases hs : sameO p q
 ·rfl
 ·exact absurd (sameO_eq hs) h
theorem take_eq {α : Type} {l m : List α} {i : Nat} (h1 : i < l.length) (h2 : i < m.length) (h : l.take i = m.take i) (he : l[i] = m[i]) : l.take (i + 1) = m.take (i + 1) := by
 rw [List.take_succ_eq_append_getElem h1, List.take_succ_eq_append_getElem h2, h, he]
theorem c_Same {p q : Oc} {A1 A2 B1 B2 : Option Addr} {c1 c2 d1 d2 : Nat} (w0 : World) (sx1 : Sl w0 2 encSt A1 p.outs) (sx2 : Sl w0 34 encRd A2 p.reads) (sy1 : Sl w0 2 encSt B1 q.outs) (sy2 : Sl w0 34 encRd B2 q.reads) (hl : p.outs.length ≤ 1000000 ∧ p.reads.length ≤ 1000000) : Calls Tryz.prog 21 [.agg (encOc p A1 c1 A2 c2).toArray, .agg (encOc q B1 d1 B2 d2).toArray].toArray w0 (Ret fun v w' => v = .bool (sameO p q) ∧ Below w0.heap.size w0 w') := by
 refine ent Tryz.func21 Tryz.ntmps21 rfl rfl ?_
 intro a F
 have S := St.refl w0
 refine sq fun K1 hK1 => ?_
 refine rg ?_
 refine dbx F S rfl rfl rfl rfl rfl rfl fun a w b2 F S => ?_
 refine dbx F S rfl rfl rfl rfl rfl rfl fun a w b3 F S => ?_
 refine dv F (y_as rfl rfl) rfl rfl rfl fun a F => ?_
 refine dn ?_
 refine tn <| hK1 _ _ ?_
 refine sq fun K2 hK2 => ?_
 refine sq fun K3 hK3 => ?_
 refine rg ?_
 refine dv F (y_fa rfl rfl fi41_0) rfl rfl rfl fun a F => ?_
 refine dv F (y_ld rfl rfl (S.ld (i := 0) rfl rfl Tryz.isAgg3)) rfl rfl rfl fun a F => ?_
 refine dv F (y_fa rfl rfl fi41_0) rfl rfl rfl fun a F => ?_
 refine dv F (y_ld rfl rfl (S.ld (i := 1) rfl rfl Tryz.isAgg3)) rfl rfl rfl fun a F => ?_
 refine dv F (y_in rfl rfl rfl) rfl rfl rfl fun a F => ?_
 refine dv F (y_mv rfl rfl) rfl rfl rfl fun a F => ?_
 refine gsp F 12 rfl (fun h1 => ?_) (fun h1 => ?_)
 ·have g1 := h1
  try simp only [zi1, zi2, zi3, zi4, zi5, zi6, zi7, zi8] at g1
  refine gs F rfl rfl rfl h1 rfl rfl fun a F => ?_
  refine gs F rfl rfl rfl h1 rfl rfl fun a F => ?_
  refine gs F rfl rfl rfl h1 rfl rfl fun a F => ?_
  refine gs F rfl rfl rfl h1 rfl rfl fun a F => ?_
  refine gs F rfl rfl rfl h1 rfl rfl fun a F => ?_
  refine dv F (y_pkt h1 rfl rfl rfl) rfl rfl rfl fun a F => ?_
  refine dv F (y_mv rfl rfl) rfl rfl rfl fun a F => ?_
  refine gs F rfl rfl rfl rfl rfl rfl fun a F => ?_
  refine gs F rfl rfl rfl rfl rfl rfl fun a F => ?_
  refine gs F rfl rfl rfl rfl rfl rfl fun a F => ?_
  refine gs F rfl rfl rfl rfl rfl rfl fun a F => ?_
  refine gs F rfl rfl rfl rfl rfl rfl fun a F => ?_
  refine gs F rfl rfl rfl rfl rfl rfl fun a F => ?_
  refine gs F rfl rfl rfl rfl rfl rfl fun a F => ?_
  refine dv F (y_pkt rfl rfl rfl rfl) rfl rfl rfl fun a F => ?_
  refine dv F (y_mv rfl rfl) rfl rfl rfl fun a F => ?_
  refine gs F rfl rfl rfl rfl rfl rfl fun a F => ?_
  refine gs F rfl rfl rfl rfl rfl rfl fun a F => ?_
  refine gs F rfl rfl rfl rfl rfl rfl fun a F => ?_
  refine gs F rfl rfl rfl rfl rfl rfl fun a F => ?_
  refine gs F rfl rfl rfl rfl rfl rfl fun a F => ?_
  refine gs F rfl rfl rfl rfl rfl rfl fun a F => ?_
  refine gs F rfl rfl rfl rfl rfl rfl fun a F => ?_
  refine dv F (y_pkt rfl rfl rfl rfl) rfl rfl rfl fun a F => ?_
  refine dn ?_
  refine tn <| hK3 _ _ ?_
  refine ct F rfl rfl ?_
  refine sq fun K4 hK4 => ?_
  refine rg ?_
  refine dv F (y_as rfl rfl) rfl rfl rfl fun a F => ?_
  refine dn ?_
  refine tn <| hK4 _ _ ?_
  refine wp_ret ?_
  refine tr <| ?_
  exact rt1 F rfl rfl ⟨congrArg Value.bool (sameO_no fun e => by subst e; simp_all).symm, S.bel⟩
 ·have g1 := h1
  try simp only [zi1, zi2, zi3, zi4, zi5, zi6, zi7, zi8] at g1
  refine gv F rfl rfl rfl h1 (y_fa rfl rfl fi41_1) rfl rfl fun a F => ?_
  refine gv F rfl rfl rfl h1 (y_ld rfl rfl (S.ld (i := 0) rfl rfl Tryz.isAgg33)) rfl rfl fun a F => ?_
  refine gv F rfl rfl rfl h1 (y_fa rfl rfl fi41_1) rfl rfl fun a F => ?_
  refine gv F rfl rfl rfl h1 (y_ld rfl rfl (S.ld (i := 1) rfl rfl Tryz.isAgg33)) rfl rfl fun a F => ?_
  refine gv F rfl rfl rfl h1 (y_in rfl rfl rfl) rfl rfl fun a F => ?_
  refine dv F (y_pkf h1 rfl rfl rfl) rfl rfl rfl fun a F => ?_
  refine dv F (y_mv rfl rfl) rfl rfl rfl fun a F => ?_
  refine gsp F 19 rfl (fun h2 => ?_) (fun h2 => ?_)
  ·have g2 := h2
   try simp only [zi1, zi2, zi3, zi4, zi5, zi6, zi7, zi8] at g2
   refine gs F rfl rfl rfl h2 rfl rfl fun a F => ?_
   refine gs F rfl rfl rfl h2 rfl rfl fun a F => ?_
   refine gs F rfl rfl rfl h2 rfl rfl fun a F => ?_
   refine gs F rfl rfl rfl h2 rfl rfl fun a F => ?_
   refine gs F rfl rfl rfl h2 rfl rfl fun a F => ?_
   refine gs F rfl rfl rfl h2 rfl rfl fun a F => ?_
   refine gs F rfl rfl rfl h2 rfl rfl fun a F => ?_
   refine dv F (y_pkt h2 rfl rfl rfl) rfl rfl rfl fun a F => ?_
   refine dv F (y_mv rfl rfl) rfl rfl rfl fun a F => ?_
   refine gs F rfl rfl rfl rfl rfl rfl fun a F => ?_
   refine gs F rfl rfl rfl rfl rfl rfl fun a F => ?_
   refine gs F rfl rfl rfl rfl rfl rfl fun a F => ?_
   refine gs F rfl rfl rfl rfl rfl rfl fun a F => ?_
   refine gs F rfl rfl rfl rfl rfl rfl fun a F => ?_
   refine gs F rfl rfl rfl rfl rfl rfl fun a F => ?_
   refine gs F rfl rfl rfl rfl rfl rfl fun a F => ?_
   refine dv F (y_pkt rfl rfl rfl rfl) rfl rfl rfl fun a F => ?_
   refine dn ?_
   refine tn <| hK3 _ _ ?_
   refine ct F rfl rfl ?_
   refine sq fun K5 hK5 => ?_
   refine rg ?_
   refine dv F (y_as rfl rfl) rfl rfl rfl fun a F => ?_
   refine dn ?_
   refine tn <| hK5 _ _ ?_
   refine wp_ret ?_
   refine tr <| ?_
   exact rt1 F rfl rfl ⟨congrArg Value.bool (sameO_no fun e => by subst e; simp_all).symm, S.bel⟩
  ·have g2 := h2
   try simp only [zi1, zi2, zi3, zi4, zi5, zi6, zi7, zi8] at g2
   refine gv F rfl rfl rfl h2 (y_fa rfl rfl fi41_2) rfl rfl fun a F => ?_
   refine gv F rfl rfl rfl h2 (y_ld rfl rfl (S.ld (i := 0) rfl rfl Tryz.isAgg38)) rfl rfl fun a F => ?_
   refine gv F rfl rfl rfl h2 (y_ln rfl rfl Tryz.underlying38) rfl rfl fun a F => ?_
   refine gv F rfl rfl rfl h2 (y_fa rfl rfl fi41_2) rfl rfl fun a F => ?_
   refine gv F rfl rfl rfl h2 (y_ld rfl rfl (S.ld (i := 1) rfl rfl Tryz.isAgg38)) rfl rfl fun a F => ?_
   refine gv F rfl rfl rfl h2 (y_ln rfl rfl Tryz.underlying38) rfl rfl fun a F => ?_
   refine gv F rfl rfl rfl h2 (y_in rfl rfl rfl) rfl rfl fun a F => ?_
   refine dv F (y_pkf h2 rfl rfl rfl) rfl rfl rfl fun a F => ?_
   refine dv F (y_mv rfl rfl) rfl rfl rfl fun a F => ?_
   refine gsp F 28 rfl (fun h3 => ?_) (fun h3 => ?_)
   ·have g3 := h3
    try simp only [zi1, zi2, zi3, zi4, zi5, zi6, zi7, zi8] at g3
    refine gs F rfl rfl rfl h3 rfl rfl fun a F => ?_
    refine gs F rfl rfl rfl h3 rfl rfl fun a F => ?_
    refine gs F rfl rfl rfl h3 rfl rfl fun a F => ?_
    refine gs F rfl rfl rfl h3 rfl rfl fun a F => ?_
    refine gs F rfl rfl rfl h3 rfl rfl fun a F => ?_
    refine gs F rfl rfl rfl h3 rfl rfl fun a F => ?_
    refine gs F rfl rfl rfl h3 rfl rfl fun a F => ?_
    refine dv F (y_pkt h3 rfl rfl rfl) rfl rfl rfl fun a F => ?_
    refine dn ?_
    refine tn <| hK3 _ _ ?_
    refine ct F rfl rfl ?_
    refine sq fun K6 hK6 => ?_
    refine rg ?_
    refine dv F (y_as rfl rfl) rfl rfl rfl fun a F => ?_
    refine dn ?_
    refine tn <| hK6 _ _ ?_
    refine wp_ret ?_
    refine tr <| ?_
    exact rt1 F rfl rfl ⟨congrArg Value.bool (sameO_no fun e => by subst e; simp_all).symm, S.bel⟩
   ·have g3 := h3
    try simp only [zi1, zi2, zi3, zi4, zi5, zi6, zi7, zi8] at g3
    refine gv F rfl rfl rfl h3 (y_fa rfl rfl fi41_3) rfl rfl fun a F => ?_
    refine gv F rfl rfl rfl h3 (y_ld rfl rfl (S.ld (i := 0) rfl rfl Tryz.isAgg39)) rfl rfl fun a F => ?_
    refine gv F rfl rfl rfl h3 (y_ln rfl rfl Tryz.underlying39) rfl rfl fun a F => ?_
    refine gv F rfl rfl rfl h3 (y_fa rfl rfl fi41_3) rfl rfl fun a F => ?_
    refine gv F rfl rfl rfl h3 (y_ld rfl rfl (S.ld (i := 1) rfl rfl Tryz.isAgg39)) rfl rfl fun a F => ?_
    refine gv F rfl rfl rfl h3 (y_ln rfl rfl Tryz.underlying39) rfl rfl fun a F => ?_
    refine gv F rfl rfl rfl h3 (y_in rfl rfl rfl) rfl rfl fun a F => ?_
    refine dv F (y_pkf h3 rfl rfl rfl) rfl rfl rfl fun a F => ?_
    refine dn ?_
    refine tn <| hK3 _ _ ?_
    refine cb F rfl (fun hhd => ?_) (fun hhd => ?_)
    ·have hno : ¬ p = q := by
      intro e
      subst e
      simp at hhd
     refine sq fun K7 hK7 => ?_
     refine rg ?_
     refine dv F (y_as rfl rfl) rfl rfl rfl fun a F => ?_
     refine dn ?_
     refine tn <| hK7 _ _ ?_
     refine wp_ret ?_
     refine tr <| ?_
     exact rt1 F rfl rfl ⟨congrArg Value.bool (sameO_no fun e => by subst e; simp_all).symm, S.bel⟩
    ·obtain ⟨hk, hw, ho, hr⟩ : p.kind = q.kind ∧ p.why = q.why ∧ p.outs.length = q.outs.length ∧ p.reads.length = q.reads.length := by
      simp only [decide_eq_true_eq, decide_eq_false_iff_not, Bool.not_eq_true', Bool.not_eq_false'] at *
      refine ⟨by assumption, by assumption, by omega, by omega⟩
     refine wp_skip ?_
     refine tn <| hK2 _ _ ?_
     refine sq fun K8 hK8 => ?_
     refine sq fun K9 hK9 => ?_
     refine rg ?_
     refine dv F (y_fa rfl rfl fi41_2) rfl rfl rfl fun a F => ?_
     refine dv F (y_ld rfl rfl (S.ld (i := 0) rfl rfl Tryz.isAgg38)) rfl rfl rfl fun a F => ?_
     refine dv F (y_ln rfl rfl Tryz.underlying38) rfl rfl rfl fun a F => ?_
     refine dv F (y_mv rfl rfl) rfl rfl rfl fun a F => ?_
     refine dn ?_
     refine tn <| hK9 _ _ ?_
     refine bl ?_
     refine lp (fun m a w => ∃ i : Nat, m = p.outs.length - i ∧ (i ≤ p.outs.length) ∧ (p.outs.take i = q.outs.take i) ∧ Fr 73 a [(2, pt b2), (3, pt b3), (38, .slice A1 p.outs.length c1), (39, .int .i64 (p.outs.length : Int)), (40, .int .i64 (i : Int))] ∧ St w0 w [bk b2 41 (encOc p A1 c1 A2 c2), bk b3 41 (encOc q B1 d1 B2 d2)]) (p.outs.length) ?_ ?_
     ·exact ⟨0, rfl, Nat.zero_le _, rfl, F.sub _ ⟨rfl, rfl, rfl, rfl, rfl, trivial⟩, S.pick [0, 1] _ ⟨rfl, rfl, trivial⟩ rfl⟩
     ·repeat clear S
      repeat clear F
      rintro m a w ⟨i, hm, hi, he, F, S⟩
      refine sq fun K10 hK10 => ?_
      refine rg ?_
      refine dv F (y_lt rfl rfl rfl) rfl rfl rfl fun a F => ?_
      refine dn ?_
      refine tn <| hK10 _ _ ?_
      refine sq fun K11 hK11 => ?_
      refine cd F rfl (fun hlt => ?_) (fun hlt => ?_)
      ·refine wp_skip ?_
       refine tn <| hK11 _ _ ?_
       refine sq fun K12 hK12 => ?_
       refine bl ?_
       refine sq fun K13 hK13 => ?_
       replace hlt : i < p.outs.length := by omega
       have hlt2 : i < q.outs.length := by omega
       obtain ⟨ab, ao, rfl, -, -⟩ := sx1.at_ hlt
       obtain ⟨bb, bo, rfl, -, -⟩ := sy1.at_ hlt2
       refine rg ?_
       refine dv F (y_mv rfl rfl) rfl rfl rfl fun a F => ?_
       refine dv F (y_as rfl rfl) rfl rfl rfl fun a F => ?_
       refine dn ?_
       refine tn <| hK13 _ _ ?_
       refine sq fun K14 hK14 => ?_
       refine rq (C := fun w => St _ w _) Tryz.mixed (by kernel_rfl) (S.drewN 1) ?_
       refine qv F (fun w S => y_fa rfl rfl fi41_2) rfl rfl rfl fun a F => ?_
       refine qv F (fun w S => y_ld rfl rfl (S.ld (i := 0) rfl rfl Tryz.isAgg38)) rfl rfl rfl fun a F => ?_
       refine qv F (fun w S => y_mv rfl rfl) rfl rfl rfl fun a F => ?_
       refine qv F (fun w S => y_ia rfl rfl rfl rfl Tryz.underlying38 Tryz.sizeOf66 i rfl hlt) rfl rfl rfl fun a F => ?_
       refine qv F (fun w S => y_ld rfl rfl (lda Tryz.isAgg66 Tryz.sizeOf66 (lenSt _) (sl_at2 (sx1.st S) hlt))) rfl rfl rfl fun a F => ?_
       refine qv F (fun w S => y_fa rfl rfl fi41_2) rfl rfl rfl fun a F => ?_
       refine qv F (fun w S => y_ld rfl rfl (S.ld (i := 1) rfl rfl Tryz.isAgg38)) rfl rfl rfl fun a F => ?_
       refine qv F (fun w S => y_mv rfl rfl) rfl rfl rfl fun a F => ?_
       refine qv F (fun w S => y_ia rfl rfl rfl rfl Tryz.underlying38 Tryz.sizeOf66 i rfl hlt2) rfl rfl rfl fun a F => ?_
       refine qv F (fun w S => y_ld rfl rfl (lda Tryz.isAgg66 Tryz.sizeOf66 (lenSt _) (sl_at2 (sy1.st S) hlt2))) rfl rfl rfl fun a F => ?_
       refine qv F (fun w S => y_nqF rfl rfl rfl) rfl rfl rfl fun a F => ?_
       refine qn fun w S => ?_
       refine tn <| hK14 _ _ ?_
       refine cb F rfl (fun hne => ?_) (fun hne => ?_)
       ·refine sq fun K15 hK15 => ?_
        refine rg ?_
        refine dv F (y_as rfl rfl) rfl rfl rfl fun a F => ?_
        refine dn ?_
        refine tn <| hK15 _ _ ?_
        refine wp_ret ?_
        refine br <| tr <| lr <| br <| tr <| ?_
        exact rt1 F rfl rfl ⟨congrArg Value.bool (sameO_no fun e => by subst e; simp at hne).symm, S.bel⟩
       ·refine wp_skip ?_
        refine bn <| tn <| hK12 _ _ ?_
        refine rg ?_
        refine dv F (y_add rfl rfl rfl (by omega)) rfl rfl rfl fun a F => ?_
        refine dv F (y_mv rfl rfl) rfl rfl rfl fun a F => ?_
        refine dn ?_
        exact ln (by omega) ⟨i + 1, rfl, (by omega), (take_eq hlt hlt2 he (by simpa using hne)), F.sub _ ⟨rfl, rfl, rfl, rfl, rfl, trivial⟩, S.pick [0, 1] _ ⟨rfl, rfl, trivial⟩ rfl⟩
      ·refine wp_exit ?_
       refine tx <| lx <| bh <| tn <| hK8 _ _ ?_
       refine sq fun K16 hK16 => ?_
       refine sq fun K17 hK17 => ?_
       refine rg ?_
       refine dv F (y_fa rfl rfl fi41_3) rfl rfl rfl fun a F => ?_
       refine dv F (y_ld rfl rfl (S.ld (i := 0) rfl rfl Tryz.isAgg39)) rfl rfl rfl fun a F => ?_
       refine dv F (y_ln rfl rfl Tryz.underlying39) rfl rfl rfl fun a F => ?_
       refine dv F (y_mv rfl rfl) rfl rfl rfl fun a F => ?_
       refine dn ?_
       refine tn <| hK17 _ _ ?_
       refine bl ?_
       refine lp (fun m a w => ∃ j : Nat, m = p.reads.length - j ∧ (j ≤ p.reads.length) ∧ (p.reads.take j = q.reads.take j) ∧ Fr 73 a [(2, pt b2), (3, pt b3), (56, .slice A2 p.reads.length c2), (57, .int .i64 (p.reads.length : Int)), (58, .int .i64 (j : Int))] ∧ St w0 w [bk b2 41 (encOc p A1 c1 A2 c2), bk b3 41 (encOc q B1 d1 B2 d2)]) (p.reads.length) ?_ ?_
       ·exact ⟨0, rfl, Nat.zero_le _, rfl, F.sub _ ⟨rfl, rfl, rfl, rfl, rfl, trivial⟩, S.pick [0, 1] _ ⟨rfl, rfl, trivial⟩ rfl⟩
       ·repeat clear S
        repeat clear F
        rintro m a w ⟨j, hm, hj, he2, F, S⟩
        refine sq fun K18 hK18 => ?_
        refine rg ?_
        refine dv F (y_lt rfl rfl rfl) rfl rfl rfl fun a F => ?_
        refine dn ?_
        refine tn <| hK18 _ _ ?_
        refine sq fun K19 hK19 => ?_
        refine cd F rfl (fun hlt => ?_) (fun hlt => ?_)
        ·refine wp_skip ?_
         refine tn <| hK19 _ _ ?_
         refine sq fun K20 hK20 => ?_
         refine bl ?_
         refine sq fun K21 hK21 => ?_
         replace hlt : j < p.reads.length := by omega
         have hlt2 : j < q.reads.length := by omega
         obtain ⟨ab, ao, rfl, -, -⟩ := sx2.at_ hlt
         obtain ⟨bb, bo, rfl, -, -⟩ := sy2.at_ hlt2
         refine rg ?_
         refine dv F (y_mv rfl rfl) rfl rfl rfl fun a F => ?_
         refine dv F (y_as rfl rfl) rfl rfl rfl fun a F => ?_
         refine dn ?_
         refine tn <| hK21 _ _ ?_
         refine sq fun K22 hK22 => ?_
         refine rq (C := fun w => St _ w _) Tryz.mixed (by kernel_rfl) (S.drewN 1) ?_
         refine qv F (fun w S => y_fa rfl rfl fi41_3) rfl rfl rfl fun a F => ?_
         refine qv F (fun w S => y_ld rfl rfl (S.ld (i := 0) rfl rfl Tryz.isAgg39)) rfl rfl rfl fun a F => ?_
         refine qv F (fun w S => y_mv rfl rfl) rfl rfl rfl fun a F => ?_
         refine qv F (fun w S => y_ia rfl rfl rfl rfl Tryz.underlying39 Tryz.sizeOf52 j rfl hlt) rfl rfl rfl fun a F => ?_
         refine qv F (fun w S => y_ld rfl rfl (lda Tryz.isAgg52 Tryz.sizeOf52 (len37 _) (sl_at2 (sx2.st S) hlt))) rfl rfl rfl fun a F => ?_
         refine qv F (fun w S => y_fa rfl rfl fi41_3) rfl rfl rfl fun a F => ?_
         refine qv F (fun w S => y_ld rfl rfl (S.ld (i := 1) rfl rfl Tryz.isAgg39)) rfl rfl rfl fun a F => ?_
         refine qv F (fun w S => y_mv rfl rfl) rfl rfl rfl fun a F => ?_
         refine qv F (fun w S => y_ia rfl rfl rfl rfl Tryz.underlying39 Tryz.sizeOf52 j rfl hlt2) rfl rfl rfl fun a F => ?_
         refine qv F (fun w S => y_ld rfl rfl (lda Tryz.isAgg52 Tryz.sizeOf52 (len37 _) (sl_at2 (sy2.st S) hlt2))) rfl rfl rfl fun a F => ?_
         refine qv F (fun w S => y_ne37 rfl rfl rfl) rfl rfl rfl fun a F => ?_
         refine qn fun w S => ?_
         refine tn <| hK22 _ _ ?_
         refine cb F rfl (fun hne => ?_) (fun hne => ?_)
         ·refine sq fun K23 hK23 => ?_
          refine rg ?_
          refine dv F (y_as rfl rfl) rfl rfl rfl fun a F => ?_
          refine dn ?_
          refine tn <| hK23 _ _ ?_
          refine wp_ret ?_
          refine br <| tr <| lr <| br <| tr <| ?_
          exact rt1 F rfl rfl ⟨congrArg Value.bool (sameO_no fun e => by subst e; simp at hne).symm, S.bel⟩
         ·refine wp_skip ?_
          refine bn <| tn <| hK20 _ _ ?_
          refine rg ?_
          refine dv F (y_add rfl rfl rfl (by omega)) rfl rfl rfl fun a F => ?_
          refine dv F (y_mv rfl rfl) rfl rfl rfl fun a F => ?_
          refine dn ?_
          exact ln (by omega) ⟨j + 1, rfl, (by omega), (take_eq hlt hlt2 he2 (by simpa using hne)), F.sub _ ⟨rfl, rfl, rfl, rfl, rfl, trivial⟩, S.pick [0, 1] _ ⟨rfl, rfl, trivial⟩ rfl⟩
        ·refine wp_exit ?_
         refine tx <| lx <| bh <| tn <| hK16 _ _ ?_
         refine sq fun K24 hK24 => ?_
         refine rg ?_
         refine dv F (y_as rfl rfl) rfl rfl rfl fun a F => ?_
         refine dn ?_
         refine tn <| hK24 _ _ ?_
         refine wp_ret ?_
         refine ?_
         exact rt1 F rfl rfl ⟨congrArg Value.bool (sameO_yes hk hw (by rw [List.take_of_length_le (by omega), List.take_of_length_le (by omega)] at he; exact he) (by rw [List.take_of_length_le (by omega), List.take_of_length_le (by omega)] at he2; exact he2)).symm, S.bel⟩
end Go.Proofs.YtgcmddaibnimjaaGreatDoor
namespace Go.Proofs.YtgcmddaibnimjaaGreatDoor
open Go.RowKit Go.Eng
theorem bdKz (p d : ByteArray) (w : World) : (Instr.build 55 [(0, .string p), (1, .bool true), (2, .string d)].toArray).run Tryz.prog w = .ok (.agg (encK ⟨p, true, d⟩).toArray) w := by kernel_rfl
end Go.Proofs.YtgcmddaibnimjaaGreatDoor
namespace Go.Proofs.YtgcmddaibnimjaaGreatDoor
open Go.RowKit Go.Eng
theorem bd55z (w : World) : (Instr.build 55 [].toArray).run Tryz.prog w = .ok (.agg (encK k0).toArray) w := by kernel_rfl
theorem bd55p (p : ByteArray) (w : World) : (Instr.build 55 [(0, .string p)].toArray).run Tryz.prog w = .ok (.agg (encK ⟨p, false, eB⟩).toArray) w := by kernel_rfl
def ansV : Option Kn → Value
 | none => .tuple [.agg (encK k0).toArray, .bool false].toArray
 | some k => .tuple [.agg (encK k).toArray, .bool true].toArray
theorem idx_pos {α : Type} {p : α → Bool} {xs : List α} (h : ¬ idx p xs < 0) : ∃ i, i < xs.length ∧ idx p xs = (i : Int) := by
 unfold idx at h ⊢
 cases hf : xs.findIdx? p with
 | none => rw [hf] at h; exact absurd (by decide) h
 | some i => exact ⟨i, (List.findIdx?_eq_some_iff_getElem.1 hf).1, rfl⟩
theorem find_idx {α : Type} (p : α → Bool) (xs : List α) : xs.find? p = match xs.findIdx? p with
  | none => none
  | some i => xs[i]? := by
 cases hf : xs.findIdx? p with
 | none =>
  rw [List.findIdx?_eq_none_iff] at hf
  exact List.find?_eq_none.2 fun x hx => by simpa using hf x hx
 | some i =>
  obtain ⟨hi, h1, h2⟩ := List.findIdx?_eq_some_iff_getElem.1 hf
  show _ = xs[i]?
  have e : xs = xs.take i ++ (xs[i] :: xs.drop (i + 1)) := by rw [← List.drop_eq_getElem_cons hi, List.take_append_drop]
  rw [List.getElem?_eq_getElem hi]
  conv => lhs; rw [e]
  rw [List.find?_append, List.find?_eq_none.2, List.find?_cons_of_pos h1]
  ·rfl
  ·intro x hx
   obtain ⟨j, hj, rfl⟩ := List.getElem_of_mem hx
   have hj' : j < i := by rw [List.length_take] at hj; omega
   rw [List.getElem_take]
   simpa using h2 j hj'
theorem kfind_idx_none {xs : List Kn} {p : ByteArray} (h : idx (fun k : Kn => decide (k.path = p)) xs < 0) : kfind xs p = none := by
 unfold kfind
 rw [find_idx, idx_none h]
theorem kfind_idx_some {xs : List Kn} {p : ByteArray} {i : Nat} (hi : i < xs.length) (h : idx (fun k : Kn => decide (k.path = p)) xs = (i : Int)) : kfind xs p = some xs[i] := by
 unfold kfind
 rw [find_idx, idx_is h]
 exact List.getElem?_eq_getElem hi
theorem tell_idx_none {xs : List (ByteArray × ByteArray)} {p : ByteArray} (h : idx (fun x : ByteArray × ByteArray => decide (x.1 = p)) xs < 0) : tellA xs p = some ⟨p, false, eB⟩ := by
 unfold tellA tell ffind
 rw [find_idx, idx_none h]
theorem tell_idx_some {xs : List (ByteArray × ByteArray)} {p : ByteArray} {i : Nat} (hi : i < xs.length) (h : idx (fun x : ByteArray × ByteArray => decide (x.1 = p)) xs = (i : Int)) : tellA xs p = some ⟨p, true, xs[i].2⟩ := by
 unfold tellA tell ffind
 rw [find_idx, idx_is h]
 show some (match xs[i]? with | none => _ | some f => _) = _
 rw [List.getElem?_eq_getElem hi]
theorem fi66_1 : FieldIs Tryz.prog 66 1 1 := fieldIs (z := 0) Tryz.underlying66 rfl rfl rfl Tryz.sizeOf9
theorem c_IndexFuncK {A : Option Addr} {c : Nat} {xs : List Kn} (w0 : World) (p : Kn → Bool) (g : Nat) (cap : List Value) (he : ∀ (args : Array Value) (w : World), (callFunc g args).run Tryz.prog w = .ok (.enter g args) w) (hp : ∀ x ∈ xs, ∀ (W : World), Below w0.heap.size w0 W → Calls Tryz.prog g ([Value.agg (encK x).toArray] ++ cap).toArray W (Ret fun v w' => v = .bool (p x) ∧ Below W.heap.size W w')) (hA : Sl w0 3 encK A xs) (hn : xs.length ≤ 140737488351232) : Calls Tryz.prog 79 [.slice A xs.length c, .func (.func g) #[] cap.toArray].toArray w0 (Ret fun v w' => v = .int .i64 (idx p xs) ∧ Below w0.heap.size w0 w') := by
 refine ent Tryz.func79 Tryz.ntmps79 rfl rfl ?_
 intro a F
 have S := St.refl w0
 refine sq fun K1 hK1 => ?_
 refine rg ?_
 refine dv F (y_as rfl rfl) rfl rfl rfl fun a F => ?_
 refine dn ?_
 refine tn <| hK1 _ _ ?_
 refine sq fun K2 hK2 => ?_
 refine sq fun K3 hK3 => ?_
 refine rg ?_
 refine dv F (y_mv rfl rfl) rfl rfl rfl fun a F => ?_
 refine dv F (y_ln rfl rfl Tryz.underlying28) rfl rfl rfl fun a F => ?_
 refine dv F (y_mv rfl rfl) rfl rfl rfl fun a F => ?_
 refine dn ?_
 refine tn <| hK3 _ _ ?_
 refine bl ?_
 refine lp (fun m a w => ∃ i : Nat, m = xs.length - i ∧ (i ≤ xs.length) ∧ (∀ (j : Nat) (hj : j < xs.length), j < i → p xs[j] = false) ∧ Fr 19 a [(0, .slice A xs.length c), (1, .func (.func g) #[] cap.toArray), (7, .int .i64 (xs.length : Int)), (8, .int .i64 (i : Int))] ∧ St w0 w []) (xs.length) ?_ ?_
 ·exact ⟨0, rfl, Nat.zero_le _, fun _ _ h => absurd h (Nat.not_lt_zero _), F.sub _ ⟨rfl, rfl, rfl, rfl, trivial⟩, S.pick [] _ trivial rfl⟩
 ·rintro m a w ⟨i, hm, hi, hno, F, S⟩
  refine sq fun K4 hK4 => ?_
  refine rg ?_
  refine dv F (y_lt rfl rfl rfl) rfl rfl rfl fun a F => ?_
  refine dn ?_
  refine tn <| hK4 _ _ ?_
  refine sq fun K5 hK5 => ?_
  refine cd F rfl (fun h1 => ?_) (fun h1 => ?_)
  ·refine wp_skip ?_
   refine tn <| hK5 _ _ ?_
   refine sq fun K6 hK6 => ?_
   refine bl ?_
   refine sq fun K7 hK7 => ?_
   refine rg ?_
   refine dv F (y_mv rfl rfl) rfl rfl rfl fun a F => ?_
   refine dv F (y_as rfl rfl) rfl rfl rfl fun a F => ?_
   refine dn ?_
   refine tn <| hK7 _ _ ?_
   refine sq fun K8 hK8 => ?_
   refine rg ?_
   refine dv F (y_mv rfl rfl) rfl rfl rfl fun a F => ?_
   refine dv F (y_mv rfl rfl) rfl rfl rfl fun a F => ?_
   refine dv F (y_mv rfl rfl) rfl rfl rfl fun a F => ?_
   have hlt : i < xs.length := by omega
   obtain ⟨ab, ao, rfl, hab, hcell⟩ := (hA.st S).at_ hlt
   refine dv F (y_ia rfl rfl rfl rfl Tryz.underlying28 Tryz.sizeOf55 i rfl hlt) rfl rfl rfl fun a F => ?_
   refine dv F (y_ld rfl rfl (lda Tryz.isAgg55 Tryz.sizeOf55 (lenK _) hcell)) rfl rfl rfl fun a F => ?_
   refine dc F (c_f rfl rfl rfl he) rfl rfl rfl (hp _ (List.getElem_mem hlt) _ S.bel) fun a v w' hr F => ?_
   obtain ⟨rfl, hb⟩ := hr
   replace S := S.call hb
   refine dn ?_
   refine tn <| hK8 _ _ ?_
   refine cb F rfl (fun h2 => ?_) (fun h2 => ?_)
   ·refine sq fun K9 hK9 => ?_
    refine rg ?_
    refine dv F (y_mv rfl rfl) rfl rfl rfl fun a F => ?_
    refine dv F (y_as rfl rfl) rfl rfl rfl fun a F => ?_
    refine dn ?_
    refine tn <| hK9 _ _ ?_
    refine wp_ret ?_
    refine br <| tr <| lr <| br <| tr <| ?_
    exact rt1 F rfl rfl ⟨by rw [idx_hit p xs i hlt h2 hno], S.bel⟩
   ·refine wp_skip ?_
    refine bn <| tn <| hK6 _ _ ?_
    refine rg ?_
    refine dv F (y_add rfl rfl rfl (by omega)) rfl rfl rfl fun a F => ?_
    refine dv F (y_mv rfl rfl) rfl rfl rfl fun a F => ?_
    refine dn ?_
    exact ln (by omega) ⟨i + 1, rfl, by omega, allto hno hlt h2, F.sub _ ⟨rfl, rfl, rfl, rfl, trivial⟩, S.pick [] _ trivial rfl⟩
  ·refine wp_exit ?_
   refine tx <| lx <| bh <| tn <| hK2 _ _ ?_
   refine sq fun K10 hK10 => ?_
   refine rg ?_
   refine dv F (y_as rfl rfl) rfl rfl rfl fun a F => ?_
   refine dn ?_
   refine tn <| hK10 _ _ ?_
   refine wp_ret ?_
   refine ?_
   exact rt1 F rfl rfl ⟨by rw [idx_miss p xs fun j hj => hno j hj (by omega)], S.bel⟩
theorem c_ContainsFuncK {A : Option Addr} {c : Nat} {xs : List Kn} (w0 : World) (p : Kn → Bool) (g : Nat) (cap : List Value) (he : ∀ (args : Array Value) (w : World), (callFunc g args).run Tryz.prog w = .ok (.enter g args) w) (hp : ∀ x ∈ xs, ∀ (W : World), Below w0.heap.size w0 W → Calls Tryz.prog g ([Value.agg (encK x).toArray] ++ cap).toArray W (Ret fun v w' => v = .bool (p x) ∧ Below W.heap.size W w')) (hA : Sl w0 3 encK A xs) (hn : xs.length ≤ 140737488351232) : Calls Tryz.prog 74 [.slice A xs.length c, .func (.func g) #[] cap.toArray].toArray w0 (Ret fun v w' => v = .bool (xs.any p) ∧ Below w0.heap.size w0 w') := by
 refine ent Tryz.func74 Tryz.ntmps74 rfl rfl ?_
 intro a F
 have S := St.refl w0
 refine sq fun K1 hK1 => ?_
 refine rg ?_
 refine dv F (y_as rfl rfl) rfl rfl rfl fun a F => ?_
 refine dn ?_
 refine tn <| hK1 _ _ ?_
 refine sq fun K2 hK2 => ?_
 refine rg ?_
 refine dv F (y_mv rfl rfl) rfl rfl rfl fun a F => ?_
 refine dv F (y_mv rfl rfl) rfl rfl rfl fun a F => ?_
 refine dc F (c_f rfl rfl rfl Tryz.call79) rfl rfl rfl (c_IndexFuncK _ p g cap he hp (hA.st S) hn) fun a v w' hr F => ?_
 obtain ⟨rfl, hb⟩ := hr
 replace S := S.call hb
 refine dv F (y_ge rfl rfl rfl) rfl rfl rfl fun a F => ?_
 refine dv F (y_as rfl rfl) rfl rfl rfl fun a F => ?_
 refine dn ?_
 refine tn <| hK2 _ _ ?_
 refine wp_ret ?_
 refine ?_
 exact rt1 F rfl rfl ⟨by rw [idx_any], S.bel⟩
theorem c_IndexFuncF {A : Option Addr} {c : Nat} {xs : List (ByteArray × ByteArray)} (w0 : World) (p : (ByteArray × ByteArray) → Bool) (g : Nat) (cap : List Value) (he : ∀ (args : Array Value) (w : World), (callFunc g args).run Tryz.prog w = .ok (.enter g args) w) (hp : ∀ x ∈ xs, ∀ (W : World), Below w0.heap.size w0 W → Calls Tryz.prog g ([Value.agg (encSt x).toArray] ++ cap).toArray W (Ret fun v w' => v = .bool (p x) ∧ Below W.heap.size W w')) (hA : Sl w0 2 encSt A xs) (hn : xs.length ≤ 140737488351232) : Calls Tryz.prog 84 [.slice A xs.length c, .func (.func g) #[] cap.toArray].toArray w0 (Ret fun v w' => v = .int .i64 (idx p xs) ∧ Below w0.heap.size w0 w') := by
 refine ent Tryz.func84 Tryz.ntmps84 rfl rfl ?_
 intro a F
 have S := St.refl w0
 refine sq fun K1 hK1 => ?_
 refine rg ?_
 refine dv F (y_as rfl rfl) rfl rfl rfl fun a F => ?_
 refine dn ?_
 refine tn <| hK1 _ _ ?_
 refine sq fun K2 hK2 => ?_
 refine sq fun K3 hK3 => ?_
 refine rg ?_
 refine dv F (y_mv rfl rfl) rfl rfl rfl fun a F => ?_
 refine dv F (y_ln rfl rfl Tryz.underlying38) rfl rfl rfl fun a F => ?_
 refine dv F (y_mv rfl rfl) rfl rfl rfl fun a F => ?_
 refine dn ?_
 refine tn <| hK3 _ _ ?_
 refine bl ?_
 refine lp (fun m a w => ∃ i : Nat, m = xs.length - i ∧ (i ≤ xs.length) ∧ (∀ (j : Nat) (hj : j < xs.length), j < i → p xs[j] = false) ∧ Fr 19 a [(0, .slice A xs.length c), (1, .func (.func g) #[] cap.toArray), (7, .int .i64 (xs.length : Int)), (8, .int .i64 (i : Int))] ∧ St w0 w []) (xs.length) ?_ ?_
 ·exact ⟨0, rfl, Nat.zero_le _, fun _ _ h => absurd h (Nat.not_lt_zero _), F.sub _ ⟨rfl, rfl, rfl, rfl, trivial⟩, S.pick [] _ trivial rfl⟩
 ·rintro m a w ⟨i, hm, hi, hno, F, S⟩
  refine sq fun K4 hK4 => ?_
  refine rg ?_
  refine dv F (y_lt rfl rfl rfl) rfl rfl rfl fun a F => ?_
  refine dn ?_
  refine tn <| hK4 _ _ ?_
  refine sq fun K5 hK5 => ?_
  refine cd F rfl (fun h1 => ?_) (fun h1 => ?_)
  ·refine wp_skip ?_
   refine tn <| hK5 _ _ ?_
   refine sq fun K6 hK6 => ?_
   refine bl ?_
   refine sq fun K7 hK7 => ?_
   refine rg ?_
   refine dv F (y_mv rfl rfl) rfl rfl rfl fun a F => ?_
   refine dv F (y_as rfl rfl) rfl rfl rfl fun a F => ?_
   refine dn ?_
   refine tn <| hK7 _ _ ?_
   refine sq fun K8 hK8 => ?_
   refine rg ?_
   refine dv F (y_mv rfl rfl) rfl rfl rfl fun a F => ?_
   refine dv F (y_mv rfl rfl) rfl rfl rfl fun a F => ?_
   refine dv F (y_mv rfl rfl) rfl rfl rfl fun a F => ?_
   have hlt : i < xs.length := by omega
   obtain ⟨ab, ao, rfl, hab, hcell⟩ := (hA.st S).at_ hlt
   refine dv F (y_ia rfl rfl rfl rfl Tryz.underlying38 Tryz.sizeOf66 i rfl hlt) rfl rfl rfl fun a F => ?_
   refine dv F (y_ld rfl rfl (lda Tryz.isAgg66 Tryz.sizeOf66 (lenSt _) hcell)) rfl rfl rfl fun a F => ?_
   refine dc F (c_f rfl rfl rfl he) rfl rfl rfl (hp _ (List.getElem_mem hlt) _ S.bel) fun a v w' hr F => ?_
   obtain ⟨rfl, hb⟩ := hr
   replace S := S.call hb
   refine dn ?_
   refine tn <| hK8 _ _ ?_
   refine cb F rfl (fun h2 => ?_) (fun h2 => ?_)
   ·refine sq fun K9 hK9 => ?_
    refine rg ?_
    refine dv F (y_mv rfl rfl) rfl rfl rfl fun a F => ?_
    refine dv F (y_as rfl rfl) rfl rfl rfl fun a F => ?_
    refine dn ?_
    refine tn <| hK9 _ _ ?_
    refine wp_ret ?_
    refine br <| tr <| lr <| br <| tr <| ?_
    exact rt1 F rfl rfl ⟨by rw [idx_hit p xs i hlt h2 hno], S.bel⟩
   ·refine wp_skip ?_
    refine bn <| tn <| hK6 _ _ ?_
    refine rg ?_
    refine dv F (y_add rfl rfl rfl (by omega)) rfl rfl rfl fun a F => ?_
    refine dv F (y_mv rfl rfl) rfl rfl rfl fun a F => ?_
    refine dn ?_
    exact ln (by omega) ⟨i + 1, rfl, by omega, allto hno hlt h2, F.sub _ ⟨rfl, rfl, rfl, rfl, trivial⟩, S.pick [] _ trivial rfl⟩
  ·refine wp_exit ?_
   refine tx <| lx <| bh <| tn <| hK2 _ _ ?_
   refine sq fun K10 hK10 => ?_
   refine rg ?_
   refine dv F (y_as rfl rfl) rfl rfl rfl fun a F => ?_
   refine dn ?_
   refine tn <| hK10 _ _ ?_
   refine wp_ret ?_
   refine ?_
   exact rt1 F rfl rfl ⟨by rw [idx_miss p xs fun j hj => hno j hj (by omega)], S.bel⟩
theorem c_ContainsFuncF {A : Option Addr} {c : Nat} {xs : List (ByteArray × ByteArray)} (w0 : World) (p : (ByteArray × ByteArray) → Bool) (g : Nat) (cap : List Value) (he : ∀ (args : Array Value) (w : World), (callFunc g args).run Tryz.prog w = .ok (.enter g args) w) (hp : ∀ x ∈ xs, ∀ (W : World), Below w0.heap.size w0 W → Calls Tryz.prog g ([Value.agg (encSt x).toArray] ++ cap).toArray W (Ret fun v w' => v = .bool (p x) ∧ Below W.heap.size W w')) (hA : Sl w0 2 encSt A xs) (hn : xs.length ≤ 140737488351232) : Calls Tryz.prog 81 [.slice A xs.length c, .func (.func g) #[] cap.toArray].toArray w0 (Ret fun v w' => v = .bool (xs.any p) ∧ Below w0.heap.size w0 w') := by
 refine ent Tryz.func81 Tryz.ntmps81 rfl rfl ?_
 intro a F
 have S := St.refl w0
 refine sq fun K1 hK1 => ?_
 refine rg ?_
 refine dv F (y_as rfl rfl) rfl rfl rfl fun a F => ?_
 refine dn ?_
 refine tn <| hK1 _ _ ?_
 refine sq fun K2 hK2 => ?_
 refine rg ?_
 refine dv F (y_mv rfl rfl) rfl rfl rfl fun a F => ?_
 refine dv F (y_mv rfl rfl) rfl rfl rfl fun a F => ?_
 refine dc F (c_f rfl rfl rfl Tryz.call84) rfl rfl rfl (c_IndexFuncF _ p g cap he hp (hA.st S) hn) fun a v w' hr F => ?_
 obtain ⟨rfl, hb⟩ := hr
 replace S := S.call hb
 refine dv F (y_ge rfl rfl rfl) rfl rfl rfl fun a F => ?_
 refine dv F (y_as rfl rfl) rfl rfl rfl fun a F => ?_
 refine dn ?_
 refine tn <| hK2 _ _ ?_
 refine wp_ret ?_
 refine ?_
 exact rt1 F rfl rfl ⟨by rw [idx_any], S.bel⟩
theorem c_isLongK (k : Kn) (w0 : World) : Calls Tryz.prog 75 [.agg (encK k).toArray].toArray w0 (Ret fun v w' => v = .bool (k.is && decide (65536 < k.data.size)) ∧ Below w0.heap.size w0 w') := by
 refine ent Tryz.func75 Tryz.ntmps75 rfl rfl ?_
 intro a F
 have S := St.refl w0
 refine sq fun K1 hK1 => ?_
 refine rg ?_
 refine dbx F S rfl rfl rfl rfl rfl rfl fun a w b1 F S => ?_
 refine dv F (y_as rfl rfl) rfl rfl rfl fun a F => ?_
 refine dn ?_
 refine tn <| hK1 _ _ ?_
 refine sq fun K2 hK2 => ?_
 refine rg ?_
 refine dv F (y_fa rfl rfl fi55_1) rfl rfl rfl fun a F => ?_
 refine dv F (y_ld rfl rfl (S.ld (i := 0) rfl rfl Tryz.isAgg4)) rfl rfl rfl fun a F => ?_
 refine dv F (y_mv rfl rfl) rfl rfl rfl fun a F => ?_
 refine gsp F 5 rfl (fun h1 => ?_) (fun h1 => ?_)
 ·have g1 := h1
  try simp only [zi1, zi2, zi3, zi4, zi5, zi6, zi7, zi8] at g1
  refine gv F rfl rfl rfl h1 (y_fa rfl rfl fi55_2) rfl rfl fun a F => ?_
  refine gv F rfl rfl rfl h1 (y_ld rfl rfl (S.ld (i := 0) rfl rfl Tryz.isAgg9)) rfl rfl fun a F => ?_
  refine gv F rfl rfl rfl h1 (y_ls rfl rfl Tryz.underlying9) rfl rfl fun a F => ?_
  refine gv F rfl rfl rfl h1 (y_gt rfl rfl rfl) rfl rfl fun a F => ?_
  refine dv F (y_pkt h1 rfl rfl rfl) rfl rfl rfl fun a F => ?_
  refine dv F (y_as rfl rfl) rfl rfl rfl fun a F => ?_
  refine dn ?_
  refine tn <| hK2 _ _ ?_
  refine wp_ret ?_
  refine ?_
  exact rt1 F rfl rfl ⟨by first | (simp [g1]; done) | (simp [g1]; omega) | simp_all, S.bel⟩
 ·have g1 := h1
  try simp only [zi1, zi2, zi3, zi4, zi5, zi6, zi7, zi8] at g1
  refine gs F rfl rfl rfl h1 rfl rfl fun a F => ?_
  refine gs F rfl rfl rfl h1 rfl rfl fun a F => ?_
  refine gs F rfl rfl rfl h1 rfl rfl fun a F => ?_
  refine gs F rfl rfl rfl h1 rfl rfl fun a F => ?_
  refine dv F (y_pkf h1 rfl rfl rfl) rfl rfl rfl fun a F => ?_
  refine dv F (y_as rfl rfl) rfl rfl rfl fun a F => ?_
  refine dn ?_
  refine tn <| hK2 _ _ ?_
  refine wp_ret ?_
  refine ?_
  exact rt1 F rfl rfl ⟨by first | (simp [g1]; done) | (simp [g1]; omega) | simp_all, S.bel⟩
theorem c_isLongF (x : ByteArray × ByteArray) (w0 : World) : Calls Tryz.prog 82 [.agg (encSt x).toArray].toArray w0 (Ret fun v w' => v = .bool (decide (65536 < x.2.size)) ∧ Below w0.heap.size w0 w') := by
 refine ent Tryz.func82 Tryz.ntmps82 rfl rfl ?_
 intro a F
 have S := St.refl w0
 refine sq fun K1 hK1 => ?_
 refine rg ?_
 refine dbx F S rfl rfl rfl rfl rfl rfl fun a w b1 F S => ?_
 refine dv F (y_as rfl rfl) rfl rfl rfl fun a F => ?_
 refine dn ?_
 refine tn <| hK1 _ _ ?_
 refine sq fun K2 hK2 => ?_
 refine rg ?_
 refine dv F (y_fa rfl rfl fi66_1) rfl rfl rfl fun a F => ?_
 refine dv F (y_ld rfl rfl (S.ld (i := 0) rfl rfl Tryz.isAgg9)) rfl rfl rfl fun a F => ?_
 refine dv F (y_ls rfl rfl Tryz.underlying9) rfl rfl rfl fun a F => ?_
 refine dv F (y_gt rfl rfl rfl) rfl rfl rfl fun a F => ?_
 refine dv F (y_as rfl rfl) rfl rfl rfl fun a F => ?_
 refine dn ?_
 refine tn <| hK2 _ _ ?_
 refine wp_ret ?_
 refine ?_
 exact rt1 F rfl rfl ⟨congrArg Value.bool (decide_eq_decide.2 (by omega)), S.bel⟩
theorem c_isPathK (k : Kn) (ar : ByteArray) {bx : Nat} (w0 : World) (hbx : w0.cell? ⟨bx, 0, none⟩ = some (.string ar)) : Calls Tryz.prog 80 [.agg (encK k).toArray, pt bx].toArray w0 (Ret fun v w' => v = .bool (decide (k.path = ar)) ∧ Below w0.heap.size w0 w') := by
 refine ent Tryz.func80 Tryz.ntmps80 rfl rfl ?_
 intro a F
 have S := St.refl w0
 refine sq fun K1 hK1 => ?_
 refine rg ?_
 refine dbx F S rfl rfl rfl rfl rfl rfl fun a w b2 F S => ?_
 refine dv F (y_as rfl rfl) rfl rfl rfl fun a F => ?_
 refine dn ?_
 refine tn <| hK1 _ _ ?_
 refine sq fun K2 hK2 => ?_
 refine rg ?_
 refine dv F (y_fa rfl rfl fi55_0) rfl rfl rfl fun a F => ?_
 refine dv F (y_ld rfl rfl (S.ld (i := 0) rfl rfl Tryz.isAgg9)) rfl rfl rfl fun a F => ?_
 refine dv F (y_ld rfl rfl (ld1 Tryz.isAgg9 ((S.bel.cell (p := ⟨bx, 0, none⟩) (by have := cell_lt hbx; exact this)).trans hbx))) rfl rfl rfl fun a F => ?_
 refine dv F (y_se rfl rfl rfl) rfl rfl rfl fun a F => ?_
 refine dv F (y_as rfl rfl) rfl rfl rfl fun a F => ?_
 refine dn ?_
 refine tn <| hK2 _ _ ?_
 refine wp_ret ?_
 refine ?_
 exact rt1 F rfl rfl ⟨rfl, S.bel⟩
theorem c_isPathF (x : ByteArray × ByteArray) (ar : ByteArray) {bx : Nat} (w0 : World) (hbx : w0.cell? ⟨bx, 0, none⟩ = some (.string ar)) : Calls Tryz.prog 85 [.agg (encSt x).toArray, pt bx].toArray w0 (Ret fun v w' => v = .bool (decide (x.1 = ar)) ∧ Below w0.heap.size w0 w') := by
 refine ent Tryz.func85 Tryz.ntmps85 rfl rfl ?_
 intro a F
 have S := St.refl w0
 refine sq fun K1 hK1 => ?_
 refine rg ?_
 refine dbx F S rfl rfl rfl rfl rfl rfl fun a w b2 F S => ?_
 refine dv F (y_as rfl rfl) rfl rfl rfl fun a F => ?_
 refine dn ?_
 refine tn <| hK1 _ _ ?_
 refine sq fun K2 hK2 => ?_
 refine rg ?_
 refine dv F (y_fa rfl rfl fi66_0) rfl rfl rfl fun a F => ?_
 refine dv F (y_ld rfl rfl (S.ld (i := 0) rfl rfl Tryz.isAgg9)) rfl rfl rfl fun a F => ?_
 refine dv F (y_ld rfl rfl (ld1 Tryz.isAgg9 ((S.bel.cell (p := ⟨bx, 0, none⟩) (by have := cell_lt hbx; exact this)).trans hbx))) rfl rfl rfl fun a F => ?_
 refine dv F (y_se rfl rfl rfl) rfl rfl rfl fun a F => ?_
 refine dv F (y_as rfl rfl) rfl rfl rfl fun a F => ?_
 refine dn ?_
 refine tn <| hK2 _ _ ?_
 refine wp_ret ?_
 refine ?_
 exact rt1 F rfl rfl ⟨rfl, S.bel⟩
theorem c_ansK (p : ByteArray) {A : Option Addr} {c : Nat} {xs : List Kn} {bq : Nat} (w0 : World) (hq : w0.cell? ⟨bq, 0, none⟩ = some (.slice A xs.length c)) (hX : Sl w0 3 encK A xs) (hn : xs.length ≤ 100000000) : Calls Tryz.prog 78 [.string p, pt bq].toArray w0 (Ret fun v w' => v = ansV (kfind xs p) ∧ Below w0.heap.size w0 w') := by
 refine ent Tryz.func78 Tryz.ntmps78 rfl rfl ?_
 intro a F
 have S := St.refl w0
 refine sq fun K1 hK1 => ?_
 refine rg ?_
 refine dbx F S rfl rfl rfl rfl rfl rfl fun a w b2 F S => ?_
 refine dal F S rfl Tryz.zeroValue55 rfl rfl rfl rfl fun a w b3 F S => ?_
 refine dv F (y_as rfl rfl) rfl rfl rfl fun a F => ?_
 refine dn ?_
 refine tn <| hK1 _ _ ?_
 refine sq fun K2 hK2 => ?_
 refine rg ?_
 refine dv F (y_ld rfl rfl (ld1 Tryz.isAgg28 ((S.bel.cell (p := ⟨bq, 0, none⟩) (by have := cell_lt hq; exact this)).trans hq))) rfl rfl rfl fun a F => ?_
 refine dv F (y_mf rfl rfl) rfl rfl rfl fun a F => ?_
 refine dc F (c_f rfl rfl rfl Tryz.call79) rfl rfl rfl (c_IndexFuncK (A := A) (c := c) (xs := xs) _ (fun k => decide (k.path = p)) 80 [pt b2] Tryz.call80 (fun x hx W hb => c_isPathK x p W ((S.call hb).cell (i := 0) rfl rfl)) (hX.st S) (by omega)) fun a v w' hr F => ?_
 obtain ⟨rfl, hb⟩ := hr
 replace S := S.call hb
 refine dv F (y_as rfl rfl) rfl rfl rfl fun a F => ?_
 refine dn ?_
 refine tn <| hK2 _ _ ?_
 refine sq fun K3 hK3 => ?_
 refine sq fun K4 hK4 => ?_
 refine rg ?_
 refine dv F (y_mv rfl rfl) rfl rfl rfl fun a F => ?_
 refine dv F (y_lt rfl rfl rfl) rfl rfl rfl fun a F => ?_
 refine dn ?_
 refine tn <| hK4 _ _ ?_
 refine cb F rfl (fun h1 => ?_) (fun h1 => ?_)
 ·have g1 := h1
  try simp only [zi1, zi2, zi3, zi4, zi5, zi6, zi7, zi8] at g1
  refine sq fun K5 hK5 => ?_
  refine rg ?_
  refine dv F (y_bd rfl rfl (bd55z)) rfl rfl rfl fun a F => ?_
  refine dsw F S rfl rfl rfl Tryz.sizeOf55 (i := 1) rfl rfl rfl rfl (oneK _) rfl rfl fun a w F S => ?_
  refine dv F (y_as rfl rfl) rfl rfl rfl fun a F => ?_
  refine dn ?_
  refine tn <| hK5 _ _ ?_
  refine wp_ret ?_
  refine tr <| ?_
  exact rc2t F rfl rfl rfl (S.lda (i := 1) rfl Tryz.isAgg55 Tryz.sizeOf55 rfl) ⟨by rw [kfind_idx_none (by omega)]; rfl, S.bel⟩
 ·have g1 := h1
  try simp only [zi1, zi2, zi3, zi4, zi5, zi6, zi7, zi8] at g1
  refine wp_skip ?_
  refine tn <| hK3 _ _ ?_
  refine sq fun K6 hK6 => ?_
  obtain ⟨i0, hi0, hidx⟩ := idx_pos (p := fun k : Kn => decide (k.path = p)) (xs := xs) (by omega)
  rw [hidx] at F
  refine rg ?_
  refine dv F (y_ld rfl rfl (ld1 Tryz.isAgg28 ((S.bel.cell (p := ⟨bq, 0, none⟩) (by have := cell_lt hq; exact this)).trans hq))) rfl rfl rfl fun a F => ?_
  refine dv F (y_mv rfl rfl) rfl rfl rfl fun a F => ?_
  obtain ⟨ab, ao, rfl, hab, hcell⟩ := (hX.st S).at_ hi0
  refine dv F (y_ia rfl rfl rfl rfl Tryz.underlying28 Tryz.sizeOf55 i0 rfl hi0) rfl rfl rfl fun a F => ?_
  refine dv F (y_ld rfl rfl (lda Tryz.isAgg55 Tryz.sizeOf55 (lenK _) hcell)) rfl rfl rfl fun a F => ?_
  refine dsw F S rfl rfl rfl Tryz.sizeOf55 (i := 1) rfl rfl rfl rfl (oneK _) rfl rfl fun a w F S => ?_
  refine dv F (y_as rfl rfl) rfl rfl rfl fun a F => ?_
  refine dn ?_
  refine tn <| hK6 _ _ ?_
  refine wp_ret ?_
  refine ?_
  exact rc2t F rfl rfl rfl (S.lda (i := 1) rfl Tryz.isAgg55 Tryz.sizeOf55 rfl) ⟨by rw [kfind_idx_some hi0 hidx]; rfl, S.bel⟩
theorem c_ansF (p : ByteArray) {A : Option Addr} {c : Nat} {xs : List (ByteArray × ByteArray)} {bq : Nat} (w0 : World) (hq : w0.cell? ⟨bq, 0, none⟩ = some (.slice A xs.length c)) (hX : Sl w0 2 encSt A xs) (hn : xs.length ≤ 100000000) : Calls Tryz.prog 83 [.string p, pt bq].toArray w0 (Ret fun v w' => v = ansV (tellA xs p) ∧ Below w0.heap.size w0 w') := by
 refine ent Tryz.func83 Tryz.ntmps83 rfl rfl ?_
 intro a F
 have S := St.refl w0
 refine sq fun K1 hK1 => ?_
 refine rg ?_
 refine dbx F S rfl rfl rfl rfl rfl rfl fun a w b2 F S => ?_
 refine dal F S rfl Tryz.zeroValue55 rfl rfl rfl rfl fun a w b3 F S => ?_
 refine dv F (y_as rfl rfl) rfl rfl rfl fun a F => ?_
 refine dn ?_
 refine tn <| hK1 _ _ ?_
 refine sq fun K2 hK2 => ?_
 refine rg ?_
 refine dv F (y_ld rfl rfl (ld1 Tryz.isAgg38 ((S.bel.cell (p := ⟨bq, 0, none⟩) (by have := cell_lt hq; exact this)).trans hq))) rfl rfl rfl fun a F => ?_
 refine dv F (y_mf rfl rfl) rfl rfl rfl fun a F => ?_
 refine dc F (c_f rfl rfl rfl Tryz.call84) rfl rfl rfl (c_IndexFuncF (A := A) (c := c) (xs := xs) _ (fun x => decide (x.1 = p)) 85 [pt b2] Tryz.call85 (fun x hx W hb => c_isPathF x p W ((S.call hb).cell (i := 0) rfl rfl)) (hX.st S) (by omega)) fun a v w' hr F => ?_
 obtain ⟨rfl, hb⟩ := hr
 replace S := S.call hb
 refine dv F (y_as rfl rfl) rfl rfl rfl fun a F => ?_
 refine dn ?_
 refine tn <| hK2 _ _ ?_
 refine sq fun K3 hK3 => ?_
 refine sq fun K4 hK4 => ?_
 refine rg ?_
 refine dv F (y_mv rfl rfl) rfl rfl rfl fun a F => ?_
 refine dv F (y_lt rfl rfl rfl) rfl rfl rfl fun a F => ?_
 refine dn ?_
 refine tn <| hK4 _ _ ?_
 refine cb F rfl (fun h1 => ?_) (fun h1 => ?_)
 ·have g1 := h1
  try simp only [zi1, zi2, zi3, zi4, zi5, zi6, zi7, zi8] at g1
  refine sq fun K5 hK5 => ?_
  refine rg ?_
  refine dv F (y_ld rfl rfl (S.ld (i := 0) rfl rfl Tryz.isAgg9)) rfl rfl rfl fun a F => ?_
  refine dv F (y_bd rfl rfl (bd55p _)) rfl rfl rfl fun a F => ?_
  refine dsw F S rfl rfl rfl Tryz.sizeOf55 (i := 1) rfl rfl rfl rfl (oneK _) rfl rfl fun a w F S => ?_
  refine dv F (y_as rfl rfl) rfl rfl rfl fun a F => ?_
  refine dn ?_
  refine tn <| hK5 _ _ ?_
  refine wp_ret ?_
  refine tr <| ?_
  exact rc2t F rfl rfl rfl (S.lda (i := 1) rfl Tryz.isAgg55 Tryz.sizeOf55 rfl) ⟨by rw [tell_idx_none (by omega)]; rfl, S.bel⟩
 ·have g1 := h1
  try simp only [zi1, zi2, zi3, zi4, zi5, zi6, zi7, zi8] at g1
  refine wp_skip ?_
  refine tn <| hK3 _ _ ?_
  refine sq fun K6 hK6 => ?_
  obtain ⟨i0, hi0, hidx⟩ := idx_pos (p := fun x : ByteArray × ByteArray => decide (x.1 = p)) (xs := xs) (by omega)
  rw [hidx] at F
  obtain ⟨ab, ao, rfl, hab, hcell⟩ := (hX.st S).at_ hi0
  refine rp [.p, .p, .p, .p, .p, .p, .p] 7 [[], [], [], [1, 2], [1, 2, 3], [1, 2, 3, 4], [0, 1, 2, 3, 4, 5]] [(0, _), (1, _), (2, _), (3, _), (4, _), (5, _), (6, _), (7, _), (8, _), (9, _), (10, _)] F ⟨rfl, rfl, rfl, rfl, rfl, rfl, rfl, rfl, rfl, rfl, rfl, trivial⟩ Tryz.mixed (by kernel_rfl) rfl (.inr ⟨by decide, by kernel_rfl, by kernel_rfl⟩) (by kernel_rfl) ⟨?_, ?_, ?_, ?_, ?_, ?_, ?_, trivial⟩ fun a w1 J => ?_
  ·intro a w1 hB F hA
   have S0 := S
   replace S := S.call hB
   exact pv F (fun w2 hB2 => have S := S.call hB2; y_ld rfl rfl (S.ld (i := 0) rfl rfl Tryz.isAgg9)) rfl rfl rfl (by decide)
  ·intro a w1 hB F hA
   have S0 := S
   replace S := S.call hB
   exact pv F (fun w2 hB2 => have S := S.call hB2; y_ld rfl rfl (ld1 Tryz.isAgg38 ((S.bel.cell (p := ⟨bq, 0, none⟩) (by have := cell_lt hq; exact this)).trans hq))) rfl rfl rfl (by decide)
  ·intro a w1 hB F hA
   have S0 := S
   replace S := S.call hB
   exact pv F (fun w2 hB2 => have S := S.call hB2; y_mv rfl rfl) rfl rfl rfl (by decide)
  ·intro a w1 hB F hA
   have S0 := S
   replace S := S.call hB
   replace F := F.eP (hA 1 (by decide)) rfl (d := 14) rfl rfl (y_ld rfl rfl (ld1 Tryz.isAgg38 ((S.bel.cell (p := ⟨bq, 0, none⟩) (by have := cell_lt hq; exact this)).trans hq)))
   replace F := F.eP (hA 2 (by decide)) rfl (d := 15) rfl rfl (y_mv rfl rfl)
   exact pv F (fun w2 hB2 => have S := S.call hB2; y_ia rfl rfl rfl rfl Tryz.underlying38 Tryz.sizeOf66 i0 rfl hi0) rfl rfl rfl (by decide)
  ·intro a w1 hB F hA
   have S0 := S
   replace S := S.call hB
   replace F := F.eP (hA 1 (by decide)) rfl (d := 14) rfl rfl (y_ld rfl rfl (ld1 Tryz.isAgg38 ((S.bel.cell (p := ⟨bq, 0, none⟩) (by have := cell_lt hq; exact this)).trans hq)))
   replace F := F.eP (hA 2 (by decide)) rfl (d := 15) rfl rfl (y_mv rfl rfl)
   replace F := F.eP (hA 3 (by decide)) rfl (d := 16) rfl rfl (y_ia rfl rfl rfl rfl Tryz.underlying38 Tryz.sizeOf66 i0 rfl hi0)
   exact pv F (fun w2 hB2 => have S := S.call hB2; y_fa rfl rfl fi66_1) rfl rfl rfl (by decide)
  ·intro a w1 hB F hA
   have S0 := S
   replace S := S.call hB
   replace F := F.eP (hA 1 (by decide)) rfl (d := 14) rfl rfl (y_ld rfl rfl (ld1 Tryz.isAgg38 ((S.bel.cell (p := ⟨bq, 0, none⟩) (by have := cell_lt hq; exact this)).trans hq)))
   replace F := F.eP (hA 2 (by decide)) rfl (d := 15) rfl rfl (y_mv rfl rfl)
   replace F := F.eP (hA 3 (by decide)) rfl (d := 16) rfl rfl (y_ia rfl rfl rfl rfl Tryz.underlying38 Tryz.sizeOf66 i0 rfl hi0)
   replace F := F.eP (hA 4 (by decide)) rfl (d := 17) rfl rfl (y_fa rfl rfl fi66_1)
   exact pv F (fun w2 hB2 => have S := S.call hB2; y_ld rfl rfl (ld1 Tryz.isAgg9 (sl_at2 (hX.st S) hi0 1 _ rfl))) rfl rfl rfl (by decide)
  ·intro a w1 hB F hA
   have S0 := S
   replace S := S.call hB
   replace F := F.eP (hA 0 (by decide)) rfl (d := 13) rfl rfl (y_ld rfl rfl (S.ld (i := 0) rfl rfl Tryz.isAgg9))
   replace F := F.eP (hA 1 (by decide)) rfl (d := 14) rfl rfl (y_ld rfl rfl (ld1 Tryz.isAgg38 ((S.bel.cell (p := ⟨bq, 0, none⟩) (by have := cell_lt hq; exact this)).trans hq)))
   replace F := F.eP (hA 2 (by decide)) rfl (d := 15) rfl rfl (y_mv rfl rfl)
   replace F := F.eP (hA 3 (by decide)) rfl (d := 16) rfl rfl (y_ia rfl rfl rfl rfl Tryz.underlying38 Tryz.sizeOf66 i0 rfl hi0)
   replace F := F.eP (hA 4 (by decide)) rfl (d := 17) rfl rfl (y_fa rfl rfl fi66_1)
   replace F := F.eP (hA 5 (by decide)) rfl (d := 18) rfl rfl (y_ld rfl rfl (ld1 Tryz.isAgg9 (sl_at2 (hX.st S) hi0 1 _ rfl)))
   exact pv F (fun w2 hB2 => have S := S.call hB2; y_bd rfl rfl (bdKz _ _)) rfl rfl rfl (by decide)
  have F := J.fr
  have E := EX.start J S
  have hle' := S.bel.size
  replace S := S.call J.bel
  replace F := F.eP (J.at 0 rfl) rfl (d := 13) rfl rfl (y_ld rfl rfl (S.ld (i := 0) rfl rfl Tryz.isAgg9))
  replace F := F.eP (J.at 1 rfl) rfl (d := 14) rfl rfl (y_ld rfl rfl (ld1 Tryz.isAgg38 ((S.bel.cell (p := ⟨bq, 0, none⟩) (by have := cell_lt hq; exact this)).trans hq)))
  replace F := F.eP (J.at 2 rfl) rfl (d := 15) rfl rfl (y_mv rfl rfl)
  replace F := F.eP (J.at 3 rfl) rfl (d := 16) rfl rfl (y_ia rfl rfl rfl rfl Tryz.underlying38 Tryz.sizeOf66 i0 rfl hi0)
  replace F := F.eP (J.at 4 rfl) rfl (d := 17) rfl rfl (y_fa rfl rfl fi66_1)
  replace F := F.eP (J.at 5 rfl) rfl (d := 18) rfl rfl (y_ld rfl rfl (ld1 Tryz.isAgg9 (sl_at2 (hX.st S) hi0 1 _ rfl)))
  replace F := F.eP (J.at 6 rfl) rfl (d := 19) rfl rfl (y_bd rfl rfl (bdKz _ _))
  replace S := E.st
  clear E J
  refine dsw F S rfl rfl rfl Tryz.sizeOf55 (i := 1) rfl rfl rfl rfl (oneK _) rfl rfl fun a w F S => ?_
  refine dv F (y_as rfl rfl) rfl rfl rfl fun a F => ?_
  refine dn ?_
  refine tn <| hK6 _ _ ?_
  refine wp_ret ?_
  refine ?_
  exact rc2t F rfl rfl rfl (S.lda (i := 1) rfl Tryz.isAgg55 Tryz.sizeOf55 rfl) ⟨by rw [tell_idx_some hi0 hidx]; rfl, S.bel⟩
end Go.Proofs.YtgcmddaibnimjaaGreatDoor
namespace Go.Eng
open Go.RowKit
section
variable {P : Program} {n : Nat} {l : List (Nat × Value)} {a : Act} {w : World}
theorem rc22 {fn : Func} {R : Ending → World → Prop} {t ty u uy : Nat} {p q : Addr} {v x : Value} (F : Fr n a l) (hr : fn.results = #[.cell t ty, .cell u uy]) (hp : look l t = some (.pointer (some p))) (hq : look l u = some (.pointer (some q))) (hl : Ld P w ty p v) (hm : Ld P w uy q x) (h : R (.returned (.tuple #[v, x])) w) : bodyPost P fn R .ret a w := by
 refine bodyPost_ret (v := .tuple #[v, x]) ?_ F.defers h
 unfold Ld at hl hm
 simp [results, hr, Array.getD_eq_getD_getElem?, F.get t _ hp, F.get u _ hq, asAddr, hl, hm]
theorem rc23 {fn : Func} {R : Ending → World → Prop} {t ty u uy s : Nat} {p q : Addr} {v x y : Value} (F : Fr n a l) (hr : fn.results = #[.cell t ty, .cell u uy, .tmp s]) (hp : look l t = some (.pointer (some p))) (hq : look l u = some (.pointer (some q))) (hs : look l s = some y) (hl : Ld P w ty p v) (hm : Ld P w uy q x) (h : R (.returned (.tuple #[v, x, y])) w) : bodyPost P fn R .ret a w := by
 refine bodyPost_ret (v := .tuple #[v, x, y]) ?_ F.defers h
 unfold Ld at hl hm
 simp [results, hr, Array.getD_eq_getD_getElem?, F.get t _ hp, F.get u _ hq, F.get s _ hs, asAddr, hl, hm]
end
end Go.Eng
namespace Go.Proofs.YtgcmddaibnimjaaGreatDoor
open Go.RowKit Go.Eng
theorem oneW (x : Wnt) : ∀ u ∈ encWn x, u.oneCell' = true := all1 rfl
theorem bd76z (w : World) : (Instr.build 76 [].toArray).run Tryz.prog w = .ok (.agg (encWn w0t).toArray) w := by kernel_rfl
theorem bd76k (p : ByteArray) (w : World) : (Instr.build 76 [(0, .int .i64 1), (1, .string p)].toArray).run Tryz.prog w = .ok (.agg (encWn ⟨1, p, 0⟩).toArray) w := by kernel_rfl
theorem opt2 {α : Type} (o : Option α) : o = none ∨ ∃ k, o = some k := by cases o <;> simp
def BegP (w0 w' : World) (v : Value) (env : List (ByteArray × ByteArray)) (outs ins asks : List ByteArray) (mr : Res) (lg : Bool) : (Int × Int) ⊕ List Cmd → Prop
 | .inl (e, n) => v = .tuple [.pointer none, .int .i64 e].toArray ∧ St w0 w' [mr]
 | .inr l => if lg = true then v = .tuple [.pointer none, .int .i64 6].toArray ∧ St w0 w' [mr] else ∃ (B : BC) (H0 : Hp), B.C.env = env ∧ B.outs = outs ∧ B.ins = ins ∧ B.asks = asks ∧ v = .tuple [pt B.bx, .int .i64 0].toArray ∧ BE B H0 ((BS.start l).go B) [mr] w0 w'
def FoP (B : BC) (H0 : Hp) (cs : List Res) (w0 w : World) (v : Value) (γ : BS) : Prop :=
 ∃ H1 A1 c1 A2 c2, H0.le H1 ∧ v = .tuple [.agg (encWn γ.want).toArray, .agg (encOc γ.out A1 c1 A2 c2).toArray].toArray ∧ FzS H1 2 encSt A1 γ.out.outs ∧ FzS H1 34 encRd A2 γ.out.reads ∧ BE B H1 γ cs w0 w
theorem c_begin {u1 u2 : Value} {t : ByteArray} {Ae Ai Aa Ao : Option Addr} {ce ci ca co : Nat} {env : List (ByteArray × ByteArray)} {ins asks outs : List ByteArray} {mr : Res} {w0 W : World} (lg : Bool) (G : Gl w0) (he : Sl w0 2 encSt Ae env) (hi : Sl w0 1 encS Ai ins) (ha : Sl w0 1 encS Aa asks) (ho : Sl w0 1 encS Ao outs) (hz1 : t.size ≤ 1000000) (hz2 : env.length ≤ 1000000) (hz3 : ∀ x ∈ env, x.2.size ≤ 1000000000) (hz4 : outs.length ≤ 1000000 ∧ ins.length ≤ 1000000 ∧ asks.length ≤ 1000000) (hz5 : ∀ x ∈ asks, x.size ≤ 1000000) (S : St w0 W [mr]) : Calls Tryz.prog 76 [.agg (actC u1 u2 t Ae env.length ce Ai ins.length ci Aa asks.length ca Ao outs.length co).toArray, .bool lg].toArray W (Ret fun v w' => BegP w0 w' v env outs ins asks mr lg (commandsE t)) := by
 refine ent Tryz.func76 Tryz.ntmps76 rfl rfl ?_
 intro a F
 refine sq fun K1 hK1 => ?_
 refine rg ?_
 refine dbx F S rfl rfl rfl rfl rfl rfl fun a w b2 F S => ?_
 refine dv F (y_as rfl rfl) rfl rfl rfl fun a F => ?_
 refine dv F (y_as rfl rfl) rfl rfl rfl fun a F => ?_
 refine dn ?_
 refine tn <| hK1 _ _ ?_
 refine sq fun K2 hK2 => ?_
 refine rg ?_
 refine dv F (y_ld rfl rfl (S.lda (i := 1) rfl Tryz.isAgg27 Tryz.sizeOf27 rfl)) rfl rfl rfl fun a F => ?_
 refine dc F (c_f rfl rfl rfl Tryz.call17) rfl rfl rfl (e_New (cs := [mr, bk b2 27 (actC u1 u2 t Ae env.length ce Ai ins.length ci Aa asks.length ca Ao outs.length co)]) G S hz1 he hi ha ho hz2 hz3 hz4 hz5) fun a v w' hr F => ?_
 have hN := hr
 have hN2 := newE_cases hN
 clear S
 rcases hN2 with ⟨e, n, hcm, hne, rfl, S⟩ | ⟨lc, B, Hb, hcm, hbe, hbo, hbi, hba, rfl, hR⟩
 ·refine dv F (y_mv rfl rfl) rfl rfl rfl fun a F => ?_
  refine dv F (y_ex rfl rfl rfl) rfl rfl rfl fun a F => ?_
  refine dv F (y_ex rfl rfl rfl) rfl rfl rfl fun a F => ?_
  refine dv F (y_as rfl rfl) rfl rfl rfl fun a F => ?_
  refine dv F (y_as rfl rfl) rfl rfl rfl fun a F => ?_
  refine dn ?_
  refine tn <| hK2 _ _ ?_
  refine sq fun K3 hK3 => ?_
  refine bl ?_
  refine sq fun K4 hK4 => ?_
  refine rg ?_
  refine dv F (y_mv rfl rfl) rfl rfl rfl fun a F => ?_
  refine dv F (y_in rfl rfl rfl) rfl rfl rfl fun a F => ?_
  refine dv F (y_as rfl rfl) rfl rfl rfl fun a F => ?_
  refine dn ?_
  refine tn <| hK4 _ _ ?_
  refine ct F rfl (by simpa using hne) ?_
  refine sq fun K5 hK5 => ?_
  refine rg ?_
  refine dv F (y_mv rfl rfl) rfl rfl rfl fun a F => ?_
  refine dv F (y_as rfl rfl) rfl rfl rfl fun a F => ?_
  refine dv F (y_as rfl rfl) rfl rfl rfl fun a F => ?_
  refine dn ?_
  refine tn <| hK5 _ _ ?_
  refine wp_ret ?_
  refine br <| tr <| ?_
  exact rt2 F rfl rfl rfl (by rw [hcm]; exact ⟨rfl, S.pick [0] _ ⟨rfl, trivial⟩ rfl⟩)
 ·obtain ⟨sb, sr, A, c, vals, H, Ar, cr, hsr, hle, hE, hv, hF, S⟩ := hR
  refine dv F (y_mv rfl rfl) rfl rfl rfl fun a F => ?_
  refine dv F (y_ex rfl rfl rfl) rfl rfl rfl fun a F => ?_
  refine dv F (y_ex rfl rfl rfl) rfl rfl rfl fun a F => ?_
  refine dv F (y_as rfl rfl) rfl rfl rfl fun a F => ?_
  refine dv F (y_as rfl rfl) rfl rfl rfl fun a F => ?_
  refine dn ?_
  refine tn <| hK2 _ _ ?_
  refine sq fun K6 hK6 => ?_
  refine bl ?_
  refine sq fun K7 hK7 => ?_
  refine rg ?_
  refine dv F (y_mv rfl rfl) rfl rfl rfl fun a F => ?_
  refine dv F (y_in rfl rfl rfl) rfl rfl rfl fun a F => ?_
  refine dv F (y_as rfl rfl) rfl rfl rfl fun a F => ?_
  refine dn ?_
  refine tn <| hK7 _ _ ?_
  refine cf F rfl rfl ?_
  refine sq fun K8 hK8 => ?_
  refine rg ?_
  refine dv F (y_mv rfl rfl) rfl rfl rfl fun a F => ?_
  refine dv F (y_as rfl rfl) rfl rfl rfl fun a F => ?_
  refine dn ?_
  refine tn <| hK8 _ _ ?_
  refine cb F rfl (fun hlg => ?_) (fun hlg => ?_)
  ·refine sq fun K9 hK9 => ?_
   refine rg ?_
   refine dv F (y_as rfl rfl) rfl rfl rfl fun a F => ?_
   refine dv F (y_as rfl rfl) rfl rfl rfl fun a F => ?_
   refine dn ?_
   refine tn <| hK9 _ _ ?_
   refine wp_ret ?_
   refine br <| tr <| ?_
   exact rt2 F rfl rfl rfl (by rw [hcm]; refine (if_pos (by simpa using hlg)).mpr ?_; exact ⟨rfl, S.pick [8] _ ⟨rfl, trivial⟩ rfl⟩)
  ·refine wp_skip ?_
   refine bn <| tn <| hK6 _ _ ?_
   refine sq fun K10 hK10 => ?_
   refine rg ?_
   refine dv F (y_mv rfl rfl) rfl rfl rfl fun a F => ?_
   refine dv F (y_as rfl rfl) rfl rfl rfl fun a F => ?_
   refine dv F (y_as rfl rfl) rfl rfl rfl fun a F => ?_
   refine dn ?_
   refine tn <| hK10 _ _ ?_
   refine wp_ret ?_
   refine ?_
   exact rt2 F rfl rfl rfl (by rw [hcm]; refine (if_neg (by simpa using hlg)).mpr ?_; exact ⟨B, Hb, hbe, hbo, hbi, hba, rfl, ⟨sb, sr, A, c, vals, H, Ar, cr, hsr, hle, hE, hv, hF, (S.pick [0, 1, 2, 3, 4, 5, 6, 7, 8] _ ⟨rfl, rfl, rfl, rfl, rfl, rfl, rfl, rfl, rfl, trivial⟩ rfl)⟩⟩)
theorem c_fGoOn {B : BC} {H0 : Hp} {β0 γ : BS} {mr : Res} {w0 W : World} (ans : ByteArray → Option Kn) (g : Nat) (cap : List Value) (hg : ∀ (args : Array Value) (w : World), (callFunc g args).run Tryz.prog w = .ok (.enter g args) w) (hans : ∀ (p : ByteArray) (W : World), mr.ok W → Below w0.heap.size w0 W → Calls Tryz.prog g ([Value.string p] ++ cap).toArray W (Ret fun v w' => v = ansV (ans p) ∧ Below W.heap.size W w')) (hao : AOk ans) (haz : ∀ p k, ans p = some k → k.data.size ≤ 9000000000000000000) (G : Gl w0) (hS : BSm B) (hB0 : BOk B β0) (hγ : β0.feedA B ans 600 = γ) (hR : BE B H0 β0 [mr] w0 W) : Calls Tryz.prog 77 [pt B.bx, .func (.func g) #[] cap.toArray].toArray W (Ret fun v w' => FoP B H0 [mr] w0 w' v γ) := by
 obtain ⟨sb, sr, A, c, vals, H, Ar, cr, hsr, hle, hE, hv, hF, S⟩ := hR
 refine ent Tryz.func77 Tryz.ntmps77 rfl rfl ?_
 intro a F
 refine sq fun K1 hK1 => ?_
 refine rg ?_
 refine dal F S rfl Tryz.zeroValue76 rfl rfl rfl rfl fun a w b4 F S => ?_
 refine dal F S rfl Tryz.zeroValue41 rfl rfl rfl rfl fun a w b5 F S => ?_
 refine dn ?_
 refine tn <| hK1 _ _ ?_
 refine bl ?_
 refine lp (fun m a w => ∃ (i : Nat) (β : BS), m = 600 - i ∧ (BOk B β) ∧ (β.feedA B ans (600 - i) = γ) ∧ (β.reads.length = β0.reads.length + i) ∧ Fr 43 a [(0, pt B.bx), (1, .func (.func g) #[] cap.toArray), (4, pt b4), (5, pt b5)] ∧ BE B H0 β [mr, bk b4 76 (encWn w0t), bk b5 41 ocZ] w0 w) (600) ?_ ?_
 ·exact ⟨0, β0, rfl, hB0, hγ, rfl, F.sub _ ⟨rfl, rfl, rfl, rfl, trivial⟩, ⟨sb, sr, A, c, vals, H, Ar, cr, hsr, hle, hE, hv, hF, (S.pick [0, 1, 2, 3, 4, 5, 6, 7, 8, 9, 10] _ ⟨rfl, rfl, rfl, rfl, rfl, rfl, rfl, rfl, rfl, rfl, rfl, trivial⟩ rfl)⟩⟩
 ·rintro m a w ⟨i, β, hm, hB, hst, hrd, F, S⟩
  have hR := S
  obtain ⟨sb, sr, A, c, vals, H, Ar, cr, hsr, hle, hE, hv, hF, S⟩ := hR
  have hr5 := reads_le hB.j
  refine bl ?_
  refine sq fun K2 hK2 => ?_
  refine rg ?_
  refine dv F (y_mv rfl rfl) rfl rfl rfl fun a F => ?_
  have hR : BE B H0 β [mr, bk b4 76 (encWn w0t), bk b5 41 ocZ] w0 _ := ⟨sb, sr, A, c, vals, H, Ar, cr, hsr, hle, hE, hv, hF, (S.pick [0, 1, 2, 3, 4, 5, 6, 7, 8, 9, 10] _ ⟨rfl, rfl, rfl, rfl, rfl, rfl, rfl, rfl, rfl, rfl, rfl, trivial⟩ rfl)⟩
  refine dc F (c_f rfl rfl rfl Tryz.call24) rfl rfl rfl (e_Asks hR) fun a v w' hr F => ?_
  obtain ⟨rfl, hR⟩ := hr
  obtain ⟨sb, sr, A, c, vals, H, Ar, cr, hsr, hle, hE, hv, hF, S⟩ := hR
  refine dv F (y_mv rfl rfl) rfl rfl rfl fun a F => ?_
  refine dv F (y_ex rfl rfl rfl) rfl rfl rfl fun a F => ?_
  refine dv F (y_ex rfl rfl rfl) rfl rfl rfl fun a F => ?_
  refine dv F (y_as rfl rfl) rfl rfl rfl fun a F => ?_
  refine dv F (y_as rfl rfl) rfl rfl rfl fun a F => ?_
  refine dn ?_
  refine tn <| hK2 _ _ ?_
  refine sq fun K3 hK3 => ?_
  refine sq fun K4 hK4 => ?_
  refine rg ?_
  refine dv F (y_mv rfl rfl) rfl rfl rfl fun a F => ?_
  refine dv F (y_nt rfl rfl) rfl rfl rfl fun a F => ?_
  refine dn ?_
  refine tn <| hK4 _ _ ?_
  refine cb F rfl (fun hwt => ?_) (fun hwt => ?_)
  ·refine sq fun K5 hK5 => ?_
   have ho : β.over = true := by simpa using hwt
   refine rg ?_
   refine dv F (y_mv rfl rfl) rfl rfl rfl fun a F => ?_
   have hR : BE B H0 β [mr, bk b4 76 (encWn w0t), bk b5 41 ocZ] w0 _ := ⟨sb, sr, A, c, vals, H, Ar, cr, hsr, hle, hE, hv, hF, (S.pick [0, 1, 2, 3, 4, 5, 6, 7, 8, 9, 10] _ ⟨rfl, rfl, rfl, rfl, rfl, rfl, rfl, rfl, rfl, rfl, rfl, trivial⟩ rfl)⟩
   refine dc F (c_f rfl rfl rfl Tryz.call26) rfl rfl rfl (e_Outcome hS hB.j hR) fun a v w' hr F => ?_
   obtain ⟨H1, A1, c1, A2, c2, hle1, rfl, hf1, hf2, hR⟩ := hr
   obtain ⟨sb, sr, A, c, vals, H, Ar, cr, hsr, hle, hE, hv, hF, S⟩ := hR
   refine dv F (y_mv rfl rfl) rfl rfl rfl fun a F => ?_
   refine dv F (y_ex rfl rfl rfl) rfl rfl rfl fun a F => ?_
   refine dv F (y_ex rfl rfl rfl) rfl rfl rfl fun a F => ?_
   refine dal F S rfl Tryz.zeroValue41 rfl rfl rfl rfl fun a w b8 F S => ?_
   refine dsw F S rfl rfl rfl Tryz.sizeOf41 (i := 11) rfl rfl rfl rfl (one41 _ _ _ _ _ _ _ _) rfl rfl fun a w F S => ?_
   refine dv F (y_as rfl rfl) rfl rfl rfl fun a F => ?_
   refine dn ?_
   refine tn <| hK5 _ _ ?_
   refine sq fun K6 hK6 => ?_
   refine rpF [.p, .p] 2 1 [[], []] [(0, _), (1, _), (4, _), (5, _), (6, _), (7, _), (8, _), (9, _), (12, _), (13, _), (14, _), (15, _), (16, _), (17, _), (18, _), (19, _), (20, _), (21, _), (22, _), (23, _)] F ⟨rfl, rfl, rfl, rfl, rfl, rfl, rfl, rfl, rfl, rfl, rfl, rfl, rfl, rfl, rfl, rfl, rfl, rfl, rfl, rfl, trivial⟩ Tryz.mixed (by kernel_rfl) rfl (by decide) (by decide) (by kernel_rfl) (by kernel_rfl) (by kernel_rfl) (by kernel_rfl) ⟨?_, ?_, trivial⟩ (fun a w1 J => ?_) (fun a w1 om of_ hom hof J => ?_)
   ·intro a w1 hB F hA
    have S0 := S
    replace S := S.call hB
    exact pv F (fun w2 hB2 => have S := S.call hB2; y_bd rfl rfl (bd76z)) rfl rfl rfl (by decide)
   ·intro a w1 hB F hA
    have S0 := S
    replace S := S.call hB
    exact pv F (fun w2 hB2 => have S := S.call hB2; y_ld rfl rfl (S.lda (i := 11) rfl Tryz.isAgg41 Tryz.sizeOf41 rfl)) rfl rfl rfl (by decide)
   ·have F := J.fr
    have E := EX.start J S
    have hle' := S.bel.size
    replace S := S.call J.bel
    replace F := F.eP (J.at 0 rfl) rfl (d := 24) rfl rfl (y_bd rfl rfl (bd76z))
    replace F := F.eP (J.at 1 rfl) rfl (d := 25) rfl rfl (y_ld rfl rfl (S.lda (i := 11) rfl Tryz.isAgg41 Tryz.sizeOf41 rfl))
    replace S := E.st
    clear E J
    refine dsw F S rfl rfl rfl Tryz.sizeOf76 (i := 9) rfl rfl rfl rfl (oneW _) rfl rfl fun a w F S => ?_
    refine dsw F S rfl rfl rfl Tryz.sizeOf41 (i := 10) rfl rfl rfl rfl (one41 _ _ _ _ _ _ _ _) rfl rfl fun a w F S => ?_
    refine dn ?_
    refine tn <| hK6 _ _ ?_
    refine wp_ret ?_
    refine tr <| br <| lr <| br <| ?_
    exact rc22 F rfl rfl rfl (S.lda (i := 9) rfl Tryz.isAgg76 Tryz.sizeOf76 rfl) (S.lda (i := 10) rfl Tryz.isAgg41 Tryz.sizeOf41 rfl) (by rw [← hst, feedA_fix (ans1_over ho)]; exact ⟨H1, A1, c1, A2, c2, hle1, by rw [BS.want, if_pos ho]; rfl, hf1, hf2, ⟨sb, sr, A, c, vals, H, Ar, cr, hsr, hle, hE, hv, hF, (S.pick [0, 1, 2, 3, 4, 5, 6, 7, 8] _ ⟨rfl, rfl, rfl, rfl, rfl, rfl, rfl, rfl, rfl, trivial⟩ rfl)⟩⟩)
   ·have F := J.fr
    obtain rfl := Option.some.inj hom
    obtain rfl := Option.some.inj hof
    have E := EX.start J S
    have hle' := S.bel.size
    replace S := S.call J.bel
    replace F := F.eP (J.atF 0 rfl) rfl (d := 24) rfl rfl (y_bd rfl rfl (bd76z))
    replace S := E.st
    clear E J
    refine dsw F S rfl rfl rfl Tryz.sizeOf76 (i := 9) rfl rfl rfl rfl (oneW _) rfl rfl fun a w F S => ?_
    refine dv F (y_ld rfl rfl (S.lda (i := 11) rfl Tryz.isAgg41 Tryz.sizeOf41 rfl)) rfl rfl rfl fun a F => ?_
    refine dsw F S rfl rfl rfl Tryz.sizeOf41 (i := 10) rfl rfl rfl rfl (one41 _ _ _ _ _ _ _ _) rfl rfl fun a w F S => ?_
    refine dn ?_
    refine tn <| hK6 _ _ ?_
    refine wp_ret ?_
    refine tr <| br <| lr <| br <| ?_
    exact rc22 F rfl rfl rfl (S.lda (i := 9) rfl Tryz.isAgg76 Tryz.sizeOf76 rfl) (S.lda (i := 10) rfl Tryz.isAgg41 Tryz.sizeOf41 rfl) (by rw [← hst, feedA_fix (ans1_over ho)]; exact ⟨H1, A1, c1, A2, c2, hle1, by rw [BS.want, if_pos ho]; rfl, hf1, hf2, ⟨sb, sr, A, c, vals, H, Ar, cr, hsr, hle, hE, hv, hF, (S.pick [0, 1, 2, 3, 4, 5, 6, 7, 8] _ ⟨rfl, rfl, rfl, rfl, rfl, rfl, rfl, rfl, rfl, trivial⟩ rfl)⟩⟩)
  ·refine wp_skip ?_
   refine tn <| hK3 _ _ ?_
   refine sq fun K7 hK7 => ?_
   have ho : β.over = false := by simpa using hwt
   rw [if_neg (by rw [ho]; exact Bool.false_ne_true)] at F
   refine rg ?_
   refine dv F (y_mv rfl rfl) rfl rfl rfl fun a F => ?_
   refine dv F (y_mv rfl rfl) rfl rfl rfl fun a F => ?_
   refine dc F (c_f rfl rfl rfl hg) rfl rfl rfl (hans _ _ (S.ok (i := 8) rfl) S.bel) fun a v w' hr F => ?_
   obtain ⟨rfl, hb⟩ := hr
   replace S := S.call hb
   rcases opt2 (ans β.asks) with hk | ⟨k, hk⟩
   ·rw [hk] at F
    refine dv F (y_mv rfl rfl) rfl rfl rfl fun a F => ?_
    refine dv F (y_ex rfl rfl rfl) rfl rfl rfl fun a F => ?_
    refine dv F (y_ex rfl rfl rfl) rfl rfl rfl fun a F => ?_
    refine dal F S rfl Tryz.zeroValue55 rfl rfl rfl rfl fun a w b10 F S => ?_
    refine dsw F S rfl rfl rfl Tryz.sizeOf55 (i := 11) rfl rfl rfl rfl (oneK _) rfl rfl fun a w F S => ?_
    refine dv F (y_as rfl rfl) rfl rfl rfl fun a F => ?_
    refine dn ?_
    refine tn <| hK7 _ _ ?_
    refine sq fun K8 hK8 => ?_
    refine rg ?_
    refine dv F (y_mv rfl rfl) rfl rfl rfl fun a F => ?_
    refine dv F (y_nt rfl rfl) rfl rfl rfl fun a F => ?_
    refine dv F (y_mv rfl rfl) rfl rfl rfl fun a F => ?_
    refine gs F rfl rfl rfl (congrArg not rfl) rfl rfl fun a F => ?_
    refine gs F rfl rfl rfl (congrArg not rfl) rfl rfl fun a F => ?_
    refine gs F rfl rfl rfl (congrArg not rfl) rfl rfl fun a F => ?_
    refine gs F rfl rfl rfl (congrArg not rfl) rfl rfl fun a F => ?_
    refine dv F (y_pkt (congrArg not rfl) rfl rfl rfl) rfl rfl rfl fun a F => ?_
    refine dn ?_
    refine tn <| hK8 _ _ ?_
    refine ct F rfl rfl ?_
    refine sq fun K9 hK9 => ?_
    refine rg ?_
    refine dv F (y_mv rfl rfl) rfl rfl rfl fun a F => ?_
    refine dv F (y_bd rfl rfl (bd76k _)) rfl rfl rfl fun a F => ?_
    refine dv F (y_bd rfl rfl (bd41z)) rfl rfl rfl fun a F => ?_
    refine dsw F S rfl rfl rfl Tryz.sizeOf76 (i := 9) rfl rfl rfl rfl (oneW _) rfl rfl fun a w F S => ?_
    refine dsw F S rfl rfl rfl Tryz.sizeOf41 (i := 10) rfl rfl rfl rfl (one41 _ _ _ _ _ _ _ _) rfl rfl fun a w F S => ?_
    refine dn ?_
    refine tn <| hK9 _ _ ?_
    refine wp_ret ?_
    refine br <| lr <| br <| ?_
    exact rc22 F rfl rfl rfl (S.lda (i := 9) rfl Tryz.isAgg76 Tryz.sizeOf76 rfl) (S.lda (i := 10) rfl Tryz.isAgg41 Tryz.sizeOf41 rfl) (by rw [← hst, feedA_fix (ans1_none ho hk)]; exact ⟨H0, none, 0, none, 0, Hp.le_refl _, by rw [BS.want, if_neg (by rw [ho]; exact Bool.false_ne_true), out_wait ho]; rfl, by rw [out_wait ho]; exact FzS.nil, by rw [out_wait ho]; exact FzS.nil, ⟨sb, sr, A, c, vals, H, Ar, cr, hsr, hle, hE, hv, hF, (S.pick [0, 1, 2, 3, 4, 5, 6, 7, 8] _ ⟨rfl, rfl, rfl, rfl, rfl, rfl, rfl, rfl, rfl, trivial⟩ rfl)⟩⟩)
   ·rw [hk] at F
    obtain ⟨hk1, hk2⟩ := hao _ _ hk
    obtain ⟨h3, h4, h5⟩ := give_take hB ho hk1 hk2
    refine dv F (y_mv rfl rfl) rfl rfl rfl fun a F => ?_
    refine dv F (y_ex rfl rfl rfl) rfl rfl rfl fun a F => ?_
    refine dv F (y_ex rfl rfl rfl) rfl rfl rfl fun a F => ?_
    refine dal F S rfl Tryz.zeroValue55 rfl rfl rfl rfl fun a w b10 F S => ?_
    refine dsw F S rfl rfl rfl Tryz.sizeOf55 (i := 11) rfl rfl rfl rfl (oneK _) rfl rfl fun a w F S => ?_
    refine dv F (y_as rfl rfl) rfl rfl rfl fun a F => ?_
    refine dn ?_
    refine tn <| hK7 _ _ ?_
    refine sq fun K10 hK10 => ?_
    refine rg ?_
    refine dv F (y_mv rfl rfl) rfl rfl rfl fun a F => ?_
    refine dv F (y_nt rfl rfl) rfl rfl rfl fun a F => ?_
    refine dv F (y_mv rfl rfl) rfl rfl rfl fun a F => ?_
    refine gv F rfl rfl rfl (congrArg not rfl) (y_mv rfl rfl) rfl rfl fun a F => ?_
    refine gv F rfl rfl rfl (congrArg not rfl) (y_ld rfl rfl (S.lda (i := 11) rfl Tryz.isAgg55 Tryz.sizeOf55 rfl)) rfl rfl fun a F => ?_
    have hR : BE B H0 β [mr, bk b4 76 (encWn w0t), bk b5 41 ocZ, bk b10 55 (encK k)] w0 _ := ⟨sb, sr, A, c, vals, H, Ar, cr, hsr, hle, hE, hv, hF, (S.pick [0, 1, 2, 3, 4, 5, 6, 7, 8, 9, 10, 11] _ ⟨rfl, rfl, rfl, rfl, rfl, rfl, rfl, rfl, rfl, rfl, rfl, rfl, trivial⟩ rfl)⟩
    refine gc F rfl rfl rfl (congrArg not rfl) (c_f rfl rfl rfl Tryz.call25) rfl rfl (e_Give k G hS hB.j (haz _ _ hk) hR) fun a v w' hr F => ?_
    obtain ⟨rfl, hR⟩ := hr
    obtain ⟨sb, sr, A, c, vals, H, Ar, cr, hsr, hle, hE, hv, hF, S⟩ := hR
    refine gv F rfl rfl rfl (congrArg not rfl) (y_in rfl rfl rfl) rfl rfl fun a F => ?_
    refine dv F (y_pkf (congrArg not rfl) rfl rfl rfl) rfl rfl rfl fun a F => ?_
    refine dn ?_
    refine tn <| hK10 _ _ ?_
    refine cf F rfl (by rw [h3]; rfl) ?_
    refine wp_skip ?_
    exact bn <| ln (by omega) ⟨i + 1, (β.give B k).2, rfl, h4, (by rw [← hst, show 600 - i = (600 - (i + 1)) + 1 by omega]; exact congrArg (BS.feedA B ans (600 - (i + 1))) (ans1_some ho hk).symm), (by rw [h5, List.length_append, List.length_cons, List.length_nil]; omega), F.sub _ ⟨rfl, rfl, rfl, rfl, trivial⟩, ⟨sb, sr, A, c, vals, H, Ar, cr, hsr, hle, hE, hv, hF, (S.pick [0, 1, 2, 3, 4, 5, 6, 7, 8, 9, 10] _ ⟨rfl, rfl, rfl, rfl, rfl, rfl, rfl, rfl, rfl, rfl, rfl, trivial⟩ rfl)⟩⟩
end Go.Proofs.YtgcmddaibnimjaaGreatDoor
namespace Go.Proofs.YtgcmddaibnimjaaGreatDoor
open Go.RowKit Go.Eng
def AllP (w0 w' : World) (v : Value) (r : Oc × Int) : Prop := ∃ K A1 c1 A2 c2, v = .tuple [.agg (encOc r.1 A1 c1 A2 c2).toArray, .int .i64 r.2].toArray ∧ (fz K).ok w' ∧ (∀ k, (fz K).fp k → w0.heap.size ≤ k ∧ k < w'.heap.size) ∧ FzS K 2 encSt A1 r.1.outs ∧ FzS K 34 encRd A2 r.1.reads ∧ Below w0.heap.size w0 w'
def TryP (w0 w' : World) (v : Value) (r : Wnt × Oc × Int) : Prop := ∃ K A1 c1 A2 c2, v = .tuple [.agg (encWn r.1).toArray, .agg (encOc r.2.1 A1 c1 A2 c2).toArray, .int .i64 r.2.2].toArray ∧ (fz K).ok w' ∧ (∀ k, (fz K).fp k → w0.heap.size ≤ k ∧ k < w'.heap.size) ∧ FzS K 2 encSt A1 r.2.1.outs ∧ FzS K 34 encRd A2 r.2.1.reads ∧ Below w0.heap.size w0 w'
section
variable {t : ByteArray} {env : List (ByteArray × ByteArray)} {outs ins asks : List ByteArray} {files : List (ByteArray × ByteArray)} {known : List Kn}
theorem allR_bad {e n : Int} (h : commandsE t = .inl (e, n)) : allR t env outs ins asks files = (oc0, e) := by unfold allR; rw [h]
theorem allR_long {l : List Cmd} (h : commandsE t = .inr l) (hl : long files = true) : allR t env outs ins asks files = (oc0, 6) := by unfold allR; rw [h]; exact if_pos hl
theorem allR_ok {l : List Cmd} (h : commandsE t = .inr l) (hl : long files = false) : allR t env outs ins asks files = ((runA env outs ins asks l (tellA files)).out, 0) := by unfold allR; rw [h]; exact if_neg (by rw [hl]; exact Bool.false_ne_true)
theorem tryR_bad {e n : Int} (h : commandsE t = .inl (e, n)) : tryR t env outs ins asks known = (w0t, oc0, e) := by unfold tryR; rw [h]
theorem tryR_long {l : List Cmd} (h : commandsE t = .inr l) (hl : longK known = true) : tryR t env outs ins asks known = (w0t, oc0, 6) := by unfold tryR; rw [h]; exact if_pos hl
theorem tryR_ok {l : List Cmd} (h : commandsE t = .inr l) (hl : longK known = false) : tryR t env outs ins asks known = ((runA env outs ins asks l (kfind known)).want, (runA env outs ins asks l (kfind known)).out, 0) := by unfold tryR; rw [h]; exact if_neg (by rw [hl]; exact Bool.false_ne_true)
end
theorem run_box {B : BC} {env : List (ByteArray × ByteArray)} {outs ins asks : List ByteArray} {l : List Cmd} {ans : ByteArray → Option Kn} (h : SameB B (mkBC env outs ins asks)) : ((BS.start l).go B).feedA B ans 600 = runA env outs ins asks l ans := by
 unfold runA run0
 rw [go_same h, feedA_same h]
theorem cell_bk {W : World} {b e : Nat} {v : Value} (h : (bk b e [v]).ok W) : W.cell? ⟨b, 0, none⟩ = some v := by
 have h' : W.heap[b]? = some (.cells [v].toArray e (0, 0)) := h
 simp [World.cell?, h']
theorem tell_le {files : List (ByteArray × ByteArray)} {p : ByteArray} {k : Kn} (h : ez1 files ≤ 100000000) (hk : tellA files p = some k) : k.data.size ≤ 100000000 := by
 cases hk
 unfold tell
 split
 ·show eB.size ≤ _; decide
 ·rename_i f hf
  have := ez1_mem (List.mem_of_find?_eq_some hf)
  show f.2.size ≤ _; omega
theorem begP_cases {w0 w : World} {v : Value} {env : List (ByteArray × ByteArray)} {outs ins asks : List ByteArray} {mr : Res} {lg : Bool} {t : ByteArray} (h : BegP w0 w v env outs ins asks mr lg (commandsE t)) :
  (∃ e n, commandsE t = .inl (e, n) ∧ ¬ e = 0 ∧ v = .tuple [.pointer none, .int .i64 e].toArray ∧ St w0 w [mr]) ∨ (∃ l, commandsE t = .inr l ∧ lg = true ∧ v = .tuple [.pointer none, .int .i64 6].toArray ∧ St w0 w [mr]) ∨
  (∃ l B Hb, commandsE t = .inr l ∧ lg = false ∧ B.C.env = env ∧ B.outs = outs ∧ B.ins = ins ∧ B.asks = asks ∧ v = .tuple [pt B.bx, .int .i64 0].toArray ∧ BE B Hb ((BS.start l).go B) [mr] w0 w) := by
 generalize hr : commandsE t = r at h
 match r, h with
 | .inl (e, n), ⟨h1, h2⟩ => exact .inl ⟨e, n, rfl, com_ne hr, h1, h2⟩
 | .inr l, h =>
  cases lg with
  | true => obtain ⟨h1, h2⟩ := h; exact .inr (.inl ⟨l, rfl, rfl, h1, h2⟩)
  | false => obtain ⟨B, H0, h1, h2, h3, h4, h5, h6⟩ := h; exact .inr (.inr ⟨l, B, H0, rfl, rfl, h1, h2, h3, h4, h5, h6⟩)
theorem c_All {u1 u2 : Value} {t : ByteArray} {Ae Ai Aa Ao : Option Addr} {ce ci ca co : Nat} {env : List (ByteArray × ByteArray)} {ins asks outs : List ByteArray} {Ak : Option Addr} {ck : Nat} {files : List (ByteArray × ByteArray)} (w0 : World) (G : Gl w0) (he : Sl w0 2 encSt Ae env) (hi : Sl w0 1 encS Ai ins) (ha : Sl w0 1 encS Aa asks) (ho : Sl w0 1 encS Ao outs) (hz1 : t.size ≤ 1000000) (hz2 : env.length ≤ 1000000) (hz3 : ∀ x ∈ env, x.2.size ≤ 1000000000) (hz4 : outs.length ≤ 1000000 ∧ ins.length ≤ 1000000 ∧ asks.length ≤ 1000000) (hz5 : ∀ x ∈ asks, x.size ≤ 1000000) (hz6 : ∀ x ∈ outs, x.size ≤ 1000000) (hX : Sl w0 2 encSt Ak files) (hfz : ez1 files ≤ 100000000) : Calls Tryz.prog 33 [.agg (actC u1 u2 t Ae env.length ce Ai ins.length ci Aa asks.length ca Ao outs.length co).toArray, .slice Ak files.length ck].toArray w0 (Ret fun v w' => AllP w0 w' v (allR t env outs ins asks files)) := by
 refine ent Tryz.func33 Tryz.ntmps33 rfl rfl ?_
 intro a F
 have S := St.refl w0
 refine sq fun K1 hK1 => ?_
 refine rg ?_
 refine dbx F S rfl rfl rfl rfl rfl rfl fun a w b2 F S => ?_
 refine dbx F S rfl rfl rfl rfl rfl rfl fun a w b3 F S => ?_
 refine dal F S rfl Tryz.zeroValue41 rfl rfl rfl rfl fun a w b4 F S => ?_
 refine dv F (y_as rfl rfl) rfl rfl rfl fun a F => ?_
 refine dn ?_
 refine tn <| hK1 _ _ ?_
 refine sq fun K2 hK2 => ?_
 have hfl := ez1_len files
 refine rg ?_
 refine dv F (y_ld rfl rfl (S.ld (i := 1) rfl rfl Tryz.isAgg38)) rfl rfl rfl fun a F => ?_
 refine dc F (c_f rfl rfl rfl Tryz.call81) rfl rfl rfl (c_ContainsFuncF _ (fun x => decide (65536 < x.2.size)) 82 [] Tryz.call82 (fun x hx W hb => c_isLongF x W) (hX.st S) (by omega)) fun a v w' hr F => ?_
 obtain ⟨rfl, hb⟩ := hr
 replace S := S.call hb
 refine dv F (y_as rfl rfl) rfl rfl rfl fun a F => ?_
 refine dn ?_
 refine tn <| hK2 _ _ ?_
 refine sq fun K3 hK3 => ?_
 refine rg ?_
 refine dv F (y_ld rfl rfl (S.lda (i := 0) rfl Tryz.isAgg27 Tryz.sizeOf27 rfl)) rfl rfl rfl fun a F => ?_
 refine dv F (y_mv rfl rfl) rfl rfl rfl fun a F => ?_
 obtain ⟨Sp, hSep⟩ := St.packS (xs := []) (ys := [bk b2 27 (actC u1 u2 t Ae env.length ce Ai ins.length ci Aa asks.length ca Ao outs.length co), bk b3 38 [.slice Ak files.length ck], bk b4 41 ocZ]) (S.pick [0, 1, 2] _ ⟨rfl, rfl, rfl, trivial⟩ rfl)
 refine dc F (c_f rfl rfl rfl Tryz.call76) rfl rfl rfl (c_begin (mr := pk _) (long files) G he hi ha ho hz1 hz2 hz3 hz4 hz5 Sp) fun a v w' hr F => ?_
 have hN := hr
 clear S
 rcases begP_cases hN with ⟨e, n, hcm, hne, rfl, S⟩ | ⟨lc, hcm, hlg, rfl, S⟩ | ⟨lc, B, Hb, hcm, hlg, hbe, hbo, hbi, hba, rfl, hR⟩
 ·replace S := St.unpS (xs := []) S hSep
  refine dv F (y_mv rfl rfl) rfl rfl rfl fun a F => ?_
  refine dv F (y_ex rfl rfl rfl) rfl rfl rfl fun a F => ?_
  refine dv F (y_ex rfl rfl rfl) rfl rfl rfl fun a F => ?_
  refine dv F (y_as rfl rfl) rfl rfl rfl fun a F => ?_
  refine dv F (y_as rfl rfl) rfl rfl rfl fun a F => ?_
  refine dn ?_
  refine tn <| hK3 _ _ ?_
  refine sq fun K4 hK4 => ?_
  refine sq fun K5 hK5 => ?_
  refine rg ?_
  refine dv F (y_mv rfl rfl) rfl rfl rfl fun a F => ?_
  refine dv F (y_in rfl rfl rfl) rfl rfl rfl fun a F => ?_
  refine dn ?_
  refine tn <| hK5 _ _ ?_
  refine ct F rfl (by simpa using hne) ?_
  refine sq fun K6 hK6 => ?_
  refine rg ?_
  refine dv F (y_bd rfl rfl (bd41z)) rfl rfl rfl fun a F => ?_
  refine dv F (y_mv rfl rfl) rfl rfl rfl fun a F => ?_
  refine dsw F S rfl rfl rfl Tryz.sizeOf41 (i := 2) rfl rfl rfl rfl (one41 _ _ _ _ _ _ _ _) rfl rfl fun a w F S => ?_
  refine dv F (y_as rfl rfl) rfl rfl rfl fun a F => ?_
  refine dn ?_
  refine tn <| hK6 _ _ ?_
  refine wp_ret ?_
  refine tr <| ?_
  exact rc2t F rfl rfl rfl (S.lda (i := 2) rfl Tryz.isAgg41 Tryz.sizeOf41 rfl) (by first | (rw [allR_bad hcm]; exact ⟨fun _ => none, none, 0, none, 0, rfl, (fun k o h => by cases h), (fun k h => by cases h), FzS.nil, FzS.nil, S.bel⟩) | (rw [allR_long hcm hlg]; exact ⟨fun _ => none, none, 0, none, 0, rfl, (fun k o h => by cases h), (fun k h => by cases h), FzS.nil, FzS.nil, S.bel⟩))
 ·have hne : ¬ (6 : Int) = 0 := by decide
  replace S := St.unpS (xs := []) S hSep
  refine dv F (y_mv rfl rfl) rfl rfl rfl fun a F => ?_
  refine dv F (y_ex rfl rfl rfl) rfl rfl rfl fun a F => ?_
  refine dv F (y_ex rfl rfl rfl) rfl rfl rfl fun a F => ?_
  refine dv F (y_as rfl rfl) rfl rfl rfl fun a F => ?_
  refine dv F (y_as rfl rfl) rfl rfl rfl fun a F => ?_
  refine dn ?_
  refine tn <| hK3 _ _ ?_
  refine sq fun K7 hK7 => ?_
  refine sq fun K8 hK8 => ?_
  refine rg ?_
  refine dv F (y_mv rfl rfl) rfl rfl rfl fun a F => ?_
  refine dv F (y_in rfl rfl rfl) rfl rfl rfl fun a F => ?_
  refine dn ?_
  refine tn <| hK8 _ _ ?_
  refine ct F rfl (by first | (simp; done) | simpa using hne) ?_
  refine sq fun K9 hK9 => ?_
  refine rg ?_
  refine dv F (y_bd rfl rfl (bd41z)) rfl rfl rfl fun a F => ?_
  refine dv F (y_mv rfl rfl) rfl rfl rfl fun a F => ?_
  refine dsw F S rfl rfl rfl Tryz.sizeOf41 (i := 2) rfl rfl rfl rfl (one41 _ _ _ _ _ _ _ _) rfl rfl fun a w F S => ?_
  refine dv F (y_as rfl rfl) rfl rfl rfl fun a F => ?_
  refine dn ?_
  refine tn <| hK9 _ _ ?_
  refine wp_ret ?_
  refine tr <| ?_
  exact rc2t F rfl rfl rfl (S.lda (i := 2) rfl Tryz.isAgg41 Tryz.sizeOf41 rfl) (by first | (rw [allR_bad hcm]; exact ⟨fun _ => none, none, 0, none, 0, rfl, (fun k o h => by cases h), (fun k h => by cases h), FzS.nil, FzS.nil, S.bel⟩) | (rw [allR_long hcm hlg]; exact ⟨fun _ => none, none, 0, none, 0, rfl, (fun k o h => by cases h), (fun k h => by cases h), FzS.nil, FzS.nil, S.bel⟩))
 ·replace hR := BE.un hR hSep
  have hSm : BSm B := bsm_of hbe hbo hbi hba hz2 hz3 hz4 hz5 hz6
  have hB := start_ok' (B := B) hcm
  obtain ⟨sb, sr, A, c, vals, H, Ar, cr, hsr, hle, hE, hv, hF, S⟩ := hR
  refine dv F (y_mv rfl rfl) rfl rfl rfl fun a F => ?_
  refine dv F (y_ex rfl rfl rfl) rfl rfl rfl fun a F => ?_
  refine dv F (y_ex rfl rfl rfl) rfl rfl rfl fun a F => ?_
  refine dv F (y_as rfl rfl) rfl rfl rfl fun a F => ?_
  refine dv F (y_as rfl rfl) rfl rfl rfl fun a F => ?_
  refine dn ?_
  refine tn <| hK3 _ _ ?_
  refine sq fun K10 hK10 => ?_
  refine sq fun K11 hK11 => ?_
  refine rg ?_
  refine dv F (y_mv rfl rfl) rfl rfl rfl fun a F => ?_
  refine dv F (y_in rfl rfl rfl) rfl rfl rfl fun a F => ?_
  refine dn ?_
  refine tn <| hK11 _ _ ?_
  refine cf F rfl rfl ?_
  refine wp_skip ?_
  refine tn <| hK10 _ _ ?_
  refine sq fun K12 hK12 => ?_
  refine rg ?_
  refine dv F (y_mv rfl rfl) rfl rfl rfl fun a F => ?_
  refine dv F (y_mf rfl rfl) rfl rfl rfl fun a F => ?_
  obtain ⟨γ, hγ⟩ : ∃ γ, runA env outs ins asks lc (tellA files) = γ := ⟨_, rfl⟩
  have hγ2 := (run_box (B := B) (ans := tellA files) (same_mk hbe hbo hbi hba)).trans hγ
  have hAl := tellA_ok (long_no hlg)
  have hR : BE B Hb ((BS.start lc).go B) [bk b2 27 (actC u1 u2 t Ae env.length ce Ai ins.length ci Aa asks.length ca Ao outs.length co), bk b3 38 [.slice Ak files.length ck], bk b4 41 ocZ] w0 _ := ⟨sb, sr, A, c, vals, H, Ar, cr, hsr, hle, hE, hv, hF, (S.pick [0, 1, 2, 3, 4, 5, 6, 7, 8, 9, 10] _ ⟨rfl, rfl, rfl, rfl, rfl, rfl, rfl, rfl, rfl, rfl, rfl, trivial⟩ rfl)⟩
  obtain ⟨hR, hSep⟩ := hR.pk
  refine dc F (c_f rfl rfl rfl Tryz.call77) rfl rfl rfl (c_fGoOn (mr := pk _) (tellA files) 83 [pt b3] Tryz.call83 (fun p W hm hb => c_ansF p W (cell_bk (hm 1 _ rfl)) (hX.below hb) (by omega)) hAl (fun p k hk => Nat.le_trans (tell_le hfz hk) (by decide)) G hSm hB hγ2 hR) fun a v w' hr F => ?_
  obtain ⟨H1, A1, c1, A2, c2, hle1, rfl, hf1, hf2, hR⟩ := hr
  replace hR := BE.un hR hSep
  obtain ⟨sb, sr, A, c, vals, H, Ar, cr, hsr, hle, hE, hv, hF, S⟩ := hR
  refine dv F (y_mv rfl rfl) rfl rfl rfl fun a F => ?_
  refine dv F (y_ex rfl rfl rfl) rfl rfl rfl fun a F => ?_
  refine dv F (y_ex rfl rfl rfl) rfl rfl rfl fun a F => ?_
  refine dal F S rfl Tryz.zeroValue76 rfl rfl rfl rfl fun a w b9 F S => ?_
  refine dal F S rfl Tryz.zeroValue41 rfl rfl rfl rfl fun a w b10 F S => ?_
  refine dsw F S rfl rfl rfl Tryz.sizeOf76 (i := 11) rfl rfl rfl rfl (oneW _) rfl rfl fun a w F S => ?_
  refine dsw F S rfl rfl rfl Tryz.sizeOf41 (i := 12) rfl rfl rfl rfl (one41 _ _ _ _ _ _ _ _) rfl rfl fun a w F S => ?_
  refine dn ?_
  refine tn <| hK12 _ _ ?_
  refine sq fun K13 hK13 => ?_
  refine rg ?_
  refine dv F (y_ld rfl rfl (S.lda (i := 12) rfl Tryz.isAgg41 Tryz.sizeOf41 rfl)) rfl rfl rfl fun a F => ?_
  refine dsw F S rfl rfl rfl Tryz.sizeOf41 (i := 10) rfl rfl rfl rfl (one41 _ _ _ _ _ _ _ _) rfl rfl fun a w F S => ?_
  refine dv F (y_as rfl rfl) rfl rfl rfl fun a F => ?_
  refine dn ?_
  refine tn <| hK13 _ _ ?_
  refine wp_ret ?_
  refine ?_
  exact rc2t F rfl rfl rfl (S.lda (i := 10) rfl Tryz.isAgg41 Tryz.sizeOf41 rfl) ⟨H, A1, c1, A2, c2, by rw [allR_ok hcm hlg, hγ]; rfl, (S.own 3 _ rfl).1, (S.own 3 _ rfl).2, by rw [allR_ok hcm hlg, hγ]; exact hf1.le hle, by rw [allR_ok hcm hlg, hγ]; exact hf2.le hle, S.bel⟩
theorem c_Try {u1 u2 : Value} {t : ByteArray} {Ae Ai Aa Ao : Option Addr} {ce ci ca co : Nat} {env : List (ByteArray × ByteArray)} {ins asks outs : List ByteArray} {Ak : Option Addr} {ck : Nat} {known : List Kn} (w0 : World) (G : Gl w0) (he : Sl w0 2 encSt Ae env) (hi : Sl w0 1 encS Ai ins) (ha : Sl w0 1 encS Aa asks) (ho : Sl w0 1 encS Ao outs) (hz1 : t.size ≤ 1000000) (hz2 : env.length ≤ 1000000) (hz3 : ∀ x ∈ env, x.2.size ≤ 1000000000) (hz4 : outs.length ≤ 1000000 ∧ ins.length ≤ 1000000 ∧ asks.length ≤ 1000000) (hz5 : ∀ x ∈ asks, x.size ≤ 1000000) (hz6 : ∀ x ∈ outs, x.size ≤ 1000000) (hX : Sl w0 3 encK Ak known) (hfz : kz known ≤ 100000000) : Calls Tryz.prog 31 [.agg (actC u1 u2 t Ae env.length ce Ai ins.length ci Aa asks.length ca Ao outs.length co).toArray, .slice Ak known.length ck].toArray w0 (Ret fun v w' => TryP w0 w' v (tryR t env outs ins asks known)) := by
 refine ent Tryz.func31 Tryz.ntmps31 rfl rfl ?_
 intro a F
 have S := St.refl w0
 refine sq fun K1 hK1 => ?_
 refine rg ?_
 refine dbx F S rfl rfl rfl rfl rfl rfl fun a w b2 F S => ?_
 refine dbx F S rfl rfl rfl rfl rfl rfl fun a w b3 F S => ?_
 refine dal F S rfl Tryz.zeroValue76 rfl rfl rfl rfl fun a w b4 F S => ?_
 refine dal F S rfl Tryz.zeroValue41 rfl rfl rfl rfl fun a w b5 F S => ?_
 refine dv F (y_as rfl rfl) rfl rfl rfl fun a F => ?_
 refine dn ?_
 refine tn <| hK1 _ _ ?_
 refine sq fun K2 hK2 => ?_
 have hfl := kz_len known
 refine rg ?_
 refine dv F (y_ld rfl rfl (S.ld (i := 1) rfl rfl Tryz.isAgg28)) rfl rfl rfl fun a F => ?_
 refine dc F (c_f rfl rfl rfl Tryz.call74) rfl rfl rfl (c_ContainsFuncK _ (fun k => k.is && decide (65536 < k.data.size)) 75 [] Tryz.call75 (fun x hx W hb => c_isLongK x W) (hX.st S) (by omega)) fun a v w' hr F => ?_
 obtain ⟨rfl, hb⟩ := hr
 replace S := S.call hb
 refine dv F (y_as rfl rfl) rfl rfl rfl fun a F => ?_
 refine dn ?_
 refine tn <| hK2 _ _ ?_
 refine sq fun K3 hK3 => ?_
 refine rg ?_
 refine dv F (y_ld rfl rfl (S.lda (i := 0) rfl Tryz.isAgg27 Tryz.sizeOf27 rfl)) rfl rfl rfl fun a F => ?_
 refine dv F (y_mv rfl rfl) rfl rfl rfl fun a F => ?_
 obtain ⟨Sp, hSep⟩ := St.packS (xs := []) (ys := [bk b2 27 (actC u1 u2 t Ae env.length ce Ai ins.length ci Aa asks.length ca Ao outs.length co), bk b3 28 [.slice Ak known.length ck], bk b4 76 (encWn w0t), bk b5 41 ocZ]) (S.pick [0, 1, 2, 3] _ ⟨rfl, rfl, rfl, rfl, trivial⟩ rfl)
 refine dc F (c_f rfl rfl rfl Tryz.call76) rfl rfl rfl (c_begin (mr := pk _) (longK known) G he hi ha ho hz1 hz2 hz3 hz4 hz5 Sp) fun a v w' hr F => ?_
 have hN := hr
 clear S
 rcases begP_cases hN with ⟨e, n, hcm, hne, rfl, S⟩ | ⟨lc, hcm, hlg, rfl, S⟩ | ⟨lc, B, Hb, hcm, hlg, hbe, hbo, hbi, hba, rfl, hR⟩
 ·replace S := St.unpS (xs := []) S hSep
  refine dv F (y_mv rfl rfl) rfl rfl rfl fun a F => ?_
  refine dv F (y_ex rfl rfl rfl) rfl rfl rfl fun a F => ?_
  refine dv F (y_ex rfl rfl rfl) rfl rfl rfl fun a F => ?_
  refine dv F (y_as rfl rfl) rfl rfl rfl fun a F => ?_
  refine dv F (y_as rfl rfl) rfl rfl rfl fun a F => ?_
  refine dn ?_
  refine tn <| hK3 _ _ ?_
  refine sq fun K4 hK4 => ?_
  refine sq fun K5 hK5 => ?_
  refine rg ?_
  refine dv F (y_mv rfl rfl) rfl rfl rfl fun a F => ?_
  refine dv F (y_in rfl rfl rfl) rfl rfl rfl fun a F => ?_
  refine dn ?_
  refine tn <| hK5 _ _ ?_
  refine ct F rfl (by simpa using hne) ?_
  refine sq fun K6 hK6 => ?_
  refine rg ?_
  refine dv F (y_bd rfl rfl (bd76z)) rfl rfl rfl fun a F => ?_
  refine dv F (y_bd rfl rfl (bd41z)) rfl rfl rfl fun a F => ?_
  refine dv F (y_mv rfl rfl) rfl rfl rfl fun a F => ?_
  refine dsw F S rfl rfl rfl Tryz.sizeOf76 (i := 2) rfl rfl rfl rfl (oneW _) rfl rfl fun a w F S => ?_
  refine dsw F S rfl rfl rfl Tryz.sizeOf41 (i := 3) rfl rfl rfl rfl (one41 _ _ _ _ _ _ _ _) rfl rfl fun a w F S => ?_
  refine dv F (y_as rfl rfl) rfl rfl rfl fun a F => ?_
  refine dn ?_
  refine tn <| hK6 _ _ ?_
  refine wp_ret ?_
  refine tr <| ?_
  exact rc23 F rfl rfl rfl rfl (S.lda (i := 2) rfl Tryz.isAgg76 Tryz.sizeOf76 rfl) (S.lda (i := 3) rfl Tryz.isAgg41 Tryz.sizeOf41 rfl) (by first | (rw [tryR_bad hcm]; exact ⟨fun _ => none, none, 0, none, 0, rfl, (fun k o h => by cases h), (fun k h => by cases h), FzS.nil, FzS.nil, S.bel⟩) | (rw [tryR_long hcm hlg]; exact ⟨fun _ => none, none, 0, none, 0, rfl, (fun k o h => by cases h), (fun k h => by cases h), FzS.nil, FzS.nil, S.bel⟩))
 ·have hne : ¬ (6 : Int) = 0 := by decide
  replace S := St.unpS (xs := []) S hSep
  refine dv F (y_mv rfl rfl) rfl rfl rfl fun a F => ?_
  refine dv F (y_ex rfl rfl rfl) rfl rfl rfl fun a F => ?_
  refine dv F (y_ex rfl rfl rfl) rfl rfl rfl fun a F => ?_
  refine dv F (y_as rfl rfl) rfl rfl rfl fun a F => ?_
  refine dv F (y_as rfl rfl) rfl rfl rfl fun a F => ?_
  refine dn ?_
  refine tn <| hK3 _ _ ?_
  refine sq fun K7 hK7 => ?_
  refine sq fun K8 hK8 => ?_
  refine rg ?_
  refine dv F (y_mv rfl rfl) rfl rfl rfl fun a F => ?_
  refine dv F (y_in rfl rfl rfl) rfl rfl rfl fun a F => ?_
  refine dn ?_
  refine tn <| hK8 _ _ ?_
  refine ct F rfl (by first | (simp; done) | simpa using hne) ?_
  refine sq fun K9 hK9 => ?_
  refine rg ?_
  refine dv F (y_bd rfl rfl (bd76z)) rfl rfl rfl fun a F => ?_
  refine dv F (y_bd rfl rfl (bd41z)) rfl rfl rfl fun a F => ?_
  refine dv F (y_mv rfl rfl) rfl rfl rfl fun a F => ?_
  refine dsw F S rfl rfl rfl Tryz.sizeOf76 (i := 2) rfl rfl rfl rfl (oneW _) rfl rfl fun a w F S => ?_
  refine dsw F S rfl rfl rfl Tryz.sizeOf41 (i := 3) rfl rfl rfl rfl (one41 _ _ _ _ _ _ _ _) rfl rfl fun a w F S => ?_
  refine dv F (y_as rfl rfl) rfl rfl rfl fun a F => ?_
  refine dn ?_
  refine tn <| hK9 _ _ ?_
  refine wp_ret ?_
  refine tr <| ?_
  exact rc23 F rfl rfl rfl rfl (S.lda (i := 2) rfl Tryz.isAgg76 Tryz.sizeOf76 rfl) (S.lda (i := 3) rfl Tryz.isAgg41 Tryz.sizeOf41 rfl) (by first | (rw [tryR_bad hcm]; exact ⟨fun _ => none, none, 0, none, 0, rfl, (fun k o h => by cases h), (fun k h => by cases h), FzS.nil, FzS.nil, S.bel⟩) | (rw [tryR_long hcm hlg]; exact ⟨fun _ => none, none, 0, none, 0, rfl, (fun k o h => by cases h), (fun k h => by cases h), FzS.nil, FzS.nil, S.bel⟩))
 ·replace hR := BE.un hR hSep
  have hSm : BSm B := bsm_of hbe hbo hbi hba hz2 hz3 hz4 hz5 hz6
  have hB := start_ok' (B := B) hcm
  obtain ⟨sb, sr, A, c, vals, H, Ar, cr, hsr, hle, hE, hv, hF, S⟩ := hR
  refine dv F (y_mv rfl rfl) rfl rfl rfl fun a F => ?_
  refine dv F (y_ex rfl rfl rfl) rfl rfl rfl fun a F => ?_
  refine dv F (y_ex rfl rfl rfl) rfl rfl rfl fun a F => ?_
  refine dv F (y_as rfl rfl) rfl rfl rfl fun a F => ?_
  refine dv F (y_as rfl rfl) rfl rfl rfl fun a F => ?_
  refine dn ?_
  refine tn <| hK3 _ _ ?_
  refine sq fun K10 hK10 => ?_
  refine sq fun K11 hK11 => ?_
  refine rg ?_
  refine dv F (y_mv rfl rfl) rfl rfl rfl fun a F => ?_
  refine dv F (y_in rfl rfl rfl) rfl rfl rfl fun a F => ?_
  refine dn ?_
  refine tn <| hK11 _ _ ?_
  refine cf F rfl rfl ?_
  refine wp_skip ?_
  refine tn <| hK10 _ _ ?_
  refine sq fun K12 hK12 => ?_
  refine rg ?_
  refine dv F (y_mv rfl rfl) rfl rfl rfl fun a F => ?_
  refine dv F (y_mf rfl rfl) rfl rfl rfl fun a F => ?_
  obtain ⟨γ, hγ⟩ : ∃ γ, runA env outs ins asks lc (kfind known) = γ := ⟨_, rfl⟩
  have hγ2 := (run_box (B := B) (ans := kfind known) (same_mk hbe hbo hbi hba)).trans hγ
  have hAl := kfind_aok (longK_no hlg)
  have hR : BE B Hb ((BS.start lc).go B) [bk b2 27 (actC u1 u2 t Ae env.length ce Ai ins.length ci Aa asks.length ca Ao outs.length co), bk b3 28 [.slice Ak known.length ck], bk b4 76 (encWn w0t), bk b5 41 ocZ] w0 _ := ⟨sb, sr, A, c, vals, H, Ar, cr, hsr, hle, hE, hv, hF, (S.pick [0, 1, 2, 3, 4, 5, 6, 7, 8, 9, 10, 11] _ ⟨rfl, rfl, rfl, rfl, rfl, rfl, rfl, rfl, rfl, rfl, rfl, rfl, trivial⟩ rfl)⟩
  obtain ⟨hR, hSep⟩ := hR.pk
  refine dc F (c_f rfl rfl rfl Tryz.call77) rfl rfl rfl (c_fGoOn (mr := pk _) (kfind known) 78 [pt b3] Tryz.call78 (fun p W hm hb => c_ansK p W (cell_bk (hm 1 _ rfl)) (hX.below hb) (by omega)) hAl (fun p k hk => by have := kz_mem (kfind_mem hk).1; omega) G hSm hB hγ2 hR) fun a v w' hr F => ?_
  obtain ⟨H1, A1, c1, A2, c2, hle1, rfl, hf1, hf2, hR⟩ := hr
  replace hR := BE.un hR hSep
  obtain ⟨sb, sr, A, c, vals, H, Ar, cr, hsr, hle, hE, hv, hF, S⟩ := hR
  refine dv F (y_mv rfl rfl) rfl rfl rfl fun a F => ?_
  refine dv F (y_ex rfl rfl rfl) rfl rfl rfl fun a F => ?_
  refine dv F (y_ex rfl rfl rfl) rfl rfl rfl fun a F => ?_
  refine dal F S rfl Tryz.zeroValue76 rfl rfl rfl rfl fun a w b10 F S => ?_
  refine dal F S rfl Tryz.zeroValue41 rfl rfl rfl rfl fun a w b11 F S => ?_
  refine dsw F S rfl rfl rfl Tryz.sizeOf76 (i := 12) rfl rfl rfl rfl (oneW _) rfl rfl fun a w F S => ?_
  refine dsw F S rfl rfl rfl Tryz.sizeOf41 (i := 13) rfl rfl rfl rfl (one41 _ _ _ _ _ _ _ _) rfl rfl fun a w F S => ?_
  refine dn ?_
  refine tn <| hK12 _ _ ?_
  refine sq fun K13 hK13 => ?_
  refine rpF [.p, .p] 2 1 [[], []] [(0, _), (1, _), (2, _), (3, _), (4, _), (5, _), (6, _), (7, _), (8, _), (9, _), (10, _), (11, _), (12, _), (13, _), (14, _), (15, _), (16, _), (17, _), (18, _), (19, _), (20, _), (21, _), (25, _), (26, _), (27, _), (28, _), (29, _), (30, _)] F ⟨rfl, rfl, rfl, rfl, rfl, rfl, rfl, rfl, rfl, rfl, rfl, rfl, rfl, rfl, rfl, rfl, rfl, rfl, rfl, rfl, rfl, rfl, rfl, rfl, rfl, rfl, rfl, rfl, trivial⟩ Tryz.mixed (by kernel_rfl) rfl (by decide) (by decide) (by kernel_rfl) (by kernel_rfl) (by kernel_rfl) (by kernel_rfl) ⟨?_, ?_, trivial⟩ (fun a w1 J => ?_) (fun a w1 om of_ hom hof J => ?_)
  ·intro a w1 hB F hA
   have S0 := S
   replace S := S.call hB
   exact pv F (fun w2 hB2 => have S := S.call hB2; y_ld rfl rfl (S.lda (i := 12) rfl Tryz.isAgg76 Tryz.sizeOf76 rfl)) rfl rfl rfl (by decide)
  ·intro a w1 hB F hA
   have S0 := S
   replace S := S.call hB
   exact pv F (fun w2 hB2 => have S := S.call hB2; y_ld rfl rfl (S.lda (i := 13) rfl Tryz.isAgg41 Tryz.sizeOf41 rfl)) rfl rfl rfl (by decide)
  ·have F := J.fr
   have E := EX.start J S
   have hle' := S.bel.size
   replace S := S.call J.bel
   replace F := F.eP (J.at 0 rfl) rfl (d := 31) rfl rfl (y_ld rfl rfl (S.lda (i := 12) rfl Tryz.isAgg76 Tryz.sizeOf76 rfl))
   replace F := F.eP (J.at 1 rfl) rfl (d := 32) rfl rfl (y_ld rfl rfl (S.lda (i := 13) rfl Tryz.isAgg41 Tryz.sizeOf41 rfl))
   replace S := E.st
   clear E J
   refine dsw F S rfl rfl rfl Tryz.sizeOf76 (i := 10) rfl rfl rfl rfl (oneW _) rfl rfl fun a w F S => ?_
   refine dsw F S rfl rfl rfl Tryz.sizeOf41 (i := 11) rfl rfl rfl rfl (one41 _ _ _ _ _ _ _ _) rfl rfl fun a w F S => ?_
   refine dv F (y_as rfl rfl) rfl rfl rfl fun a F => ?_
   refine dn ?_
   refine tn <| hK13 _ _ ?_
   refine wp_ret ?_
   refine ?_
   exact rc23 F rfl rfl rfl rfl (S.lda (i := 10) rfl Tryz.isAgg76 Tryz.sizeOf76 rfl) (S.lda (i := 11) rfl Tryz.isAgg41 Tryz.sizeOf41 rfl) ⟨H, A1, c1, A2, c2, by rw [tryR_ok hcm hlg, hγ]; rfl, (S.own 3 _ rfl).1, (S.own 3 _ rfl).2, by rw [tryR_ok hcm hlg, hγ]; exact hf1.le hle, by rw [tryR_ok hcm hlg, hγ]; exact hf2.le hle, S.bel⟩
  ·have F := J.fr
   obtain rfl := Option.some.inj hom
   obtain rfl := Option.some.inj hof
   have E := EX.start J S
   have hle' := S.bel.size
   replace S := S.call J.bel
   replace F := F.eP (J.atF 0 rfl) rfl (d := 31) rfl rfl (y_ld rfl rfl (S.lda (i := 12) rfl Tryz.isAgg76 Tryz.sizeOf76 rfl))
   replace S := E.st
   clear E J
   refine dsw F S rfl rfl rfl Tryz.sizeOf76 (i := 10) rfl rfl rfl rfl (oneW _) rfl rfl fun a w F S => ?_
   refine dv F (y_ld rfl rfl (S.lda (i := 13) rfl Tryz.isAgg41 Tryz.sizeOf41 rfl)) rfl rfl rfl fun a F => ?_
   refine dsw F S rfl rfl rfl Tryz.sizeOf41 (i := 11) rfl rfl rfl rfl (one41 _ _ _ _ _ _ _ _) rfl rfl fun a w F S => ?_
   refine dv F (y_as rfl rfl) rfl rfl rfl fun a F => ?_
   refine dn ?_
   refine tn <| hK13 _ _ ?_
   refine wp_ret ?_
   refine ?_
   exact rc23 F rfl rfl rfl rfl (S.lda (i := 10) rfl Tryz.isAgg76 Tryz.sizeOf76 rfl) (S.lda (i := 11) rfl Tryz.isAgg41 Tryz.sizeOf41 rfl) ⟨H, A1, c1, A2, c2, by rw [tryR_ok hcm hlg, hγ]; rfl, (S.own 3 _ rfl).1, (S.own 3 _ rfl).2, by rw [tryR_ok hcm hlg, hγ]; exact hf1.le hle, by rw [tryR_ok hcm hlg, hγ]; exact hf2.le hle, S.bel⟩
end Go.Proofs.YtgcmddaibnimjaaGreatDoor
namespace Go.Proofs.YtgcmddaibnimjaaGreatDoor
open Go.RowKit Go.Eng
theorem ez1_add2 {l : List (ByteArray × ByteArray)} {j : Nat} (h : j < l.length) : ((ez1 (l.take j) : Nat) : Int) + (l[j].1.size : Int) + (l[j].2.size : Int) + 1 = ((ez1 (l.take (j + 1)) : Nat) : Int) := by rw [ez1_succ h]; omega
theorem ffind_no {xs : List (ByteArray × ByteArray)} {p : ByteArray} (h : ∀ y ∈ xs, ¬ y.1 = p) : ffind xs p = none := by
 unfold ffind
 rw [List.find?_eq_none]
 intro y hy
 simpa using h y hy
theorem no_moreF {xs : List (ByteArray × ByteArray)} {p : ByteArray} {i : Nat} (hi : i < xs.length) (h : ∀ y ∈ xs.take i, ¬ y.1 = p) (hp : ¬ xs[i].1 = p) : ∀ y ∈ xs.take (i + 1), ¬ y.1 = p := by
 intro y hy
 rw [List.take_succ_eq_append_getElem hi, List.mem_append, List.mem_singleton] at hy
 rcases hy with hy | rfl
 ·exact h y hy
 ·exact hp
theorem ffind_at {xs : List (ByteArray × ByteArray)} {p : ByteArray} {i : Nat} (hi : i < xs.length) (h : ∀ y ∈ xs.take i, ¬ y.1 = p) (hp : xs[i].1 = p) : ffind xs p = some xs[i] := by
 have e : xs = xs.take i ++ (xs[i] :: xs.drop (i + 1)) := by rw [← List.drop_eq_getElem_cons hi, List.take_append_drop]
 have hn := ffind_no h
 unfold ffind at hn ⊢
 conv => lhs; rw [e]
 rw [List.find?_append, hn, List.find?_cons_of_pos (by simpa using hp)]
 rfl
theorem bd55t (p d : ByteArray) (b : Bool) (w : World) : (Instr.build 55 [(0, .string p), (1, .bool b), (2, .string d)].toArray).run Tryz.prog w = .ok (.agg (encK ⟨p, b, d⟩).toArray) w := by kernel_rfl
theorem tell_eq (xs : List (ByteArray × ByteArray)) (p : ByteArray) : tell xs p = ⟨p, (ffind xs p).isSome, ((ffind xs p).map (·.2)).getD eB⟩ := by
 unfold tell
 cases ffind xs p <;> rfl
def fT : ByteArray := ⟨#[114,101,97,100,32,97,10,119,114,105,116,101,32,111,117,116,47,111]⟩
theorem bdFx {b c : Nat} (w : World) : (Instr.build 27 [(1, .string fT), (3, .slice (some ⟨b, 0, none⟩) 1 1), (5, .slice (some ⟨c, 0, none⟩) 1 1)].toArray).run Tryz.prog w = .ok (.agg (actC (.string eB) (.string eB) fT none 0 0 (some ⟨b, 0, none⟩) 1 1 none 0 0 (some ⟨c, 0, none⟩) 1 1).toArray) w := by kernel_rfl
theorem f_com : commandsE fT = .inr aL := by kernel_rfl
theorem fixed_run : tryR fT [] [aO] [aA] [] [] = (⟨1, aA, 0⟩, oc0, 0) := by
 rw [tryR_ok f_com rfl]
 have e1 : ((BS.start aL).run.next []) = (⟨1, aA, eB, 0⟩, aR) := a_next
 have ht : (BS.start aL).turn (mkBC [] [aO] [aA] []) = ({ BS.start aL with run := aR, asks := aA }, true) := by
  have := turn_may (B := mkBC [] [aO] [aA] []) (β := BS.start aL) (by show ((BS.start aL).run.next []).1.kind = 1; rw [e1]) (by show mayP [aO] [aA] [] ((BS.start aL).run.next []).1.path = true; rw [e1]; kernel_rfl)
  rw [this]
  show (({ BS.start aL with run := ((BS.start aL).run.next []).2, asks := ((BS.start aL).run.next []).1.path } : BS), true) = _
  rw [e1]
 have hgo : run0 [] [aO] [aA] [] aL = { BS.start aL with run := aR, asks := aA } := by
  unfold run0
  rw [go_stop rfl (by rw [ht]), ht]
 have hr : runA [] [aO] [aA] [] aL (kfind []) = { BS.start aL with run := aR, asks := aA } := by
  unfold runA
  rw [hgo]
  exact feedA_fix (ans1_none rfl rfl) _
 rw [hr]
 rfl
theorem eqWn (x y : Wnt) (d : Nat) (w : World) : (Op.equalIn (d + 3) 76 (.agg (encWn x).toArray) (.agg (encWn y).toArray)).run Tryz.prog w = .ok (decide (x.kind = y.kind) && decide (x.path = y.path) && decide (x.i = y.i)) w := by
 have hS : Tryz.prog.underlying 76 = some (.struct (Tryz.prog.fieldsOf 76)) := by kernel_rfl
 have hp : Tryz.prog.stoodInHeld 76 = false := by kernel_rfl
 rw [show d + 3 = (d + 2) + 1 from rfl, run_equalIn_agg w (d + 2) 76 _ _ hS hp]
 simp only [Program.fieldsOf, Tryz.underlying76, Op.eqFields]
 simp only [ne_eq, String.reduceEq, not_false_eq_true, if_true, Sem.run_bind]
 rw [run_part1 Tryz.isAgg3 (v := .int .i64 x.kind) rfl, Result.andThen_ok, run_part1 Tryz.isAgg3 (v := .int .i64 y.kind) rfl, Result.andThen_ok, run_equalIn_int w _ 3 _ _ _ _ Tryz.underlying3, Result.andThen_ok]
 by_cases h1 : x.kind = y.kind
 ·simp only [h1, decide_true, beq_self_eq_true, Bool.not_true, Bool.false_eq_true, if_false, Sem.run_bind]
  rw [run_part1 Tryz.isAgg9 (v := .string x.path) rfl, Result.andThen_ok, run_part1 Tryz.isAgg9 (v := .string y.path) rfl, Result.andThen_ok, run_equalIn_string w _ 9 _ _ Tryz.underlying9, Result.andThen_ok, toList_eq]
  by_cases h2 : x.path = y.path
  ·simp only [h2, decide_true, Bool.not_true, Bool.false_eq_true, if_false, Sem.run_bind]
   rw [run_part1 Tryz.isAgg3 (v := .int .i64 x.i) rfl, Result.andThen_ok, run_part1 Tryz.isAgg3 (v := .int .i64 y.i) rfl, Result.andThen_ok, run_equalIn_int w _ 3 _ _ _ _ Tryz.underlying3, Result.andThen_ok]
   by_cases h3 : x.i = y.i
   ·simp [h3]
   ·simp [h3]
  ·simp [h2]
 ·simp [h1]
section
variable {w : World} {l : List (Nat × Value)} {o : Oper}
theorem y_eqW {s : Nat} {x y : Operand} {p q : Wnt} (ho : o.op = .binOp .eql 76 x y s) (hx : evl l x = some (.agg (encWn p).toArray)) (hy : evl l y = some (.agg (encWn q).toArray)) : Yl Tryz.prog o l w (.bool (decide (p.kind = q.kind) && decide (p.path = q.path) && decide (p.i = q.i))) w := fun n a F => by
 simp only [execOp, ho, F.ev hx, F.ev hy, Sem.run_bind, Sem.run_pure]
 rw [run_eqGuard_agg w _ _ _ _ _ _ Tryz.eqGuardType76, Result.andThen_ok, run_eql_struct, eqWn p q 9997]
 rfl
end
theorem c_GreatF {A : Option Addr} {c : Nat} {xs : List (ByteArray × ByteArray)} (w0 : World) (hX : Sl w0 2 encSt A xs) (hz : ez1 xs ≤ 100000000) : Calls Tryz.prog 32 [.slice A xs.length c].toArray w0 (Ret fun v w' => v = .bool (decide (3000 < ((ez1 xs : Nat) : Int))) ∧ Below w0.heap.size w0 w') := by
 refine ent Tryz.func32 Tryz.ntmps32 rfl rfl ?_
 intro a F
 have S := St.refl w0
 refine sq fun K1 hK1 => ?_
 refine rg ?_
 refine dv F (y_as rfl rfl) rfl rfl rfl fun a F => ?_
 refine dn ?_
 refine tn <| hK1 _ _ ?_
 refine sq fun K2 hK2 => ?_
 refine rg ?_
 refine dv F (y_as rfl rfl) rfl rfl rfl fun a F => ?_
 refine dn ?_
 refine tn <| hK2 _ _ ?_
 refine sq fun K3 hK3 => ?_
 refine sq fun K4 hK4 => ?_
 refine rg ?_
 refine dv F (y_mv rfl rfl) rfl rfl rfl fun a F => ?_
 refine dv F (y_ln rfl rfl Tryz.underlying38) rfl rfl rfl fun a F => ?_
 refine dv F (y_mv rfl rfl) rfl rfl rfl fun a F => ?_
 refine dn ?_
 refine tn <| hK4 _ _ ?_
 refine bl ?_
 refine lp (fun m a w => ∃ j : Nat, m = xs.length - j ∧ (j ≤ xs.length) ∧ Fr 29 a [(0, .slice A xs.length c), (3, .int .i64 ((ez1 (xs.take j) : Nat) : Int)), (5, .slice A xs.length c), (6, .int .i64 (xs.length : Int)), (7, .int .i64 (j : Int))] ∧ St w0 w []) (xs.length) ?_ ?_
 ·exact ⟨0, rfl, Nat.zero_le _, F.sub _ ⟨rfl, rfl, rfl, rfl, rfl, trivial⟩, S.pick [] _ trivial rfl⟩
 ·repeat clear S
  repeat clear F
  rintro m a w ⟨j, hm, hj, F, S⟩
  refine sq fun K5 hK5 => ?_
  have hxl := ez1_len xs
  refine rg ?_
  refine dv F (y_lt rfl rfl rfl) rfl rfl rfl fun a F => ?_
  refine dn ?_
  refine tn <| hK5 _ _ ?_
  refine sq fun K6 hK6 => ?_
  refine cd F rfl (fun hlt => ?_) (fun hlt => ?_)
  ·refine wp_skip ?_
   refine tn <| hK6 _ _ ?_
   refine sq fun K7 hK7 => ?_
   refine bl ?_
   refine sq fun K8 hK8 => ?_
   replace hlt : j < xs.length := by omega
   obtain ⟨ab, ao, rfl, -, -⟩ := hX.at_ hlt
   have hk1 := ez1_succ hlt
   have hk2 := ez1_le xs (j + 1)
   refine rg ?_
   refine dv F (y_mv rfl rfl) rfl rfl rfl fun a F => ?_
   refine dv F (y_as rfl rfl) rfl rfl rfl fun a F => ?_
   refine dn ?_
   refine tn <| hK8 _ _ ?_
   refine rq (C := fun w => St _ w _) Tryz.mixed (by kernel_rfl) (S.drewN 1) ?_
   refine qv F (fun w S => y_mv rfl rfl) rfl rfl rfl fun a F => ?_
   refine qv F (fun w S => y_mv rfl rfl) rfl rfl rfl fun a F => ?_
   refine qv F (fun w S => y_mv rfl rfl) rfl rfl rfl fun a F => ?_
   refine qv F (fun w S => y_ia rfl rfl rfl rfl Tryz.underlying38 Tryz.sizeOf66 j rfl hlt) rfl rfl rfl fun a F => ?_
   refine qv F (fun w S => y_fa rfl rfl fi66_0) rfl rfl rfl fun a F => ?_
   refine qv F (fun w S => y_ld rfl rfl (ld1 Tryz.isAgg9 (sl_at2 (hX.st S) hlt 0 _ rfl))) rfl rfl rfl fun a F => ?_
   refine qv F (fun w S => y_ls rfl rfl Tryz.underlying9) rfl rfl rfl fun a F => ?_
   refine qv F (fun w S => y_add rfl rfl rfl (by omega)) rfl rfl rfl fun a F => ?_
   refine qv F (fun w S => y_mv rfl rfl) rfl rfl rfl fun a F => ?_
   refine qv F (fun w S => y_mv rfl rfl) rfl rfl rfl fun a F => ?_
   refine qv F (fun w S => y_ia rfl rfl rfl rfl Tryz.underlying38 Tryz.sizeOf66 j rfl hlt) rfl rfl rfl fun a F => ?_
   refine qv F (fun w S => y_fa rfl rfl fi66_1) rfl rfl rfl fun a F => ?_
   refine qv F (fun w S => y_ld rfl rfl (ld1 Tryz.isAgg9 (sl_at2 (hX.st S) hlt 1 _ rfl))) rfl rfl rfl fun a F => ?_
   refine qv F (fun w S => y_ls rfl rfl Tryz.underlying9) rfl rfl rfl fun a F => ?_
   refine qv F (fun w S => y_add rfl rfl rfl (by omega)) rfl rfl rfl fun a F => ?_
   refine qv F (fun w S => y_add rfl rfl rfl (by omega)) rfl rfl rfl fun a F => ?_
   refine qv F (fun w S => y_as rfl rfl) rfl rfl rfl fun a F => ?_
   refine qn fun w S => ?_
   refine bn <| tn <| hK7 _ _ ?_
   rw [ez1_add2 hlt] at F
   refine rg ?_
   refine dv F (y_add rfl rfl rfl (by omega)) rfl rfl rfl fun a F => ?_
   refine dv F (y_mv rfl rfl) rfl rfl rfl fun a F => ?_
   refine dn ?_
   exact ln (by omega) ⟨j + 1, rfl, by omega, F.sub _ ⟨rfl, rfl, rfl, rfl, rfl, trivial⟩, S.pick [] _ trivial rfl⟩
  ·refine wp_exit ?_
   refine tx <| lx <| bh <| tn <| hK3 _ _ ?_
   refine sq fun K9 hK9 => ?_
   have hje : j = xs.length := by omega
   subst hje
   rw [List.take_length] at F
   refine rg ?_
   refine dv F (y_mv rfl rfl) rfl rfl rfl fun a F => ?_
   refine dv F (y_gt rfl rfl rfl) rfl rfl rfl fun a F => ?_
   refine dv F (y_as rfl rfl) rfl rfl rfl fun a F => ?_
   refine dn ?_
   refine tn <| hK9 _ _ ?_
   refine wp_ret ?_
   refine ?_
   exact rt1 F rfl rfl ⟨rfl, S.bel⟩
theorem c_Get {A : Option Addr} {c : Nat} {xs : List (ByteArray × ByteArray)} (p : ByteArray) (w0 : World) (hX : Sl w0 2 encSt A xs) (hn : xs.length ≤ 100000000) : Calls Tryz.prog 86 [.slice A xs.length c, .string p].toArray w0 (Ret fun v w' => v = .tuple [.string (((ffind xs p).map (·.2)).getD eB), .bool (ffind xs p).isSome].toArray ∧ Below w0.heap.size w0 w') := by
 refine ent Tryz.func86 Tryz.ntmps86 rfl rfl ?_
 intro a F
 have S := St.refl w0
 refine sq fun K1 hK1 => ?_
 refine rg ?_
 refine dv F (y_as rfl rfl) rfl rfl rfl fun a F => ?_
 refine dv F (y_as rfl rfl) rfl rfl rfl fun a F => ?_
 refine dn ?_
 refine tn <| hK1 _ _ ?_
 refine sq fun K2 hK2 => ?_
 refine sq fun K3 hK3 => ?_
 refine rg ?_
 refine dv F (y_mv rfl rfl) rfl rfl rfl fun a F => ?_
 refine dv F (y_ln rfl rfl Tryz.underlying38) rfl rfl rfl fun a F => ?_
 refine dv F (y_mv rfl rfl) rfl rfl rfl fun a F => ?_
 refine dn ?_
 refine tn <| hK3 _ _ ?_
 refine bl ?_
 refine lp (fun m a w => ∃ i : Nat, m = xs.length - i ∧ (i ≤ xs.length) ∧ (∀ y ∈ xs.take i, ¬ y.1 = p) ∧ Fr 25 a [(0, .slice A xs.length c), (1, .string p), (7, .slice A xs.length c), (8, .int .i64 (xs.length : Int)), (9, .int .i64 (i : Int))] ∧ St w0 w []) (xs.length) ?_ ?_
 ·exact ⟨0, rfl, Nat.zero_le _, (fun y hy => by cases hy), F.sub _ ⟨rfl, rfl, rfl, rfl, rfl, trivial⟩, S.pick [] _ trivial rfl⟩
 ·repeat clear S
  repeat clear F
  rintro m a w ⟨i, hm, hi, hno, F, S⟩
  refine sq fun K4 hK4 => ?_
  refine rg ?_
  refine dv F (y_lt rfl rfl rfl) rfl rfl rfl fun a F => ?_
  refine dn ?_
  refine tn <| hK4 _ _ ?_
  refine sq fun K5 hK5 => ?_
  refine cd F rfl (fun hlt => ?_) (fun hlt => ?_)
  ·refine wp_skip ?_
   refine tn <| hK5 _ _ ?_
   refine sq fun K6 hK6 => ?_
   refine bl ?_
   refine sq fun K7 hK7 => ?_
   replace hlt : i < xs.length := by omega
   obtain ⟨ab, ao, rfl, -, -⟩ := hX.at_ hlt
   refine rg ?_
   refine dv F (y_mv rfl rfl) rfl rfl rfl fun a F => ?_
   refine dv F (y_as rfl rfl) rfl rfl rfl fun a F => ?_
   refine dn ?_
   refine tn <| hK7 _ _ ?_
   refine sq fun K8 hK8 => ?_
   refine rg ?_
   refine dv F (y_mv rfl rfl) rfl rfl rfl fun a F => ?_
   refine dv F (y_mv rfl rfl) rfl rfl rfl fun a F => ?_
   refine dv F (y_ia rfl rfl rfl rfl Tryz.underlying38 Tryz.sizeOf66 i rfl hlt) rfl rfl rfl fun a F => ?_
   refine dv F (y_fa rfl rfl fi66_0) rfl rfl rfl fun a F => ?_
   refine dv F (y_ld rfl rfl (ld1 Tryz.isAgg9 (sl_at2 (hX.st S) hlt 0 _ rfl))) rfl rfl rfl fun a F => ?_
   refine dv F (y_mv rfl rfl) rfl rfl rfl fun a F => ?_
   refine dv F (y_se rfl rfl rfl) rfl rfl rfl fun a F => ?_
   refine dn ?_
   refine tn <| hK8 _ _ ?_
   refine cd F rfl (fun hne => ?_) (fun hne => ?_)
   ·refine sq fun K9 hK9 => ?_
    refine rg ?_
    refine dv F (y_mv rfl rfl) rfl rfl rfl fun a F => ?_
    refine dv F (y_mv rfl rfl) rfl rfl rfl fun a F => ?_
    refine dv F (y_ia rfl rfl rfl rfl Tryz.underlying38 Tryz.sizeOf66 i rfl hlt) rfl rfl rfl fun a F => ?_
    refine dv F (y_fa rfl rfl fi66_1) rfl rfl rfl fun a F => ?_
    refine dv F (y_ld rfl rfl (ld1 Tryz.isAgg9 (sl_at2 (hX.st S) hlt 1 _ rfl))) rfl rfl rfl fun a F => ?_
    refine dv F (y_as rfl rfl) rfl rfl rfl fun a F => ?_
    refine dv F (y_as rfl rfl) rfl rfl rfl fun a F => ?_
    refine dn ?_
    refine tn <| hK9 _ _ ?_
    refine wp_ret ?_
    refine br <| tr <| lr <| br <| tr <| ?_
    exact rt2 F rfl rfl rfl ⟨by rw [ffind_at hlt hno hne]; rfl, S.bel⟩
   ·refine wp_skip ?_
    refine bn <| tn <| hK6 _ _ ?_
    refine rg ?_
    refine dv F (y_add rfl rfl rfl (by omega)) rfl rfl rfl fun a F => ?_
    refine dv F (y_mv rfl rfl) rfl rfl rfl fun a F => ?_
    refine dn ?_
    exact ln (by omega) ⟨i + 1, rfl, by omega, (no_moreF hlt hno hne), F.sub _ ⟨rfl, rfl, rfl, rfl, rfl, trivial⟩, S.pick [] _ trivial rfl⟩
  ·refine wp_exit ?_
   refine tx <| lx <| bh <| tn <| hK2 _ _ ?_
   refine sq fun K10 hK10 => ?_
   refine rg ?_
   refine dv F (y_as rfl rfl) rfl rfl rfl fun a F => ?_
   refine dv F (y_as rfl rfl) rfl rfl rfl fun a F => ?_
   refine dn ?_
   refine tn <| hK10 _ _ ?_
   refine wp_ret ?_
   refine ?_
   exact rt2 F rfl rfl rfl ⟨by rw [ffind_no (fun y hy => hno y (by rw [List.take_of_length_le (by omega)]; exact hy))]; rfl, S.bel⟩
theorem c_Tell {A : Option Addr} {c : Nat} {xs : List (ByteArray × ByteArray)} (p : ByteArray) (w0 : World) (hX : Sl w0 2 encSt A xs) (hn : xs.length ≤ 100000000) : Calls Tryz.prog 34 [.slice A xs.length c, .string p].toArray w0 (Ret fun v w' => v = .agg (encK (tell xs p)).toArray ∧ Below w0.heap.size w0 w') := by
 refine ent Tryz.func34 Tryz.ntmps34 rfl rfl ?_
 intro a F
 have S := St.refl w0
 refine sq fun K1 hK1 => ?_
 refine rg ?_
 refine dal F S rfl Tryz.zeroValue55 rfl rfl rfl rfl fun a w b4 F S => ?_
 refine dn ?_
 refine tn <| hK1 _ _ ?_
 refine sq fun K2 hK2 => ?_
 refine rg ?_
 refine dv F (y_mv rfl rfl) rfl rfl rfl fun a F => ?_
 refine dv F (y_mv rfl rfl) rfl rfl rfl fun a F => ?_
 refine dc F (c_f rfl rfl rfl Tryz.call86) rfl rfl rfl (c_Get p _ (hX.st S) hn) fun a v w' hr F => ?_
 obtain ⟨rfl, hb⟩ := hr
 replace S := S.call hb
 refine dv F (y_mv rfl rfl) rfl rfl rfl fun a F => ?_
 refine dv F (y_ex rfl rfl rfl) rfl rfl rfl fun a F => ?_
 refine dv F (y_ex rfl rfl rfl) rfl rfl rfl fun a F => ?_
 refine dv F (y_as rfl rfl) rfl rfl rfl fun a F => ?_
 refine dv F (y_as rfl rfl) rfl rfl rfl fun a F => ?_
 refine dn ?_
 refine tn <| hK2 _ _ ?_
 refine sq fun K3 hK3 => ?_
 refine rg ?_
 refine dv F (y_mv rfl rfl) rfl rfl rfl fun a F => ?_
 refine dv F (y_mv rfl rfl) rfl rfl rfl fun a F => ?_
 refine dv F (y_mv rfl rfl) rfl rfl rfl fun a F => ?_
 refine dv F (y_bd rfl rfl (bd55t _ _ _)) rfl rfl rfl fun a F => ?_
 refine dsw F S rfl rfl rfl Tryz.sizeOf55 (i := 0) rfl rfl rfl rfl (oneK _) rfl rfl fun a w F S => ?_
 refine dn ?_
 refine tn <| hK3 _ _ ?_
 refine wp_ret ?_
 refine ?_
 exact rc1 F rfl rfl (S.lda (i := 0) rfl Tryz.isAgg55 Tryz.sizeOf55 rfl) ⟨by rw [tell_eq]; rfl, S.bel⟩
theorem c_fixed (w0 : World) (G : Gl w0) : Calls Tryz.prog 30 [].toArray w0 (Ret fun v w' => v = .bool true ∧ Below w0.heap.size w0 w') := by
 refine ent Tryz.func30 Tryz.ntmps30 rfl rfl ?_
 intro a F
 have S := St.refl w0
 refine sq fun K1 hK1 => ?_
 refine rg ?_
 refine dv F (y_as rfl rfl) rfl rfl rfl fun a F => ?_
 refine dn ?_
 refine tn <| hK1 _ _ ?_
 refine sq fun K2 hK2 => ?_
 refine rg ?_
 refine dbs (cs := [.string aA]) (e := 9) F S rfl rfl (fun w => by kernel_rfl) rfl rfl rfl fun a w b5 F S => ?_
 refine dbs (cs := [.string aO]) (e := 9) F S rfl rfl (fun w => by kernel_rfl) rfl rfl rfl fun a w b6 F S => ?_
 refine dv F (y_bd rfl rfl (bdFx)) rfl rfl rfl fun a F => ?_
 refine dbs (cs := []) (e := 55) F S rfl rfl (fun w => by kernel_rfl) rfl rfl rfl fun a w b8 F S => ?_
 have S0 := S
 refine dc F (c_f rfl rfl rfl Tryz.call31) rfl rfl rfl (c_Try (env := []) (ins := [aA]) (asks := []) (outs := [aO]) (known := []) _ (G.st S) Sl.nil (S.sl (i := 0) (xs := [aA]) rfl lenS) Sl.nil (S.sl (i := 1) (xs := [aO]) rfl lenS) (by decide) (by decide) (fun x hx => by cases hx) (by decide) (fun x hx => by cases hx) (fun x hx => by rw [List.mem_singleton] at hx; subst hx; decide) Sl.nil (by decide)) fun a v w' hr F => ?_
 have hv := hr
 rw [fixed_run] at hv
 obtain ⟨K, A1, c1, A2, c2, rfl, hk1, hk2, hs1, hs2, hb⟩ := hv
 replace S := S.call hb
 refine dv F (y_mv rfl rfl) rfl rfl rfl fun a F => ?_
 refine dv F (y_ex rfl rfl rfl) rfl rfl rfl fun a F => ?_
 refine dv F (y_ex rfl rfl rfl) rfl rfl rfl fun a F => ?_
 refine dv F (y_ex rfl rfl rfl) rfl rfl rfl fun a F => ?_
 refine dal F S rfl Tryz.zeroValue76 rfl rfl rfl rfl fun a w b1 F S => ?_
 refine dal F S rfl Tryz.zeroValue41 rfl rfl rfl rfl fun a w b2 F S => ?_
 refine dsw F S rfl rfl rfl Tryz.sizeOf76 (i := 3) rfl rfl rfl rfl (oneW _) rfl rfl fun a w F S => ?_
 refine dsw F S rfl rfl rfl Tryz.sizeOf41 (i := 4) rfl rfl rfl rfl (one41 _ _ _ _ _ _ _ _) rfl rfl fun a w F S => ?_
 refine dv F (y_as rfl rfl) rfl rfl rfl fun a F => ?_
 refine dn ?_
 refine tn <| hK2 _ _ ?_
 refine sq fun K3 hK3 => ?_
 refine rg ?_
 refine dv F (y_mv rfl rfl) rfl rfl rfl fun a F => ?_
 refine dv F (y_ie rfl rfl rfl) rfl rfl rfl fun a F => ?_
 refine dv F (y_mv rfl rfl) rfl rfl rfl fun a F => ?_
 refine gv F rfl rfl rfl rfl (y_ld rfl rfl (S.lda (i := 3) rfl Tryz.isAgg76 Tryz.sizeOf76 rfl)) rfl rfl fun a F => ?_
 refine gv F rfl rfl rfl rfl (y_bd rfl rfl (bd76k _)) rfl rfl fun a F => ?_
 refine gv F rfl rfl rfl rfl (y_eqW (p := ⟨1, aA, 0⟩) (q := ⟨1, aA, 0⟩) rfl rfl rfl) rfl rfl fun a F => ?_
 refine dv F (y_pkt rfl rfl rfl rfl) rfl rfl rfl fun a F => ?_
 refine dv F (y_mv rfl rfl) rfl rfl rfl fun a F => ?_
 refine gv F rfl rfl rfl rfl (y_fa rfl rfl fi41_0) rfl rfl fun a F => ?_
 refine gv F rfl rfl rfl rfl (y_ld rfl rfl (S.ld (i := 4) rfl rfl Tryz.isAgg3)) rfl rfl fun a F => ?_
 refine gv F rfl rfl rfl rfl (y_ie rfl rfl rfl) rfl rfl fun a F => ?_
 refine dv F (y_pkt rfl rfl rfl rfl) rfl rfl rfl fun a F => ?_
 refine dv F (y_as rfl rfl) rfl rfl rfl fun a F => ?_
 refine dn ?_
 refine tn <| hK3 _ _ ?_
 refine wp_ret ?_
 refine ?_
 exact rt1 F rfl rfl ⟨rfl, S.bel⟩
end Go.Proofs.YtgcmddaibnimjaaGreatDoor
namespace Go.Proofs.YtgcmddaibnimjaaGreatDoor
open Go.RowKit Go.Eng
section
variable {B : BC} {ans : ByteArray → Option Kn}
theorem feedA_reads (ha : AOk ans) : ∀ (n : Nat) (β : BS), BOk B β → ∃ ext, (β.feedA B ans n).reads = β.reads ++ ext
 | 0, β, h => ⟨[], by rw [List.append_nil]; rfl⟩
 | n + 1, β, h => by
  obtain ⟨ext, he⟩ := feedA_reads ha n _ (ans1_ok ha h)
  rcases ans1_reads ha h with ⟨_, k, _, h3⟩ | ⟨h1, _⟩
  ·exact ⟨sumRd k :: ext, by
    show (BS.feedA B ans n (β.ans1 B ans)).reads = _
    rw [he, h3, List.append_assoc]; rfl⟩
  ·exact ⟨ext, by
    show (BS.feedA B ans n (β.ans1 B ans)).reads = _
    rw [he, h1]⟩
theorem feedA_next (ha : AOk ans) {n : Nat} {β : BS} (h : BOk B β) (ho : β.over = false) {k : Kn} (hk : ans β.asks = some k) (hn : 0 < n) : ∃ ext, (β.feedA B ans n).reads = β.reads ++ sumRd k :: ext := by
 obtain ⟨m, rfl⟩ : ∃ m, n = m + 1 := ⟨n - 1, by omega⟩
 obtain ⟨ext, he⟩ := feedA_reads ha m _ (ans1_ok ha h)
 rcases ans1_reads ha h with ⟨_, k', h2, h3⟩ | ⟨h1, h2⟩
 ·rw [hk] at h2; cases h2
  exact ⟨ext, by
   show (BS.feedA B ans m (β.ans1 B ans)).reads = _
   rw [he, h3, List.append_assoc]; rfl⟩
 ·rcases h2 with h2 | h2
  ·rw [h2] at ho; cases ho
  ·rw [hk] at h2; cases h2
theorem feedA_over {n : Nat} {β : BS} (ho : β.over = true) : β.feedA B ans n = β := feedA_fix (ans1_over ho) n
theorem feedA_at (ha : AOk ans) (ht : ∀ p, ∃ k, ans p = some k) {n : Nat} {β γ : BS} (h : BOk B β) (hγ : β.feedA B ans n = γ) (hi : β.reads.length < γ.reads.length) : β.over = false ∧ 0 < n ∧ ∃ k, ans β.asks = some k ∧ γ.reads[β.reads.length]? = some (sumRd k) := by
 cases ho : β.over with
 | true => rw [feedA_over ho] at hγ; subst hγ; omega
 | false =>
  have hn : 0 < n := by
   rcases Nat.eq_zero_or_pos n with h0 | h0
   ·subst h0
    have : β = γ := hγ
    subst this; omega
   ·exact h0
  obtain ⟨k, hk⟩ := ht β.asks
  obtain ⟨ext, he⟩ := feedA_next ha h ho hk hn
  refine ⟨rfl, hn, k, hk, ?_⟩
  rw [← hγ, he, List.getElem?_append_right (Nat.le_refl _), Nat.sub_self]
  rfl
theorem feedA_all (ha : AOk ans) (ht : ∀ p, ∃ k, ans p = some k) {n : Nat} {β γ : BS} (h : BOk B β) (hγ : β.feedA B ans n = γ) (hn : 501 ≤ β.reads.length + n) (hi : ¬ β.reads.length < γ.reads.length) : β.over = true := by
 cases ho : β.over with
 | true => rfl
 | false =>
  obtain ⟨k, hk⟩ := ht β.asks
  have := reads_le h.j
  obtain ⟨ext, he⟩ := feedA_next ha h ho hk (n := n) (by omega)
  rw [hγ] at he
  rw [he, List.length_append, List.length_cons] at hi; omega
end
theorem tellA_all (l : List (ByteArray × ByteArray)) (p : ByteArray) : ∃ k, tellA l p = some k := ⟨_, rfl⟩
theorem out_reads {γ : BS} (h : γ.over = true) : γ.out.reads = γ.reads := by
 by_cases hw : γ.why = 0
 ·rw [out_end h hw]
 ·rw [out_fail h hw]
structure Fro (M : BC) (x y : List (ByteArray × ByteArray)) (γ δ : BS) (i : Nat) : Prop where
 ex : ∃ β : BS, BOk M β ∧ β.reads.length = i ∧ β.feedA M (tellA x) (600 - i) = γ ∧ β.feedA M (tellA y) (600 - i) = δ
section
variable {M : BC} {x y : List (ByteArray × ByteArray)} {γ δ : BS} {i : Nat}
theorem Fro.paths (hx : AOk (tellA x)) (hy : AOk (tellA y)) (h : Fro M x y γ δ i) (hi : i < γ.reads.length) : ∃ hj : i < δ.reads.length, (γ.reads[i]).path = (δ.reads[i]).path := by
 obtain ⟨β, hB, hl, h1, h2⟩ := h.ex
 subst hl
 obtain ⟨ho, hn, k, hk, hr⟩ := feedA_at hx (tellA_all x) hB h1 hi
 obtain ⟨ext, he⟩ := feedA_next hy (n := 600 - β.reads.length) hB ho (k := tell y β.asks) rfl hn
 rw [h2] at he
 have hj : β.reads.length < δ.reads.length := by rw [he, List.length_append, List.length_cons]; omega
 refine ⟨hj, ?_⟩
 have e1 : γ.reads[β.reads.length] = sumRd k := by
  rw [List.getElem?_eq_getElem hi] at hr; exact Option.some.inj hr
 have e2 : δ.reads[β.reads.length] = sumRd (tell y β.asks) := by
  have : δ.reads[β.reads.length]? = some (sumRd (tell y β.asks)) := by rw [he, List.getElem?_append_right (Nat.le_refl _), Nat.sub_self]; rfl
  rw [List.getElem?_eq_getElem hj] at this; exact Option.some.inj this
 rw [e1, e2]
 have hk' : k = tell x β.asks := (Option.some.inj hk).symm
 subst hk'
 show (tell x β.asks).path = (tell y β.asks).path
 rw [tell_path, tell_path]
theorem Fro.next (hx : AOk (tellA x)) (hy : AOk (tellA y)) (h : Fro M x y γ δ i) (hi : i < γ.reads.length) (ht : tell x (γ.reads[i]).path = tell y (γ.reads[i]).path) : Fro M x y γ δ (i + 1) := by
 obtain ⟨β, hB, hl, h1, h2⟩ := h.ex
 subst hl
 obtain ⟨ho, hn, k, hk, hr⟩ := feedA_at hx (tellA_all x) hB h1 hi
 have e1 : γ.reads[β.reads.length] = sumRd k := by
  rw [List.getElem?_eq_getElem hi] at hr; exact Option.some.inj hr
 have hk' : k = tell x β.asks := (Option.some.inj hk).symm
 have hp : (γ.reads[β.reads.length]).path = β.asks := by rw [e1, hk']; exact tell_path _ _
 rw [hp] at ht
 obtain ⟨a1, a2⟩ := hx _ _ hk
 obtain ⟨h3, h4, h5⟩ := give_take hB ho a1 a2
 have sx : β.ans1 M (tellA x) = (β.give M k).2 := ans1_some ho hk
 have sy : β.ans1 M (tellA y) = (β.give M k).2 := ans1_some ho (by rw [hk', ht]; rfl)
 refine ⟨(β.give M k).2, h4, by rw [h5, List.length_append, List.length_cons, List.length_nil], ?_, ?_⟩
 ·rw [← h1, show 600 - β.reads.length = (600 - (β.reads.length + 1)) + 1 by omega, ← sx]; rfl
 ·rw [← h2, show 600 - β.reads.length = (600 - (β.reads.length + 1)) + 1 by omega, ← sy]; rfl
theorem Fro.done (hx : AOk (tellA x)) (h : Fro M x y γ δ i) (hi : ¬ i < γ.reads.length) : γ = δ := by
 obtain ⟨β, hB, hl, h1, h2⟩ := h.ex
 have hr := reads_le hB.j
 have ho := feedA_all hx (tellA_all x) hB h1 (by omega) (by omega)
 rw [feedA_over ho] at h1 h2
 exact h1.symm.trans h2
end
theorem start_reads (B : BC) {t : ByteArray} {l : List Cmd} (h : commandsE t = .inr l) : ((BS.start l).go B).reads = [] := go_reads (start_bj (B := B) h).bi
end Go.Proofs.YtgcmddaibnimjaaGreatDoor
namespace Go.Proofs.YtgcmddaibnimjaaGreatDoor
open Go.RowKit Go.Eng
theorem eqKn (x y : Kn) (d : Nat) (w : World) : (Op.equalIn (d + 3) 55 (.agg (encK x).toArray) (.agg (encK y).toArray)).run Tryz.prog w = .ok (decide (x.path = y.path) && (x.is == y.is) && decide (x.data = y.data)) w := by
 have hS : Tryz.prog.underlying 55 = some (.struct (Tryz.prog.fieldsOf 55)) := by kernel_rfl
 have hp : Tryz.prog.stoodInHeld 55 = false := by kernel_rfl
 rw [show d + 3 = (d + 2) + 1 from rfl, run_equalIn_agg w (d + 2) 55 _ _ hS hp]
 simp only [Program.fieldsOf, Tryz.underlying55, Op.eqFields]
 simp only [ne_eq, String.reduceEq, not_false_eq_true, if_true, Sem.run_bind]
 rw [run_part1 Tryz.isAgg9 (v := .string x.path) rfl, Result.andThen_ok, run_part1 Tryz.isAgg9 (v := .string y.path) rfl, Result.andThen_ok, run_equalIn_string w _ 9 _ _ Tryz.underlying9, Result.andThen_ok, toList_eq]
 by_cases h1 : x.path = y.path
 ·simp only [h1, decide_true, Bool.not_true, Bool.false_eq_true, if_false, Sem.run_bind]
  rw [run_part1 Tryz.isAgg4 (v := .bool x.is) rfl, Result.andThen_ok, run_part1 Tryz.isAgg4 (v := .bool y.is) rfl, Result.andThen_ok, run_equalIn_bool w _ 4 _ _ Tryz.underlying4, Result.andThen_ok]
  by_cases h2 : x.is = y.is
  ·simp only [h2, beq_self_eq_true, Bool.not_true, Bool.false_eq_true, if_false, Sem.run_bind]
   rw [run_part1 Tryz.isAgg9 (v := .string x.data) rfl, Result.andThen_ok, run_part1 Tryz.isAgg9 (v := .string y.data) rfl, Result.andThen_ok, run_equalIn_string w _ 9 _ _ Tryz.underlying9, Result.andThen_ok, toList_eq]
   by_cases h3 : x.data = y.data
   ·simp [h3]
   ·simp [h3]
  ·have : (x.is == y.is) = false := by simp [h2]
   simp [this]
 ·simp [h1]
theorem kn_ext {p q : Kn} (h : (p.path = q.path ∧ p.is = q.is) ∧ p.data = q.data) : p = q := by
 cases p; cases q
 obtain ⟨⟨h1, h2⟩, h3⟩ := h
 cases h1; cases h2; cases h3; rfl
section
variable {w : World} {l : List (Nat × Value)} {o : Oper}
theorem y_nqK {s : Nat} {x y : Operand} {p q : Kn} (ho : o.op = .binOp .neq 55 x y s) (hx : evl l x = some (.agg (encK p).toArray)) (hy : evl l y = some (.agg (encK q).toArray)) : Yl Tryz.prog o l w (.bool (!(decide (p.path = q.path) && (p.is == q.is) && decide (p.data = q.data)))) w := fun n a F => by
 simp only [execOp, ho, F.ev hx, F.ev hy, Sem.run_bind, Sem.run_pure]
 rw [run_eqGuard_agg w _ _ _ _ _ _ Tryz.eqGuardType55, Result.andThen_ok, run_neq_struct, eqKn p q 9997]
 rfl
end
theorem allR_zero {t : ByteArray} {env : List (ByteArray × ByteArray)} {outs ins asks : List ByteArray} {files : List (ByteArray × ByteArray)} (h : (allR t env outs ins asks files).2 = 0) : ∃ l, commandsE t = .inr l ∧ long files = false ∧ (allR t env outs ins asks files).1 = (runA env outs ins asks l (tellA files)).out := by
 cases hc : commandsE t with
 | inl r =>
  obtain ⟨e, n⟩ := r
  rw [allR_bad hc] at h
  exact absurd h (com_ne hc)
 | inr l =>
  cases hl : long files with
  | true => rw [allR_long hc hl] at h; exact absurd h (by decide)
  | false => exact ⟨l, rfl, rfl, by rw [allR_ok hc hl]⟩
theorem runA_files {t : ByteArray} {env : List (ByteArray × ByteArray)} {outs ins asks : List ByteArray} {files : List (ByteArray × ByteArray)} {l : List Cmd} (hc : commandsE t = .inr l) (hl : long files = false) : ∃ γ, runA env outs ins asks l (tellA files) = γ ∧ γ.over = true := by
 refine ⟨_, rfl, ?_⟩
 rcases (runA_ok (env := env) (outs := outs) (ins := ins) (asks := asks) hc (tellA_ok (long_no hl))).2 with h | h
 ·exact h
 ·cases h
theorem tell_same {x y : List (ByteArray × ByteArray)} {p q : ByteArray} (h : p = q) (hk : tell x p = tell y p) : tell x q = tell y q := h ▸ hk
theorem runA_lens {t : ByteArray} {env : List (ByteArray × ByteArray)} {outs ins asks : List ByteArray} {ans : ByteArray → Option Kn} {l : List Cmd} {γ : BS} (hc : commandsE t = .inr l) (ha : AOk ans) (hm : outs.length ≤ 1000000 ∧ ins.length ≤ 1000000 ∧ asks.length ≤ 1000000) (hγ : runA env outs ins asks l ans = γ) : γ.out.outs.length ≤ 1000000 ∧ γ.out.reads.length ≤ 1000000 := by
 subst hγ
 have h := (runA_ok (env := env) (outs := outs) (ins := ins) (asks := asks) hc ha).1
 have h1 := wrote_le h.j
 have h1' : (runA env outs ins asks l ans).wrote.length ≤ outs.length := h1
 have h3 := reads_le h.j
 cases ho : (runA env outs ins asks l ans).over with
 | false => rw [out_wait ho]; exact ⟨Nat.zero_le _, Nat.zero_le _⟩
 | true =>
  rw [out_reads ho]
  refine ⟨?_, by omega⟩
  by_cases hw : (runA env outs ins asks l ans).why = 0
  ·rw [out_end ho hw]
   show (BS.files _).length ≤ _
   rw [BS.files, List.length_map, sortS_len, List.length_map]; omega
  ·rw [out_fail ho hw]; exact Nat.zero_le _
theorem fi52_0 : FieldIs Tryz.prog 52 0 0 := fieldIs (z := 0) Tryz.underlying52 rfl rfl rfl Tryz.sizeOf9
theorem c_FoundFronts {u1 u2 : Value} {t : ByteArray} {Ae Ai Aa Ao : Option Addr} {ce ci ca co : Nat} {env : List (ByteArray × ByteArray)} {ins asks outs : List ByteArray} {Ax Ay : Option Addr} {cx cy : Nat} {x y : List (ByteArray × ByteArray)} (w0 : World) (G : Gl w0) (he : Sl w0 2 encSt Ae env) (hi : Sl w0 1 encS Ai ins) (ha : Sl w0 1 encS Aa asks) (ho : Sl w0 1 encS Ao outs) (hX : Sl w0 2 encSt Ax x) (hY : Sl w0 2 encSt Ay y) (hgz : gz t env ins asks outs ≤ 100000000) (hxz : ez1 x ≤ 100000000) (hyz : ez1 y ≤ 100000000) : Calls Tryz.prog 9 [.agg (actC u1 u2 t Ae env.length ce Ai ins.length ci Aa asks.length ca Ao outs.length co).toArray, .slice Ax x.length cx, .slice Ay y.length cy].toArray w0 (Ret fun v w' => v = .bool true ∧ Below w0.heap.size w0 w') := by
 refine ent Tryz.func9 Tryz.ntmps9 rfl rfl ?_
 intro a F
 have S := St.refl w0
 refine sq fun K1 hK1 => ?_
 refine rg ?_
 refine dbx F S rfl rfl rfl rfl rfl rfl fun a w b3 F S => ?_
 refine dv F (y_as rfl rfl) rfl rfl rfl fun a F => ?_
 refine dn ?_
 refine tn <| hK1 _ _ ?_
 refine sq fun K2 hK2 => ?_
 refine sq fun K3 hK3 => ?_
 refine rg ?_
 refine dv F (y_ld rfl rfl (S.lda (i := 0) rfl Tryz.isAgg27 Tryz.sizeOf27 rfl)) rfl rfl rfl fun a F => ?_
 refine dc F (c_f rfl rfl rfl Tryz.call15) rfl rfl rfl (c_Great _ (he.st S) (hi.st S) (ha.st S) (ho.st S) hgz) fun a v w' hr F => ?_
 obtain ⟨rfl, hb⟩ := hr
 replace S := S.call hb
 refine dv F (y_mv rfl rfl) rfl rfl rfl fun a F => ?_
 refine gsp F 14 rfl (fun h1 => ?_) (fun h1 => ?_)
 ·have g1 := h1
  try simp only [zi1, zi2, zi3, zi4, zi5, zi6, zi7, zi8] at g1
  refine gs F rfl rfl rfl h1 rfl rfl fun a F => ?_
  refine gs F rfl rfl rfl h1 rfl rfl fun a F => ?_
  refine dv F (y_pkt h1 rfl rfl rfl) rfl rfl rfl fun a F => ?_
  refine dv F (y_mv rfl rfl) rfl rfl rfl fun a F => ?_
  refine gs F rfl rfl rfl rfl rfl rfl fun a F => ?_
  refine gs F rfl rfl rfl rfl rfl rfl fun a F => ?_
  refine dv F (y_pkt rfl rfl rfl rfl) rfl rfl rfl fun a F => ?_
  refine dn ?_
  refine tn <| hK3 _ _ ?_
  refine ct F rfl rfl ?_
  refine sq fun K4 hK4 => ?_
  refine rg ?_
  refine dc F (c_f rfl rfl rfl Tryz.call30) rfl rfl rfl (c_fixed _ (G.st S)) fun a v w' hr F => ?_
  obtain ⟨rfl, hb⟩ := hr
  replace S := S.call hb
  refine dv F (y_as rfl rfl) rfl rfl rfl fun a F => ?_
  refine dn ?_
  refine tn <| hK4 _ _ ?_
  refine wp_ret ?_
  refine tr <| ?_
  exact rt1 F rfl rfl ⟨rfl, S.bel⟩
 ·have g1 := h1
  try simp only [zi1, zi2, zi3, zi4, zi5, zi6, zi7, zi8] at g1
  refine gv F rfl rfl rfl h1 (y_mv rfl rfl) rfl rfl fun a F => ?_
  refine gc F rfl rfl rfl h1 (c_f rfl rfl rfl Tryz.call32) rfl rfl (c_GreatF _ (hX.st S) hxz) fun a v w' hr F => ?_
  obtain ⟨rfl, hb⟩ := hr
  replace S := S.call hb
  refine dv F (y_pkf h1 rfl rfl rfl) rfl rfl rfl fun a F => ?_
  refine dv F (y_mv rfl rfl) rfl rfl rfl fun a F => ?_
  refine gsp F 18 rfl (fun h2 => ?_) (fun h2 => ?_)
  ·have g2 := h2
   try simp only [zi1, zi2, zi3, zi4, zi5, zi6, zi7, zi8] at g2
   refine gs F rfl rfl rfl h2 rfl rfl fun a F => ?_
   refine gs F rfl rfl rfl h2 rfl rfl fun a F => ?_
   refine dv F (y_pkt h2 rfl rfl rfl) rfl rfl rfl fun a F => ?_
   refine dn ?_
   refine tn <| hK3 _ _ ?_
   refine ct F rfl rfl ?_
   refine sq fun K5 hK5 => ?_
   refine rg ?_
   refine dc F (c_f rfl rfl rfl Tryz.call30) rfl rfl rfl (c_fixed _ (G.st S)) fun a v w' hr F => ?_
   obtain ⟨rfl, hb⟩ := hr
   replace S := S.call hb
   refine dv F (y_as rfl rfl) rfl rfl rfl fun a F => ?_
   refine dn ?_
   refine tn <| hK5 _ _ ?_
   refine wp_ret ?_
   refine tr <| ?_
   exact rt1 F rfl rfl ⟨rfl, S.bel⟩
  ·have g2 := h2
   try simp only [zi1, zi2, zi3, zi4, zi5, zi6, zi7, zi8] at g2
   refine gv F rfl rfl rfl h2 (y_mv rfl rfl) rfl rfl fun a F => ?_
   refine gc F rfl rfl rfl h2 (c_f rfl rfl rfl Tryz.call32) rfl rfl (c_GreatF _ (hY.st S) hyz) fun a v w' hr F => ?_
   obtain ⟨rfl, hb⟩ := hr
   replace S := S.call hb
   refine dv F (y_pkf h2 rfl rfl rfl) rfl rfl rfl fun a F => ?_
   refine dn ?_
   refine tn <| hK3 _ _ ?_
   refine cb F rfl (fun hgr => ?_) (fun hgr => ?_)
   ·refine sq fun K6 hK6 => ?_
    refine rg ?_
    refine dc F (c_f rfl rfl rfl Tryz.call30) rfl rfl rfl (c_fixed _ (G.st S)) fun a v w' hr F => ?_
    obtain ⟨rfl, hb⟩ := hr
    replace S := S.call hb
    refine dv F (y_as rfl rfl) rfl rfl rfl fun a F => ?_
    refine dn ?_
    refine tn <| hK6 _ _ ?_
    refine wp_ret ?_
    refine tr <| ?_
    exact rt1 F rfl rfl ⟨rfl, S.bel⟩
   ·refine wp_skip ?_
    refine tn <| hK2 _ _ ?_
    refine sq fun K7 hK7 => ?_
    have gsz : gz t env ins asks outs ≤ 2000 := by omega
    obtain ⟨hm1, hm2, hm3, hm4, hm5, hm6⟩ := small_of gsz
    refine rg ?_
    refine dv F (y_ld rfl rfl (S.lda (i := 0) rfl Tryz.isAgg27 Tryz.sizeOf27 rfl)) rfl rfl rfl fun a F => ?_
    refine dv F (y_mv rfl rfl) rfl rfl rfl fun a F => ?_
    refine dc F (c_f rfl rfl rfl Tryz.call33) rfl rfl rfl (c_All (files := x) _ (G.st S) (he.st S) (hi.st S) (ha.st S) (ho.st S) hm1 hm2 hm3 hm4 hm5 hm6 (hX.st S) hxz) fun a v w' hr F => ?_
    have hv := hr
    obtain ⟨Kx, Ax1, cx1, Ax2, cx2, rfl, hk1, hk2, hfx1, hfx2, hb⟩ := hv
    replace S := S.callAdd hb (fz Kx) hk1 hk2
    refine dv F (y_mv rfl rfl) rfl rfl rfl fun a F => ?_
    refine dv F (y_ex rfl rfl rfl) rfl rfl rfl fun a F => ?_
    refine dv F (y_ex rfl rfl rfl) rfl rfl rfl fun a F => ?_
    refine dal F S rfl Tryz.zeroValue41 rfl rfl rfl rfl fun a w b7 F S => ?_
    refine dsw F S rfl rfl rfl Tryz.sizeOf41 (i := 2) rfl rfl rfl rfl (one41 _ _ _ _ _ _ _ _) rfl rfl fun a w F S => ?_
    refine dv F (y_as rfl rfl) rfl rfl rfl fun a F => ?_
    refine dn ?_
    refine tn <| hK7 _ _ ?_
    refine sq fun K8 hK8 => ?_
    refine rg ?_
    refine dv F (y_ld rfl rfl (S.lda (i := 0) rfl Tryz.isAgg27 Tryz.sizeOf27 rfl)) rfl rfl rfl fun a F => ?_
    refine dv F (y_mv rfl rfl) rfl rfl rfl fun a F => ?_
    refine dc F (c_f rfl rfl rfl Tryz.call33) rfl rfl rfl (c_All (files := y) _ (G.st S) (he.st S) (hi.st S) (ha.st S) (ho.st S) hm1 hm2 hm3 hm4 hm5 hm6 (hY.st S) hyz) fun a v w' hr F => ?_
    have hv := hr
    obtain ⟨Ky, Ay1, cy1, Ay2, cy2, rfl, hk1, hk2, hfy1, hfy2, hb⟩ := hv
    replace S := S.callAdd hb (fz Ky) hk1 hk2
    refine dv F (y_mv rfl rfl) rfl rfl rfl fun a F => ?_
    refine dv F (y_ex rfl rfl rfl) rfl rfl rfl fun a F => ?_
    refine dv F (y_ex rfl rfl rfl) rfl rfl rfl fun a F => ?_
    refine dal F S rfl Tryz.zeroValue41 rfl rfl rfl rfl fun a w b9 F S => ?_
    refine dsw F S rfl rfl rfl Tryz.sizeOf41 (i := 4) rfl rfl rfl rfl (one41 _ _ _ _ _ _ _ _) rfl rfl fun a w F S => ?_
    refine dv F (y_as rfl rfl) rfl rfl rfl fun a F => ?_
    refine dn ?_
    refine tn <| hK8 _ _ ?_
    refine sq fun K9 hK9 => ?_
    refine sq fun K10 hK10 => ?_
    refine rg ?_
    refine dv F (y_mv rfl rfl) rfl rfl rfl fun a F => ?_
    refine dv F (y_in rfl rfl rfl) rfl rfl rfl fun a F => ?_
    refine dv F (y_mv rfl rfl) rfl rfl rfl fun a F => ?_
    refine gsp F 37 rfl (fun h3 => ?_) (fun h3 => ?_)
    ·have g3 := h3
     try simp only [zi1, zi2, zi3, zi4, zi5, zi6, zi7, zi8] at g3
     refine gs F rfl rfl rfl h3 rfl rfl fun a F => ?_
     refine gs F rfl rfl rfl h3 rfl rfl fun a F => ?_
     refine dv F (y_pkt h3 rfl rfl rfl) rfl rfl rfl fun a F => ?_
     refine dn ?_
     refine tn <| hK10 _ _ ?_
     refine ct F rfl rfl ?_
     refine sq fun K11 hK11 => ?_
     refine rg ?_
     refine dc F (c_f rfl rfl rfl Tryz.call30) rfl rfl rfl (c_fixed _ (G.st S)) fun a v w' hr F => ?_
     obtain ⟨rfl, hb⟩ := hr
     replace S := S.call hb
     refine dv F (y_as rfl rfl) rfl rfl rfl fun a F => ?_
     refine dn ?_
     refine tn <| hK11 _ _ ?_
     refine wp_ret ?_
     refine tr <| ?_
     exact rt1 F rfl rfl ⟨rfl, S.bel⟩
    ·have g3 := h3
     try simp only [zi1, zi2, zi3, zi4, zi5, zi6, zi7, zi8] at g3
     refine gv F rfl rfl rfl h3 (y_mv rfl rfl) rfl rfl fun a F => ?_
     refine gv F rfl rfl rfl h3 (y_in rfl rfl rfl) rfl rfl fun a F => ?_
     refine dv F (y_pkf h3 rfl rfl rfl) rfl rfl rfl fun a F => ?_
     refine dn ?_
     refine tn <| hK10 _ _ ?_
     refine cb F rfl (fun her => ?_) (fun her => ?_)
     ·refine sq fun K12 hK12 => ?_
      refine rg ?_
      refine dc F (c_f rfl rfl rfl Tryz.call30) rfl rfl rfl (c_fixed _ (G.st S)) fun a v w' hr F => ?_
      obtain ⟨rfl, hb⟩ := hr
      replace S := S.call hb
      refine dv F (y_as rfl rfl) rfl rfl rfl fun a F => ?_
      refine dn ?_
      refine tn <| hK12 _ _ ?_
      refine wp_ret ?_
      refine tr <| ?_
      exact rt1 F rfl rfl ⟨rfl, S.bel⟩
     ·refine wp_skip ?_
      refine tn <| hK9 _ _ ?_
      refine sq fun K13 hK13 => ?_
      refine sq fun K14 hK14 => ?_
      obtain ⟨l, hcm, hlx, e1⟩ := allR_zero (t := t) (env := env) (outs := outs) (ins := ins) (asks := asks) (files := x) (by first | assumption | (simpa using her) | simp_all)
      obtain ⟨l2, hcm2, hly, e2⟩ := allR_zero (t := t) (env := env) (outs := outs) (ins := ins) (asks := asks) (files := y) (by first | (simpa using her) | assumption | simp_all)
      obtain rfl : l = l2 := Sum.inr.inj (hcm.symm.trans hcm2)
      have hax := tellA_ok (long_no hlx)
      have hay := tellA_ok (long_no hly)
      obtain ⟨γ, hγ, hγo⟩ := runA_files (env := env) (outs := outs) (ins := ins) (asks := asks) hcm hlx
      obtain ⟨δ, hδ, hδo⟩ := runA_files (env := env) (outs := outs) (ins := ins) (asks := asks) hcm hly
      rw [e1, hγ] at S hfx1 hfx2
      rw [e2, hδ] at S hfy1 hfy2
      have hgl := runA_lens hcm hax hm4 hγ
      refine rg ?_
      refine dv F (y_as rfl rfl) rfl rfl rfl fun a F => ?_
      refine dn ?_
      refine tn <| hK14 _ _ ?_
      refine bl ?_
      refine lp (fun m a w => ∃ i : Nat, m = γ.reads.length - i ∧ (Fro (mkBC env outs ins asks) x y γ δ i) ∧ (i ≤ γ.reads.length) ∧ Fr 106 a [(1, .slice Ax x.length cx), (2, .slice Ay y.length cy), (7, pt b7), (9, pt b9), (11, .int .i64 (i : Int))] ∧ St w0 w [fz Kx, bk b7 41 (encOc γ.out Ax1 cx1 Ax2 cx2), fz Ky, bk b9 41 (encOc δ.out Ay1 cy1 Ay2 cy2)]) (γ.reads.length) ?_ ?_
      ·exact ⟨0, rfl, ⟨_, start_ok' hcm, by rw [start_reads _ hcm]; rfl, hγ, hδ⟩, Nat.zero_le _, F.sub _ ⟨rfl, rfl, rfl, rfl, rfl, trivial⟩, S.pick [1, 2, 3, 4] _ ⟨rfl, rfl, rfl, rfl, trivial⟩ rfl⟩
      ·repeat clear S
       repeat clear F
       rintro m a w ⟨i, hm, hFro, hi2, F, S⟩
       refine sq fun K15 hK15 => ?_
       refine sq fun K16 hK16 => ?_
       refine rg ?_
       refine dv F (y_mv rfl rfl) rfl rfl rfl fun a F => ?_
       refine dv F (y_fa rfl rfl fi41_3) rfl rfl rfl fun a F => ?_
       refine dv F (y_ld rfl rfl (S.ld (i := 1) rfl rfl Tryz.isAgg39)) rfl rfl rfl fun a F => ?_
       refine dv F (y_ln rfl rfl Tryz.underlying39) rfl rfl rfl fun a F => ?_
       refine dv F (y_lt rfl rfl rfl) rfl rfl rfl fun a F => ?_
       refine dn ?_
       refine tn <| hK16 _ _ ?_
       refine cd F rfl (fun hlt => ?_) (fun hlt => ?_)
       ·refine wp_skip ?_
        refine tn <| hK15 _ _ ?_
        refine sq fun K17 hK17 => ?_
        refine bl ?_
        refine sq fun K18 hK18 => ?_
        refine sq fun K19 hK19 => ?_
        have hltx : i < γ.out.reads.length := by omega
        replace hlt : i < γ.reads.length := by rw [← out_reads hγo]; exact hltx
        obtain ⟨hj, hpp⟩ := hFro.paths hax hay hlt
        have hlty : i < δ.out.reads.length := by rw [out_reads hδo]; exact hj
        have hp2 : (γ.out.reads[i]).path = (δ.out.reads[i]).path := by simp only [out_reads hγo, out_reads hδo]; exact hpp
        obtain ⟨ab, ao, rfl, -, -⟩ := (hfx2.sl S (i := 0) rfl).at_ hltx
        obtain ⟨bb, bo, rfl, -, -⟩ := (hfy2.sl S (i := 2) rfl).at_ hlty
        refine rq (C := fun w => St _ w _) Tryz.mixed (by kernel_rfl) (S.drewN 1) ?_
        refine qv F (fun w S => y_mv rfl rfl) rfl rfl rfl fun a F => ?_
        refine qv F (fun w S => y_fa rfl rfl fi41_3) rfl rfl rfl fun a F => ?_
        refine qv F (fun w S => y_ld rfl rfl (S.ld (i := 3) rfl rfl Tryz.isAgg39)) rfl rfl rfl fun a F => ?_
        refine qv F (fun w S => y_ln rfl rfl Tryz.underlying39) rfl rfl rfl fun a F => ?_
        refine qv F (fun w S => y_ge rfl rfl rfl) rfl rfl rfl fun a F => ?_
        refine qv F (fun w S => y_mv rfl rfl) rfl rfl rfl fun a F => ?_
        refine qgv F rfl rfl rfl (decide_eq_false (by omega)) (fun w S => y_fa rfl rfl fi41_3) rfl rfl fun a F => ?_
        refine qgv F rfl rfl rfl (decide_eq_false (by omega)) (fun w S => y_ld rfl rfl (S.ld (i := 1) rfl rfl Tryz.isAgg39)) rfl rfl fun a F => ?_
        refine qgv F rfl rfl rfl (decide_eq_false (by omega)) (fun w S => y_mv rfl rfl) rfl rfl fun a F => ?_
        refine qgv F rfl rfl rfl (decide_eq_false (by omega)) (fun w S => y_ia rfl rfl rfl rfl Tryz.underlying39 Tryz.sizeOf52 i rfl hltx) rfl rfl fun a F => ?_
        refine qgv F rfl rfl rfl (decide_eq_false (by omega)) (fun w S => y_fa rfl rfl fi52_0) rfl rfl fun a F => ?_
        refine qgv F rfl rfl rfl (decide_eq_false (by omega)) (fun w S => y_ld rfl rfl (ld1 Tryz.isAgg9 (sl_at2 (hfx2.sl S (i := 0) rfl) hltx 0 _ rfl))) rfl rfl fun a F => ?_
        refine qgv F rfl rfl rfl (decide_eq_false (by omega)) (fun w S => y_fa rfl rfl fi41_3) rfl rfl fun a F => ?_
        refine qgv F rfl rfl rfl (decide_eq_false (by omega)) (fun w S => y_ld rfl rfl (S.ld (i := 3) rfl rfl Tryz.isAgg39)) rfl rfl fun a F => ?_
        refine qgv F rfl rfl rfl (decide_eq_false (by omega)) (fun w S => y_mv rfl rfl) rfl rfl fun a F => ?_
        refine qgv F rfl rfl rfl (decide_eq_false (by omega)) (fun w S => y_ia rfl rfl rfl rfl Tryz.underlying39 Tryz.sizeOf52 i rfl hlty) rfl rfl fun a F => ?_
        refine qgv F rfl rfl rfl (decide_eq_false (by omega)) (fun w S => y_fa rfl rfl fi52_0) rfl rfl fun a F => ?_
        refine qgv F rfl rfl rfl (decide_eq_false (by omega)) (fun w S => y_ld rfl rfl (ld1 Tryz.isAgg9 (sl_at2 (hfy2.sl S (i := 2) rfl) hlty 0 _ rfl))) rfl rfl fun a F => ?_
        refine qgv F rfl rfl rfl (decide_eq_false (by omega)) (fun w S => Go.Eng.y_sn rfl rfl rfl) rfl rfl fun a F => ?_
        refine qv F (fun w S => y_pkf (decide_eq_false (by omega)) rfl rfl rfl) rfl rfl rfl fun a F => ?_
        refine qn fun w S => ?_
        refine tn <| hK19 _ _ ?_
        refine cf F rfl (by rw [decide_eq_true hp2]; rfl) ?_
        refine wp_skip ?_
        refine tn <| hK18 _ _ ?_
        refine sq fun K20 hK20 => ?_
        refine rq (C := fun w => St _ w _) Tryz.mixed (by kernel_rfl) (S.drewN 1) ?_
        refine qv F (fun w S => y_fa rfl rfl fi41_3) rfl rfl rfl fun a F => ?_
        refine qv F (fun w S => y_ld rfl rfl (S.ld (i := 1) rfl rfl Tryz.isAgg39)) rfl rfl rfl fun a F => ?_
        refine qv F (fun w S => y_mv rfl rfl) rfl rfl rfl fun a F => ?_
        refine qv F (fun w S => y_ia rfl rfl rfl rfl Tryz.underlying39 Tryz.sizeOf52 i rfl hltx) rfl rfl rfl fun a F => ?_
        refine qv F (fun w S => y_ld rfl rfl (lda Tryz.isAgg52 Tryz.sizeOf52 (len37 _) (sl_at2 (hfx2.sl S (i := 0) rfl) hltx))) rfl rfl rfl fun a F => ?_
        refine qv F (fun w S => y_fa rfl rfl fi41_3) rfl rfl rfl fun a F => ?_
        refine qv F (fun w S => y_ld rfl rfl (S.ld (i := 3) rfl rfl Tryz.isAgg39)) rfl rfl rfl fun a F => ?_
        refine qv F (fun w S => y_mv rfl rfl) rfl rfl rfl fun a F => ?_
        refine qv F (fun w S => y_ia rfl rfl rfl rfl Tryz.underlying39 Tryz.sizeOf52 i rfl hlty) rfl rfl rfl fun a F => ?_
        refine qv F (fun w S => y_ld rfl rfl (lda Tryz.isAgg52 Tryz.sizeOf52 (len37 _) (sl_at2 (hfy2.sl S (i := 2) rfl) hlty))) rfl rfl rfl fun a F => ?_
        refine qv F (fun w S => y_ne37 rfl rfl rfl) rfl rfl rfl fun a F => ?_
        refine qv F (fun w S => y_mv rfl rfl) rfl rfl rfl fun a F => ?_
        refine gsp F 80 rfl (fun h4 => ?_) (fun h4 => ?_)
        ·have g4 := h4
         try simp only [zi1, zi2, zi3, zi4, zi5, zi6, zi7, zi8] at g4
         refine qgs F rfl rfl rfl h4 rfl rfl fun a F => ?_
         refine qgs F rfl rfl rfl h4 rfl rfl fun a F => ?_
         refine qgs F rfl rfl rfl h4 rfl rfl fun a F => ?_
         refine qgs F rfl rfl rfl h4 rfl rfl fun a F => ?_
         refine qgs F rfl rfl rfl h4 rfl rfl fun a F => ?_
         refine qgs F rfl rfl rfl h4 rfl rfl fun a F => ?_
         refine qgs F rfl rfl rfl h4 rfl rfl fun a F => ?_
         refine qgs F rfl rfl rfl h4 rfl rfl fun a F => ?_
         refine qgs F rfl rfl rfl h4 rfl rfl fun a F => ?_
         refine qgs F rfl rfl rfl h4 rfl rfl fun a F => ?_
         refine qgs F rfl rfl rfl h4 rfl rfl fun a F => ?_
         refine qgs F rfl rfl rfl h4 rfl rfl fun a F => ?_
         refine qgs F rfl rfl rfl h4 rfl rfl fun a F => ?_
         refine qgs F rfl rfl rfl h4 rfl rfl fun a F => ?_
         refine qgs F rfl rfl rfl h4 rfl rfl fun a F => ?_
         refine qgs F rfl rfl rfl h4 rfl rfl fun a F => ?_
         refine qgs F rfl rfl rfl h4 rfl rfl fun a F => ?_
         refine qv F (fun w S => y_pkt h4 rfl rfl rfl) rfl rfl rfl fun a F => ?_
         refine qn fun w S => ?_
         refine tn <| hK20 _ _ ?_
         refine ct F rfl rfl ?_
         refine sq fun K21 hK21 => ?_
         refine rg ?_
         refine dc F (c_f rfl rfl rfl Tryz.call30) rfl rfl rfl (c_fixed _ (G.st S)) fun a v w' hr F => ?_
         obtain ⟨rfl, hb⟩ := hr
         replace S := S.call hb
         refine dv F (y_as rfl rfl) rfl rfl rfl fun a F => ?_
         refine dn ?_
         refine tn <| hK21 _ _ ?_
         refine wp_ret ?_
         refine br <| tr <| lr <| br <| tr <| ?_
         exact rt1 F rfl rfl ⟨rfl, S.bel⟩
        ·have g4 := h4
         try simp only [zi1, zi2, zi3, zi4, zi5, zi6, zi7, zi8] at g4
         refine qgv F rfl rfl rfl h4 (fun w S => y_mv rfl rfl) rfl rfl fun a F => ?_
         refine qgv F rfl rfl rfl h4 (fun w S => y_fa rfl rfl fi41_3) rfl rfl fun a F => ?_
         refine qgv F rfl rfl rfl h4 (fun w S => y_ld rfl rfl (S.ld (i := 1) rfl rfl Tryz.isAgg39)) rfl rfl fun a F => ?_
         refine qgv F rfl rfl rfl h4 (fun w S => y_mv rfl rfl) rfl rfl fun a F => ?_
         refine qgv F rfl rfl rfl h4 (fun w S => y_ia rfl rfl rfl rfl Tryz.underlying39 Tryz.sizeOf52 i rfl hltx) rfl rfl fun a F => ?_
         refine qgv F rfl rfl rfl h4 (fun w S => y_fa rfl rfl fi52_0) rfl rfl fun a F => ?_
         refine qgv F rfl rfl rfl h4 (fun w S => y_ld rfl rfl (ld1 Tryz.isAgg9 (sl_at2 (hfx2.sl S (i := 0) rfl) hltx 0 _ rfl))) rfl rfl fun a F => ?_
         refine qgc F rfl rfl rfl h4 (.agg (encK (tell x (γ.out.reads[i]'hltx).path)).toArray) (fun w S => (c_f rfl rfl rfl Tryz.call34)) rfl rfl (fun w S => (c_Tell _ _ (hX.st S) (by have := ez1_len x; omega)).mono (Ret.mono fun v w' h => ⟨h.1, S.call h.2⟩)) fun a F => ?_
         refine qgv F rfl rfl rfl h4 (fun w S => y_mv rfl rfl) rfl rfl fun a F => ?_
         refine qgv F rfl rfl rfl h4 (fun w S => y_fa rfl rfl fi41_3) rfl rfl fun a F => ?_
         refine qgv F rfl rfl rfl h4 (fun w S => y_ld rfl rfl (S.ld (i := 1) rfl rfl Tryz.isAgg39)) rfl rfl fun a F => ?_
         refine qgv F rfl rfl rfl h4 (fun w S => y_mv rfl rfl) rfl rfl fun a F => ?_
         refine qgv F rfl rfl rfl h4 (fun w S => y_ia rfl rfl rfl rfl Tryz.underlying39 Tryz.sizeOf52 i rfl hltx) rfl rfl fun a F => ?_
         refine qgv F rfl rfl rfl h4 (fun w S => y_fa rfl rfl fi52_0) rfl rfl fun a F => ?_
         refine qgv F rfl rfl rfl h4 (fun w S => y_ld rfl rfl (ld1 Tryz.isAgg9 (sl_at2 (hfx2.sl S (i := 0) rfl) hltx 0 _ rfl))) rfl rfl fun a F => ?_
         refine qgc F rfl rfl rfl h4 (.agg (encK (tell y (γ.out.reads[i]'hltx).path)).toArray) (fun w S => (c_f rfl rfl rfl Tryz.call34)) rfl rfl (fun w S => (c_Tell _ _ (hY.st S) (by have := ez1_len y; omega)).mono (Ret.mono fun v w' h => ⟨h.1, S.call h.2⟩)) fun a F => ?_
         refine qgv F rfl rfl rfl h4 (fun w S => y_nqK rfl rfl rfl) rfl rfl fun a F => ?_
         refine qv F (fun w S => y_pkf h4 rfl rfl rfl) rfl rfl rfl fun a F => ?_
         refine qn fun w S => ?_
         refine tn <| hK20 _ _ ?_
         refine cb F rfl (fun hkk0 => ?_) (fun hkk0 => ?_)
         ·refine sq fun K22 hK22 => ?_
          refine rg ?_
          refine dc F (c_f rfl rfl rfl Tryz.call30) rfl rfl rfl (c_fixed _ (G.st S)) fun a v w' hr F => ?_
          obtain ⟨rfl, hb⟩ := hr
          replace S := S.call hb
          refine dv F (y_as rfl rfl) rfl rfl rfl fun a F => ?_
          refine dn ?_
          refine tn <| hK22 _ _ ?_
          refine wp_ret ?_
          refine br <| tr <| lr <| br <| tr <| ?_
          exact rt1 F rfl rfl ⟨rfl, S.bel⟩
         ·refine wp_skip ?_
          refine bn <| tn <| hK17 _ _ ?_
          have hkk : tell x (γ.out.reads[i]'hltx).path = tell y (γ.out.reads[i]'hltx).path := kn_ext (by simpa using hkk0)
          have hp12 : (γ.out.reads[i]'hltx).path = (γ.reads[i]).path := by simp only [out_reads hγo]
          refine rg ?_
          refine dv F (y_mv rfl rfl) rfl rfl rfl fun a F => ?_
          refine dv F (y_add rfl rfl rfl (by omega)) rfl rfl rfl fun a F => ?_
          refine dv F (y_as rfl rfl) rfl rfl rfl fun a F => ?_
          refine dn ?_
          exact ln (by omega) ⟨i + 1, rfl, (hFro.next hax hay hlt (tell_same hp12 hkk)), (by omega), F.sub _ ⟨rfl, rfl, rfl, rfl, rfl, trivial⟩, S.pick [0, 1, 2, 3] _ ⟨rfl, rfl, rfl, rfl, trivial⟩ rfl⟩
       ·refine wp_exit ?_
        refine tx <| lx <| bh <| tn <| hK13 _ _ ?_
        refine sq fun K23 hK23 => ?_
        obtain rfl : γ = δ := hFro.done hax (by rw [← out_reads hγo]; omega)
        refine rg ?_
        refine dv F (y_ld rfl rfl (S.lda (i := 1) rfl Tryz.isAgg41 Tryz.sizeOf41 rfl)) rfl rfl rfl fun a F => ?_
        refine dv F (y_ld rfl rfl (S.lda (i := 3) rfl Tryz.isAgg41 Tryz.sizeOf41 rfl)) rfl rfl rfl fun a F => ?_
        refine dc F (c_f rfl rfl rfl Tryz.call21) rfl rfl rfl (c_Same _ (hfx1.sl S (i := 0) rfl) (hfx2.sl S (i := 0) rfl) (hfy1.sl S (i := 2) rfl) (hfy2.sl S (i := 2) rfl) hgl) fun a v w' hr F => ?_
        obtain ⟨rfl, hb⟩ := hr
        rw [sameO_rfl] at F
        replace S := S.call hb
        refine dv F (y_mv rfl rfl) rfl rfl rfl fun a F => ?_
        refine gc F rfl rfl rfl rfl (c_f rfl rfl rfl Tryz.call30) rfl rfl (c_fixed _ (G.st S)) fun a v w' hr F => ?_
        obtain ⟨rfl, hb⟩ := hr
        replace S := S.call hb
        refine dv F (y_pkt rfl rfl rfl rfl) rfl rfl rfl fun a F => ?_
        refine dv F (y_as rfl rfl) rfl rfl rfl fun a F => ?_
        refine dn ?_
        refine tn <| hK23 _ _ ?_
        refine wp_ret ?_
        refine ?_
        exact rt1 F rfl rfl ⟨rfl, S.bel⟩
end Go.Proofs.YtgcmddaibnimjaaGreatDoor
namespace Go.Proofs.YtgcmddaibnimjaaGreatDoor
open Go.RowKit Go.Eng Go.ChangeShapes Go.WideShapes
theorem bulkAll_map {H : Type} {α : Type} (D : α → DataW H) (f : α → Nat) : ∀ (l : List α), (∀ i ∈ l, f i ≤ Rows.uptoBulk (D i)) → (l.map f).sum ≤ Rows.uptoBulkAll (l.map D)
 | [], _ => Nat.zero_le _
 | x :: l, h => by
  have h1 := bulkAll_map D f l fun i hi => h i (List.mem_cons_of_mem _ hi)
  have h2 := h x (List.mem_cons_self ..)
  simp only [List.map_cons, List.sum_cons, Rows.uptoBulkAll]
  omega
section
variable {H : Type} {he : TypeId × Value → H} {P : Program} {w : World} {base : Nat} {spare : Nat → Bool} {held : Bool}
theorem addr_addZ {w : World} {a : Addr} (h : ∃ u, w.cell? a = some u) : a = ⟨a.block, a.off, none⟩ ∧ a.block < w.heap.size := by
 obtain ⟨u, h⟩ := h
 unfold World.cell? at h
 split at h
 ·rename_i c _ _ hb
  refine ⟨?_, (Array.getElem?_eq_some_iff.1 hb).1⟩
  obtain ⟨b, o, s⟩ := a
  cases s with
  | none => rfl
  | some s => simp at h
 ·cases h
theorem add_none (b o n : Nat) : (⟨b, o, none⟩ : Addr).add n = ⟨b, o + n, none⟩ := by
 unfold Addr.add
 by_cases h : n = 0 <;> simp [h]
theorem op_slB {α : Type} {enc : α → List Value} {z : Nat} {t e : TypeId} {fuel : Nat} {cs : List Value} {x : DataW H × List MemPlace} (m : α → Nat) (ht : P.underlying t = some (.slice e)) (hz : P.cellsOf e = z) (hzp : 0 < z)
  (hel : ∀ n cs y, DataW.trod he P w base spare held n e cs = some y → ∃ a, cs = enc a ∧ m a ≤ Rows.uptoBulk y.1)
  (h : DataW.trod he P w base spare held fuel t cs = some x) :
  ∃ A xs c, cs = [.slice A xs.length c] ∧ Sl w z enc A xs ∧ (xs.map m).sum ≤ Rows.uptoBulk x.1 := by
 rcases Deep.open_slice ht h with ⟨rfl, rfl⟩ | ⟨a, len, cap, q, n, D, Pl, rfl, hb, hlc, hcm, rfl, rfl, hx⟩
 ·exact ⟨none, [], 0, rfl, Sl.nil, Nat.zero_le _⟩
 have hmlen : len ≤ (if spare a.block = true then cap else len) := by split <;> omega
 have key : ∀ i, i < len → ∃ a', (∃ cs', w.cells? base (a.add (i * z)) z = some cs' ∧ cs' = enc a') ∧ m a' ≤ Rows.uptoBulk (D i) := by
  intro i hi
  obtain ⟨cs', h1, h2⟩ := hx i (by omega)
  rw [hz] at h1
  obtain ⟨a', h3, h4⟩ := hel _ _ _ h2
  exact ⟨a', ⟨cs', h1, h3⟩, h4⟩
 by_cases hl0 : len = 0
 ·subst hl0
  exact ⟨some a, [], cap, rfl, Sl.nil, Nat.zero_le _⟩
 obtain ⟨a0, _⟩ := key 0 (by omega)
 haveI : Inhabited α := ⟨a0⟩
 obtain ⟨f, hf⟩ := Deep.choose_lt (α := α) (p := fun i a' => (∃ cs', w.cells? base (a.add (i * z)) z = some cs' ∧ cs' = enc a') ∧ m a' ≤ Rows.uptoBulk (D i)) key
 have hlen : ((List.range len).map f).length = len := by simp
 obtain ⟨⟨cs0, hc0, e0⟩, _⟩ := hf 0 (by omega)
 obtain ⟨_, hl1, hcell0⟩ := World.cells?_some hc0
 have hcell00 := hcell0 0 (by omega)
 have hsome : ∃ u, w.cell? a = some u := by
  refine ⟨cs0[0]'(by omega), ?_⟩
  rw [show (a.add (0 * z)).add 0 = a by simp [Addr.add]] at hcell00
  rw [hcell00, List.getElem?_eq_getElem (by omega)]
 obtain ⟨ha, hab⟩ := addr_addZ hsome
 refine ⟨some a, (List.range len).map f, cap, by rw [hlen], fun _ => ⟨a.block, a.off, congrArg some ha, hab, ?_⟩, ?_⟩
 ·intro j x hj i u hu
  have hjl : j < len := by
   have := (List.getElem?_eq_some_iff.1 hj).1
   simpa using this
  have hxj : x = f j := by
   simp [hjl] at hj
   exact hj.symm
  subst hxj
  obtain ⟨⟨cs', hc', e'⟩, _⟩ := hf j hjl
  obtain ⟨_, hl', hcell'⟩ := World.cells?_some hc'
  have hiz : i < z := by
   have := (List.getElem?_eq_some_iff.1 hu).1
   rw [← e', hl'] at this
   exact this
  have := hcell' i hiz
  rw [e', hu] at this
  rw [← this]
  congr 1
  rw [ha, add_none, add_none]
 ·have h1 : (((List.range len).map f).map m).sum = ((List.range len).map fun i => m (f i)).sum := by rw [List.map_map]; rfl
  rw [h1]
  have h2 := bulkAll_map D (fun i => m (f i)) (List.range len) fun i hi => (hf i (List.mem_range.1 hi)).2
  show _ ≤ Rows.uptoBulk (DataW.slice _ _)
  simp only [Rows.uptoBulk]
  omega
end
theorem cells9 : Tryz.prog.cellsOf 9 = 1 := by kernel_rfl
theorem cells24 : Tryz.prog.cellsOf 24 = 1 := by kernel_rfl
theorem cells25 : Tryz.prog.cellsOf 25 = 1 := by kernel_rfl
theorem cells27 : Tryz.prog.cellsOf 27 = 7 := by kernel_rfl
theorem cells109 : Tryz.prog.cellsOf 109 = 2 := by kernel_rfl
theorem cells66 : Tryz.prog.cellsOf 66 = 2 := by kernel_rfl
section
variable {H : Type} {he : TypeId × Value → H} {w : World} {base : Nat} {spare : Nat → Bool} {held : Bool} {fuel : Nat} {cs : List Value} {x : DataW H × List MemPlace}
theorem opS (h : DataW.trod he Tryz.prog w base spare held fuel 9 cs = some x) : ∃ s : ByteArray, cs = encS s ∧ s.size + 1 ≤ Rows.uptoBulk x.1 := by
 obtain ⟨s, rfl, rfl, _⟩ := DataW.trod_string Tryz.underlying9 h
 exact ⟨s, rfl, by simp [Rows.uptoBulk]⟩
theorem opSs (h : DataW.trod he Tryz.prog w base spare held fuel 25 cs = some x) : ∃ A xs c, cs = [.slice A xs.length c] ∧ Sl w 1 encS A xs ∧ sz1 xs ≤ Rows.uptoBulk x.1 :=
 op_slB (fun s : ByteArray => s.size + 1) Tryz.underlying25 cells9 (by decide) (fun n cs y h => opS h) h
theorem takeOne {cs : List Value} {v : Value} {i : Nat} (h : (cs.drop i).take 1 = [v]) : cs[i]? = some v := by
 have : ((cs.drop i).take 1)[0]? = some v := by rw [h]; rfl
 simpa [List.getElem?_take, List.getElem?_drop] using this
theorem opPair {t : Nat} (ht : ∃ f0 f1 : Field, Tryz.prog.underlying t = some (.struct #[f0, f1]) ∧ f0.type = 9 ∧ f1.type = 9 ∧ f0.offset = 0 ∧ f1.offset = 1) (hc : Tryz.prog.cellsOf t = 2) (h : DataW.trod he Tryz.prog w base spare held fuel t cs = some x) :
  ∃ p : ByteArray × ByteArray, cs = encSt p ∧ p.1.size + p.2.size + 1 ≤ Rows.uptoBulk x.1 := by
 obtain ⟨f0, f1, ht, h0, h1, o0, o1⟩ := ht
 obtain ⟨y0, y1, n, rfl, hl, k0, k1⟩ := trod_struct2 ht h
 rw [h0, o0, cells9] at k0
 rw [h1, o1, cells9] at k1
 obtain ⟨s0, e0, b0⟩ := opS k0
 obtain ⟨s1, e1, b1⟩ := opS k1
 have c0 := takeOne e0
 have c1 := takeOne e1
 rw [hc] at hl
 refine ⟨(s0, s1), ?_, ?_⟩
 ·match cs, hl with
  | [a, b], _ => simp at c0 c1; subst c0 c1; rfl
 ·show _ ≤ Rows.uptoBulk (DataW.agg _)
  simp only [Rows.uptoBulk, Rows.uptoBulkAll]
  have b0' : s0.size + 1 ≤ Rows.uptoBulk y0.1 := b0
  have b1' : s1.size + 1 ≤ Rows.uptoBulk y1.1 := b1
  show s0.size + s1.size + 1 ≤ _
  omega
theorem opSt (h : DataW.trod he Tryz.prog w base spare held fuel 109 cs = some x) : ∃ p : ByteArray × ByteArray, cs = encSt p ∧ p.1.size + p.2.size + 1 ≤ Rows.uptoBulk x.1 := opPair ⟨_, _, Tryz.underlying109, rfl, rfl, rfl, rfl⟩ cells109 h
theorem opF (h : DataW.trod he Tryz.prog w base spare held fuel 66 cs = some x) : ∃ p : ByteArray × ByteArray, cs = encSt p ∧ p.1.size + p.2.size + 1 ≤ Rows.uptoBulk x.1 := opPair ⟨_, _, Tryz.underlying66, rfl, rfl, rfl, rfl⟩ cells66 h
theorem opSts (h : DataW.trod he Tryz.prog w base spare held fuel 24 cs = some x) : ∃ A xs c, cs = [.slice A xs.length c] ∧ Sl w 2 encSt A xs ∧ ez1 xs ≤ Rows.uptoBulk x.1 :=
 op_slB (fun x : ByteArray × ByteArray => x.1.size + x.2.size + 1) Tryz.underlying24 cells109 (by decide) (fun n cs y h => opSt h) h
theorem opFs (h : DataW.trod he Tryz.prog w base spare held fuel 38 cs = some x) : ∃ A xs c, cs = [.slice A xs.length c] ∧ Sl w 2 encSt A xs ∧ ez1 xs ≤ Rows.uptoBulk x.1 :=
 op_slB (fun x : ByteArray × ByteArray => x.1.size + x.2.size + 1) Tryz.underlying38 cells66 (by decide) (fun n cs y h => opF h) h
set_option maxRecDepth 8000 in
theorem opA (h : DataW.trod he Tryz.prog w base spare held fuel 27 cs = some x) :
  ∃ u1 u2 t Ae env ce Ai ins ci Aa asks ca Ao outs co, cs = actC u1 u2 t Ae env.length ce Ai ins.length ci Aa asks.length ca Ao outs.length co ∧ Sl w 2 encSt Ae env ∧ Sl w 1 encS Ai ins ∧ Sl w 1 encS Aa asks ∧ Sl w 1 encS Ao outs ∧ gz t env ins asks outs ≤ Rows.uptoBulk x.1 := by
 obtain ⟨xs, n, _, rfl, hl, hlen, hf⟩ := DataW.trod_struct Tryz.underlying27 h
 match xs, hlen with
 | [y0, y1, y2, y3, y4, y5], _ =>
  have k1 : DataW.trod he Tryz.prog w base spare held n 9 ((cs.drop 2).take (Tryz.prog.cellsOf 9)) = some y1 := hf 1 _ rfl
  have k2 : DataW.trod he Tryz.prog w base spare held n 24 ((cs.drop 3).take (Tryz.prog.cellsOf 24)) = some y2 := hf 2 _ rfl
  have k3 : DataW.trod he Tryz.prog w base spare held n 25 ((cs.drop 4).take (Tryz.prog.cellsOf 25)) = some y3 := hf 3 _ rfl
  have k4 : DataW.trod he Tryz.prog w base spare held n 25 ((cs.drop 5).take (Tryz.prog.cellsOf 25)) = some y4 := hf 4 _ rfl
  have k5 : DataW.trod he Tryz.prog w base spare held n 25 ((cs.drop 6).take (Tryz.prog.cellsOf 25)) = some y5 := hf 5 _ rfl
  rw [cells9] at k1
  rw [cells24] at k2
  rw [cells25] at k3 k4 k5
  obtain ⟨t, e1, b1⟩ := opS k1
  obtain ⟨Ae, env, ce, e2, s2, b2⟩ := opSts k2
  obtain ⟨Ai, ins, ci, e3, s3, b3⟩ := opSs k3
  obtain ⟨Aa, asks, ca, e4, s4, b4⟩ := opSs k4
  obtain ⟨Ao, outs, co, e5, s5, b5⟩ := opSs k5
  have c1 := takeOne e1; have c2 := takeOne e2; have c3 := takeOne e3; have c4 := takeOne e4; have c5 := takeOne e5
  rw [cells27] at hl
  match cs, hl with
  | [a0, a1, a2, a3, a4, a5, a6], _ =>
   simp at c1 c2 c3 c4 c5
   subst c1 c2 c3 c4 c5
   refine ⟨a0, a1, t, Ae, env, ce, Ai, ins, ci, Aa, asks, ca, Ao, outs, co, rfl, s2, s3, s4, s5, ?_⟩
   show t.size + (sz1 ins + (sz1 asks + (sz1 outs + 0))) + ez1 env ≤ Rows.uptoBulk (DataW.agg _)
   simp only [List.map_cons, List.map_nil, Rows.uptoBulk, Rows.uptoBulkAll]
   have b1' : t.size + 1 ≤ Rows.uptoBulk y1.1 := b1
   have b2' : ez1 env ≤ Rows.uptoBulk y2.1 := b2
   have b3' : sz1 ins ≤ Rows.uptoBulk y3.1 := b3
   have b4' : sz1 asks ≤ Rows.uptoBulk y4.1 := b4
   have b5' : sz1 outs ≤ Rows.uptoBulk y5.1 := b5
   omega
end
end Go.Proofs.YtgcmddaibnimjaaGreatDoor
namespace Go.Eng
open Go.RowKit Go.ChangeShapes Go.WideShapes
section
variable {H : Type} {he : TypeId × Value → H} {P : Program} {w : World} {base : Nat} {spare : Nat → Bool} {held : Bool}
theorem add_none (b o n : Nat) : (⟨b, o, none⟩ : Addr).add n = ⟨b, o + n, none⟩ := by
 unfold Addr.add
 by_cases h : n = 0 <;> simp [h]
end
end Go.Eng
namespace Go.Eng
open Go.RowKit Go.ChangeShapes Go.WideShapes
section
variable {H : Type} {enc : TypeId × Value → H} {P : Program}
theorem trodAll_again (hl : laidOutB P = true) {W W' : World} (hb : Below W.heap.size W W') : ∀ {ts : List TypeId} {vs : List Value} {ds : List (DataW H)} {ps : List MemPlace},
  (ts.all fun t => P.readableRec t && decide (t < P.types.size)) = true → (∀ p ∈ ps, p.block < W.heap.size) →
  DataW.TrodAll enc P W 0 (fun _ => true) true ts vs ds ps → DataW.TrodAll enc P W' 0 (fun b => decide (b < W.heap.size)) true ts vs ds ps
 | [], [], [], ps, _, _, h => h
 | t :: ts, v :: vs, d :: ds, ps, hr, hlt, ⟨p, q, h1, h2, e⟩ => by
  subst e
  simp only [List.all_cons, Bool.and_eq_true, decide_eq_true_eq] at hr
  refine ⟨p, q, Below.trod hl hr.1.1 hr.1.2 h1 hb fun x hx => hlt x (List.mem_append_left _ hx), trodAll_again hl hb hr.2 (fun x hx => hlt x (List.mem_append_right _ hx)) h2, rfl⟩
 | [], _ :: _, _, _, _, _, h => h.elim
 | [], [], _ :: _, _, _, _, h => h.elim
 | _ :: _, [], _, _, _, _, h => h.elim
 | _ :: _, _ :: _, [], _, _, _, h => h.elim
theorem shut_true {W : World} {base t : Nat} {sp : Nat → Bool} {held : Bool} (ht : P.underlying t = some .bool) : DataW.Trod enc P W base sp held t (.bool true) (.lit (.bool true)) [] := ⟨1, by simp [DataW.trod, Value.cells, ht]⟩
theorem post_true {f : Func} {s : ChangeSpec} {W W' : World} {args : Array Value} {ds : List (DataW H)} {before : List MemPlace} {t : TypeId}
  (hW : DataW.Whole enc P f.params.toList s.vars false W args.toList ds [] before) (hl : laidOutB P = true) (hr : (f.params.toList.all fun t => P.readableRec t && decide (t < P.types.size)) = true)
  (hv : s.vars = []) (hfr : (s.fn H (ds ++ [])).results = [.lit (.bool true)]) (hfa : (s.fn H (ds ++ [])).args = ds) (hfv : (s.fn H (ds ++ [])).vars = [])
  (hf : f.resultTypes = #[t]) (ht : P.underlying t = some .bool) (hb : Below W.heap.size W W') : s.post enc P f false true false false W args (.bool true) W' := by
 have hlt : ∀ p ∈ before, p.block < W.heap.size := fun p hp => hW.lt p hp
 have hW2 := hW
 obtain ⟨p, q, hA, hV, rfl, _, _⟩ := hW2
 rw [hv] at hV
 obtain ⟨_, rfl⟩ := trodVars_none hV
 rw [List.append_nil] at hlt
 refine ⟨ds, [], _, [], p, [], hW, ?_, ?_, ?_, hb.frame _, fun h => by cases h⟩
 ·rw [hfr, hf]
  exact trodAll_mk1 (shut_true ht)
 ·rw [hfa]
  exact trodAll_again hl hb hr hlt hA
 ·rw [hfv, hv]
  rfl
end
end Go.Eng
