/- A part of the proof of a law of this seat. No condition of its own. -/
import Derived.Test.YtgcmddaibnimjaaGreatDoorM1
import Derived.Sort.LoopGhostIn
import Derived.Lib.Builder
import Derived.Lib.AppendStr
import Derived.Laws.Externs
set_option linter.unusedVariables false
set_option linter.unusedSimpArgs false
set_option maxRecDepth 8000
set_option maxHeartbeats 4000000
namespace Go.Eng
open Go.RowKit
abbrev Hp := Nat → Option Obj
def Hp.le (H K : Hp) : Prop := ∀ k o, H k = some o → K k = some o
def Hp.add (H : Hp) (b : Nat) (o : Obj) : Hp := fun k => if k = b then some o else H k
theorem Hp.le_refl (H : Hp) : H.le H := fun _ _ h => h
theorem Hp.le_trans {H K L : Hp} (h : H.le K) (k : K.le L) : H.le L := fun b o hb => k b o (h b o hb)
def fz (H : Hp) : Res := ⟨fun k => (H k).isSome = true, fun w => ∀ k o, H k = some o → w.heap[k]? = some o, fun w w' h hw k o hk => (h k (by rw [hk]; rfl)).trans (hw k o hk)⟩
section
variable {w0 w w' : World} {hs : List Res}
theorem Hp.add_self (H : Hp) (b : Nat) (o : Obj) : (H.add b o) b = some o := by simp [Hp.add]
theorem St.fz0 (S : St w0 w hs) : St w0 w (hs ++ [fz fun _ => none]) :=
 S.add _ (fun k o h => by cases h) (fun k hk => by cases hk) fun i s h k hk => by cases hk
theorem St.fzc {H : Hp} {i b t j : Nat} {cs : List Value} {v : Value} (S : St w0 w hs) (h : nth hs i = some (fz H)) (hb : H b = some (.cells cs.toArray t (0, 0))) (hv : nth cs j = some v) : w.cell? ⟨b, j, none⟩ = some v := by
 have := S.ok h b _ hb
 simp [World.cell?, this]
 rw [nth_eq] at hv
 exact hv
def pk (hs : List Res) : Res := ⟨fun k => ∃ i r, nth hs i = some r ∧ r.fp k, fun w => ∀ i r, nth hs i = some r → r.ok w, fun w w' h ho i r hi => r.loc w w' (fun k hk => h k ⟨i, r, hi, hk⟩) (ho i r hi)⟩
theorem nth_append_lt {α : Type} {xs ys : List α} {i : Nat} (h : i < xs.length) : nth (xs ++ ys) i = nth xs i := by rw [nth_eq, nth_eq, List.getElem?_append_left h]
theorem nth_append_ge {α : Type} {xs ys : List α} {i : Nat} (h : xs.length ≤ i) : nth (xs ++ ys) i = nth ys (i - xs.length) := by rw [nth_eq, nth_eq, List.getElem?_append_right h]
theorem nth_lt {α : Type} {xs : List α} {i : Nat} {x : α} (h : nth xs i = some x) : i < xs.length := by rw [nth_eq] at h; exact (List.getElem?_eq_some_iff.1 h).1
theorem St.packL {xs ys : List Res} (S : St w0 w (xs ++ ys)) : St w0 w (xs ++ [pk ys]) := by
 have at0 : ∀ i r, nth (xs ++ [pk ys]) i = some r → (nth xs i = some r ∧ i < xs.length) ∨ (i = xs.length ∧ r = pk ys) := fun i r h => by
  by_cases hi : i < xs.length
  ·rw [nth_append_lt hi] at h; exact .inl ⟨h, hi⟩
  ·rw [nth_append_ge (by omega)] at h
   have := nth_lt h
   simp at this
   have e : i - xs.length = 0 := by omega
   rw [e] at h; cases h
   exact .inr ⟨by omega, rfl⟩
 have hx : ∀ i r, nth xs i = some r → nth (xs ++ ys) i = some r := fun i r h => by rw [nth_append_lt (nth_lt h)]; exact h
 have hy : ∀ i r, nth ys i = some r → nth (xs ++ ys) (xs.length + i) = some r := fun i r h => by rw [nth_append_ge (by omega), Nat.add_sub_cancel_left]; exact h
 refine ⟨S.bel, fun i r h => ?_, fun i j r s h h' hne k hk hs' => ?_⟩
 ·rcases at0 i r h with ⟨h, _⟩ | ⟨_, rfl⟩
  ·exact S.own _ _ (hx i r h)
  ·exact ⟨fun j s hj => (S.own _ _ (hy j s hj)).1, fun k ⟨j, s, hj, hk⟩ => (S.own _ _ (hy j s hj)).2 k hk⟩
 ·rcases at0 i r h with ⟨h, hi⟩ | ⟨hi, rfl⟩ <;> rcases at0 j s h' with ⟨h', hj⟩ | ⟨hj, rfl⟩
  ·exact S.sep i j r s (hx i r h) (hx j s h') hne k hk hs'
  ·obtain ⟨m, q, hm, hq⟩ := hs'
   exact S.sep i _ r q (hx i r h) (hy m q hm) (by omega) k hk hq
  ·obtain ⟨m, q, hm, hq⟩ := hk
   exact S.sep _ j q s (hy m q hm) (hx j s h') (by omega) k hq hs'
  ·omega
end
def getE (l : List (ByteArray × Value)) (s : ByteArray) : Option Value := (l.find? fun p => decide (p.1 = s)).map (·.2)
def EsOk (es : List MapEntry) (l : List (ByteArray × Value)) : Prop := es.map (fun e => (e.key, e.val)) = l.map (fun p => (Value.string p.1, p.2)) ∧ (l.map (·.1)).Nodup
def BornOk (es : List MapEntry) (clock : Nat) : Prop := (∀ x ∈ es, x.born < clock) ∧ (es.map (·.born)).Nodup
theorem bornNil : BornOk [] 0 := ⟨fun x hx => (by cases hx), List.nodup_nil⟩
theorem BornOk.push {es : List MapEntry} {clock : Nat} (h : BornOk es clock) (k v : Value) : BornOk (es ++ [{ key := k, val := v, born := clock }]) (clock + 1) := by
 refine ⟨fun x hx => ?_, ?_⟩
 ·rcases List.mem_append.1 hx with hx | hx
  ·have := h.1 x hx; omega
  ·rw [List.mem_singleton] at hx; subst hx; exact Nat.lt_succ_self _
 ·rw [List.map_append, List.nodup_append]
  refine ⟨h.2, by simp, fun a ha c hc => ?_⟩
  simp at hc
  subst hc
  obtain ⟨x, hx, rfl⟩ := List.mem_map.1 ha
  have := h.1 x hx
  omega
def MpeOk (w : World) (b : Nat) (l : List (ByteArray × Value)) : Prop := ∃ es clock, w.heap[b]? = some (.map es clock) ∧ EsOk es.toList l ∧ BornOk es.toList clock
def mpe (b : Nat) (l : List (ByteArray × Value)) : Res := ⟨fun k => k = b, fun w => MpeOk w b l, fun w w' h ⟨es, clock, h1, h2⟩ => ⟨es, clock, (h b rfl).trans h1, h2⟩⟩
theorem fnd_es (s : ByteArray) : ∀ (es : List MapEntry) (l : List (ByteArray × Value)) (i : Nat), es.map (fun e => (e.key, e.val)) = l.map (fun p => (Value.string p.1, p.2)) → (fnd s es i).map Prod.snd = getE l s
 | [], [], i, _ => rfl
 | e :: es, p :: l, i, h => by
  simp only [List.map_cons, List.cons.injEq, Prod.mk.injEq] at h
  obtain ⟨⟨h1, h2⟩, h3⟩ := h
  simp only [fnd, getE, List.find?_cons, h1, keyIs_str]
  by_cases hs : p.1 = s
  ·subst hs; simp [h2]
  ·have hs' : ¬ s = p.1 := fun e => hs e.symm
   simp only [hs', hs, decide_false, Bool.false_eq_true, if_false]
   exact fnd_es s es l (i + 1) h3
 | [], p :: l, i, h => by simp at h
 | e :: es, [], i, h => by simp at h
theorem strKeys_es : ∀ {es : List MapEntry} {l : List (ByteArray × Value)}, es.map (fun e => (e.key, e.val)) = l.map (fun p => (Value.string p.1, p.2)) → StrKeys es
 | [], _, _ => fun e he => by cases he
 | e :: es, [], h => by simp at h
 | e :: es, p :: l, h => by
  simp only [List.map_cons, List.cons.injEq, Prod.mk.injEq] at h
  intro x hx
  rcases List.mem_cons.1 hx with rfl | hx
  ·exact ⟨p.1, h.1.1⟩
  ·exact strKeys_es h.2 x hx
theorem MpeOk.mp {w : World} {b : Nat} {l : List (ByteArray × Value)} (h : MpeOk w b l) : MpOk w b (getE l) := by
 obtain ⟨es, clock, h1, h2, _⟩ := h
 exact ⟨es, clock, h1, strKeys_es h2.1, fun s => fnd_es s _ l 0 h2.1⟩
theorem getE_none {l : List (ByteArray × Value)} {s : ByteArray} (h : getE l s = none) : ∀ p ∈ l, p.1 ≠ s := by
 intro p hp e
 simp only [getE, Option.map_eq_none_iff, List.find?_eq_none, decide_eq_true_eq] at h
 exact h p hp e
theorem EsOk.push {es : List MapEntry} {l : List (ByteArray × Value)} (h : EsOk es l) (s : ByteArray) (v : Value) (c : Nat) (hn : getE l s = none) : EsOk (es ++ [{ key := .string s, val := v, born := c }]) (l ++ [(s, v)]) := by
 refine ⟨by simp [h.1], ?_⟩
 rw [List.map_append, List.nodup_append]
 refine ⟨h.2, by simp, fun x hx y hy => ?_⟩
 simp at hy
 subst hy
 obtain ⟨p, hp, rfl⟩ := List.mem_map.1 hx
 exact getE_none hn p hp
section
variable {P : Program} {w : World} {b : Nat} {L : List (ByteArray × Value)}
theorem run_lke (h : MpeOk w b L) {t kt et : Nat} {z : Value} {s : ByteArray} (ok : Bool) (ht : P.underlying t = some (.map kt et)) (hk : P.underlying kt = some .string) (hz : ∀ w, (zeroValue et).run P w = .ok z w) :
  (Instr.lookup t (.map (some b)) (.string s) ok).run P w = .ok (if ok = true then .tuple #[(getE L s).getD z, .bool (getE L s).isSome] else (getE L s).getD z) w := by
 obtain ⟨es, clock, h1, h2, _⟩ := h
 have h3 := strKeys_es h2.1
 have hc : ∀ e, (Instr.checkKey e 10000 kt (.string s)).run P w = .ok () w := fun e => MapKept.run_checkKey (k := .string s) hk (by simp [MapKept.IsKey]) e 9999
 have hf := MapKept.run_findKey (P := P) (w := w) (kt := kt) (k := .string s) (l := es.toList) hk (findNow_str s es.toList 0 h3)
 have h4 := fnd_es s es.toList L 0 h2.1
 rw [← h4]
 simp only [Instr.lookup, Sem.run_bind, run_underlying ht, Result.andThen_ok, MapKept.run_getObj_map h1, Sem.run_pure]
 rw [hc, Result.andThen_ok, hf, Result.andThen_ok]
 cases hfn : fnd s es.toList 0 with
 | none => simp [hz]
 | some x => simp
theorem run_mue (h : MpeOk w b L) {t kt et : Nat} {s : ByteArray} {v : Value} (ht : P.underlying t = some (.map kt et)) (hk : P.underlying kt = some .string) (hn : getE L s = none) :
  ∃ w', (Instr.mapUpdate t (.map (some b)) (.string s) v).run P w = .ok () w' ∧ Keeps (fun k => k = b) w w' ∧ MpeOk w' b (L ++ [(s, v)]) := by
 obtain ⟨es, clock, h1, h2, hbn⟩ := h
 have h3 := strKeys_es h2.1
 have hc : (Instr.checkKey false 10000 kt (.string s)).run P w = .ok () w := MapKept.run_checkKey (k := .string s) hk (by simp [MapKept.IsKey]) false 9999
 have hf := MapKept.run_findKey (P := P) (w := w) (kt := kt) (k := .string s) (l := es.toList) hk (findNow_str s es.toList 0 h3)
 have hb : b < w.heap.size := (Array.getElem?_eq_some_iff.1 h1).1
 have hfn : fnd s es.toList 0 = none := by
  have := fnd_es s es.toList L 0 h2.1
  rw [hn] at this
  simpa using this
 refine ⟨{ w with heap := w.heap.setIfInBounds b (.map (es.push { key := .string s, val := v, born := clock }) (clock + 1)) }, ?_, ⟨rfl, rfl, rfl, by simp, fun k hk hn => by simp only; rw [Array.getElem?_setIfInBounds_ne (fun e => hn e.symm)]⟩, _, _, by simp only; rw [Array.getElem?_setIfInBounds_self_of_lt hb], ?_⟩
 ·simp only [Instr.mapUpdate, Sem.run_bind, run_underlying ht, Result.andThen_ok, MapKept.run_getObj_map h1, hc, hf, hfn, MapKept.run_setObj_map _ h1]
 ·rw [Array.toList_push]; exact ⟨h2.push s v clock hn, hbn.push _ _⟩
end
section
variable {P : Program} {Q : Exit → Act → World → Prop} {w w0 : World} {n : Nat} {l : List (Nat × Value)} {o : Oper} {rest : List Oper} {ops : Array Oper} {a : Act} {hs : List Res} {L : List (ByteArray × Value)}
theorem y_lke {t kt et b : Nat} {x ix : Operand} {s : ByteArray} {z : Value} (ho : o.op = .lookup t x ix false) (hx : evl l x = some (.map (some b))) (hi : evl l ix = some (.string s)) (M : MpeOk w b L)
  (ht : P.underlying t = some (.map kt et)) (hk : P.underlying kt = some .string) (hz : ∀ w, (zeroValue et).run P w = .ok z w) : Yl P o l w ((getE L s).getD z) w := fun n a F => by
 simp [execOp, ho, F.ev hx, F.ev hi, run_lke M false ht hk hz]
theorem y_lko {t kt et b : Nat} {x ix : Operand} {s : ByteArray} {z : Value} (ho : o.op = .lookup t x ix true) (hx : evl l x = some (.map (some b))) (hi : evl l ix = some (.string s)) (M : MpeOk w b L)
  (ht : P.underlying t = some (.map kt et)) (hk : P.underlying kt = some .string) (hz : ∀ w, (zeroValue et).run P w = .ok z w) : Yl P o l w (.tuple [(getE L s).getD z, .bool (getE L s).isSome].toArray) w := fun n a F => by
 simp [execOp, ho, F.ev hx, F.ev hi, run_lke M true ht hk hz]
theorem y_lnm {t kt et b : Nat} {x : Operand} (ho : o.op = .call { callee := .builtin .len, args := #[x], argTypes := #[t] }) (hx : evl l x = some (.map (some b))) (M : MpeOk w b L) (ht : P.underlying t = some (.map kt et)) : Yl P o l w (.int .i64 (L.length : Int)) w := fun n a F => by
 obtain ⟨es, clock, h1, h2, _⟩ := M
 have hl : es.size = L.length := by have := congrArg List.length h2.1; simpa using this
 have hg : (getObj b).run P w = .ok (.map es clock) w := MapKept.run_getObj_map h1
 simp [execOp, ho, F.ev hx, resolve, invoke, builtin, Builtin.len_, run_underlying ht, hg, hl, goInt]
theorem dmme (F : Fr n a l) (S : St w0 w hs) {t : Nat} (ho : o.op = .makeMap t none) (hg : o.guard = none) {d : Nat} (hd : o.dst = some d) (hn : Nat.blt d n = true)
  (k : ∀ a w' b, Fr n a ((d, .map (some b)) :: l) → St w0 w' (hs ++ [mpe b []]) → wpList P ops Q rest a w') : wpList P ops Q (o :: rest) a w := by
 refine dv (v := .map (some w.heap.size)) (w' := w.alloc (.map #[] 0)) F (fun n a F => ?_) hg hd hn fun a F => k a _ _ F ?_
 ·simp [execOp, ho, run_makeMap_plain]
 ·refine S.callAdd ((Below.refl _ _).alloc (Nat.le_refl _) _) _ ⟨#[], 0, ?_, ⟨rfl, List.nodup_nil⟩, bornNil⟩ fun k hk => ?_
  ·show (w.heap.push _)[w.heap.size]? = _
   simp
  ·have : k = w.heap.size := hk
   subst this
   show _ ∧ _ < (w.heap.push _).size
   simp
theorem dmue (F : Fr n a l) (S : St w0 w hs) {t kt et b : Nat} {x ix vx : Operand} {s : ByteArray} {v : Value} (ho : o.op = .mapUpdate t x ix vx) (hx : evl l x = some (.map (some b))) (hi : evl l ix = some (.string s)) (hv : evl l vx = some v)
  {i : Nat} (hr : nth hs i = some (mpe b L)) (ht : P.underlying t = some (.map kt et)) (hk : P.underlying kt = some .string) (hnew : getE L s = none) (hg : o.guard = none) (hd : o.dst = none)
  (k : ∀ a w', Fr n a l → St w0 w' (upd hs i (mpe b (L ++ [(s, v)]))) → wpList P ops Q rest a w') : wpList P ops Q (o :: rest) a w := by
 obtain ⟨w', h1, h2, h3⟩ := run_mue (P := P) (s := s) (v := v) (S.ok hr) ht hk hnew
 refine dk (w' := w') F (fun n a F => ?_) hg hd fun a F => k a w' F (S.turn hr h2 _ h3 fun j hj => ?_)
 ·simp [execOp, ho, F.ev hx, F.ev hi, F.ev hv, h1]
 ·have : j = b := hj
  subst this
  refine ⟨.inl rfl, ?_⟩
  obtain ⟨es, clock, h4, _⟩ := h3
  exact (Array.getElem?_eq_some_iff.1 h4).1
theorem c_fb {f : Operand} {args : List Operand} {ats : Array Nat} {g : Nat} {bd cap : List Value} {vs : List Value} (ho : o.op = .call { callee := .value f, args := args.toArray, argTypes := ats })
  (hf : evl l f = some (.func (.func g) bd.toArray cap.toArray)) (hx : evls l args = some vs) (he : ∀ (args : Array Value) (w : World), (callFunc g args).run P w = .ok (.enter g args) w) : Cl P o l w g (bd ++ vs ++ cap) := fun n a F => by
 simp [execOp, ho, resolve, F.ev hf, Deferred.ofValue, invoke, F.evs hx, he]
theorem y_mfb {fn : Fn} {bd cap : List Operand} {us vs : List Value} (ho : o.op = .makeFunc fn bd.toArray cap.toArray) (hb : evls l bd = some us) (hx : evls l cap = some vs) : Yl P o l w (.func fn us.toArray vs.toArray) w := fun n a F => by
 simp [execOp, ho, F.evs hx, F.evs hb, Instr.makeFunc]
theorem entM {f : FuncId} {fn : Func} {c : Code} {vs : List Value} {R : Ending → World → Prop} {m : Nat}
  (hf : P.funcs[f]? = some fn) (hn : fn.ntmps = m) (hb : fn.body = some c) (hm : Nat.ble vs.length m = true)
  (h : ∀ a, Fr m a (num 0 vs) → c.wp P (bodyPostM Fence.wide 6 P fn R) a w) : Calls P f vs.toArray w R := by
 subst hn
 exact callsIn_wide.1 (callsIn_of_wp_marks (n := 6) hf hb trivial (wpIn_wide.2 (h _ (Fr.start vs _ (by simpa using hm)))))
def mk1 (D : Nat) : List Deferred := [{ target := .collected D, args := #[] }]
def simpleOp : Op → Bool
 | .store .. => true
 | .load .. => true
 | .assign .. => true
 | .move .. => true
 | _ => false
theorem simple_nd {ρ : Operand → Value} {o : Oper} (h : simpleOp o.op = true) (w : World) : ∀ d w', (execOp ρ o).run P w ≠ .ok (.defer d) w' := by
  intro d w'
  cases ho : o.op <;> rw [ho] at h <;> first | (cases h) | skip
  all_goals
    simp only [execOp, ho, Sem.run_bind, Sem.run_pure]
    intro e
    first
      | (cases e)
      | (revert e
         generalize hm : Sem.run P _ w = r
         intro e
         cases r with
         | ok x w1 => cases e
         | halt s w1 => cases e)
theorem put_d (a : Act) (ds : List Deferred) (dst : Option Nat) (v : Value) : ({ a with defers := ds } : Act).put dst v = { a.put dst v with defers := ds } := by cases dst <;> rfl
theorem rgD {id : Nat} {l' : List Oper} {D : Nat} (hQ : ∀ a w, ¬ Q .outgrown a w) (hp : (l'.all fun o => simpleOp o.op) = true) (h : wpList P l'.toArray (fun e a' w' => Q e { a' with defers := mk1 D } w') l' a w) : (Code.region id l'.toArray false).wp P Q { a with defers := mk1 D } w := by
 refine wp_region_lit ?_
 have key : ∀ (l2 : List Oper) (a : Act) (w : World), (l2.all fun o => simpleOp o.op) = true → wpList P l'.toArray (fun e a' w' => Q e { a' with defers := mk1 D } w') l2 a w → wpList P l'.toArray Q l2 { a with defers := mk1 D } w := by
  intro l2
  induction l2 with
  | nil => intro a w _ h; exact h
  | cons o l2 ih =>
   intro a w hp h
   simp only [List.all_cons, Bool.and_eq_true] at hp
   simp only [wpList] at h ⊢
   split
   ·rename_i hw
    rw [if_pos hw] at h
    have h2 := h.resolve_right fun ⟨_, a, w, h⟩ => hQ _ w h
    refine .inl ?_
    revert h2
    unfold Oper.wp
    have hev : ({ a with defers := mk1 D } : Act).eval = a.eval := by funext x; cases x <;> rfl
    rw [hev]
    have hnd : ∀ d w', (execOp a.eval o).run P w ≠ .ok (.defer d) w' := by
     exact simple_nd hp.1 _
    generalize (execOp a.eval o).run P w = res at hnd
    intro h2
    cases res with
    | ok nx w' =>
     cases nx with
     | defer d => exact absurd rfl (hnd d w')
     | value v => rw [Oper.upon_value, put_d]; exact ih _ _ hp.2 h2
     | skip => rw [Oper.upon_skip, put_d]; exact ih _ _ hp.2 h2
     | enter f args =>
      refine Calls.mono h2 fun e w2 he => ?_
      cases e with
      | returned v => simp only; rw [put_d]; exact ih _ _ hp.2 he
      | panicked c => exact he
      | outgrown => obtain ⟨a, w, h⟩ := he; exact absurd h (hQ _ w)
     | row row args => exact Rows.mono h2 fun v w2 he => by rw [put_d]; exact ih _ _ hp.2 he
     | _ => exact h2.elim
    | halt s w' =>
     cases s with
     | panic v => exact h2
     | _ => exact h2.elim
   ·rename_i hw
    rw [if_neg hw] at h
    rw [put_d]; exact ih _ _ hp.2 h
 exact key l' a w hp h
end
end Go.Eng
namespace Go.Eng
open Go.RowKit
section
variable {P : Program} {Q : Exit → Act → World → Prop} {w w0 : World} {n m : Nat} {ro : Option Nat} {l : List (Nat × Value)} {o : Oper} {rest l' : List Oper} {ops : Array Oper} {a : Act} {hs : List Res}
theorem liftAt (k : Nat) (hQ : ∀ a w, ¬ Q .outgrown a w) (hp : ((l'.take k).all fun o => notDefer o.op) = true) (h : wpList P ops (Exit.then (fun a w => wpListIn (WF ro) m P ops Q (l'.drop k) a w) Q) (l'.take k) a w) : wpListIn (WF ro) m P ops Q l' a w := by
 have := liftPre (ro := ro) (m := m) hQ hp h
 rwa [List.take_append_drop] at this
theorem dy (F : Fr n a l) {f : Operand} {args : List Operand} {ats : Array Nat} {vs : List Value} {r : Nat} {R : Ending → World → Prop} (ho : o.op = .call { callee := .value f, args := args.toArray, argTypes := ats })
  (hf : evl l f = some (.func (.yield r) #[] #[])) (hx : evls l args = some vs) (hg : o.guard = none) {d : Nat} (hd : o.dst = some d) (hn : Nat.blt d n = true)
  (hy : YieldAt Fence.wide 4 P r vs.toArray w R) (hR : ∀ e w', R e w' → ∃ v, e = .returned v)
  (k : ∀ a' v w', R (.returned v) w' → Fr n a' ((d, v) :: l) → wpListIn (WF none) 5 P ops Q rest a' w') : wpListIn (WF none) 5 P ops Q (o :: rest) a w := by
 refine wpListIn_plain hg fun K hK => ⟨fun _ _ => trivial, ?_⟩
 obtain ⟨fn, tmps, assign, body, h1, h2⟩ := hy
 have he : (o.semAt (WF none).round a.eval).run P w = .ok (.round r fn tmps assign body) w := by
  show (execOp a.eval o).run P w = _
  simp [execOp, ho, resolve, F.ev hf, Deferred.ofValue, invoke, F.evs hx, h1]
 rw [he]
 refine ⟨fun h => by simp [Fence.wide] at h, RoundIn.mono h2 fun e w' hr => ?_⟩
 obtain ⟨v, rfl⟩ := hR e w' hr
 rw [hd]
 exact hK _ _ (k _ v w' hr (F.put hn v))
theorem cdI {c : Operand} {x y : Code} {p : Prop} [Decidable p] (F : Fr n a l) (hc : evl l c = some (.bool (decide p))) (ht : p → x.wpIn (WF ro) m P Q a w) (hf : ¬ p → y.wpIn (WF ro) m P Q a w) : (Code.cond c x y).wpIn (WF ro) m P Q a w :=
 wpIn_cond_split (F.ev hc) (fun h => ht (of_decide_eq_true h)) (fun h => hf (of_decide_eq_false h))
variable {fn : Func} {R : Ending → World → Prop} {F0 : Fence} {k : Nat}
theorem rtI0 (F : Fr n a l) (hr : fn.results = #[]) (h : R (.returned (.tuple #[])) w) : bodyPostM F0 k P fn R .ret a w := by
 show LeavesInM F0 k P fn a.tmps R a.defers .returning w
 rw [F.defers]
 exact ⟨_, results_none hr _ _ _, h⟩
theorem rnI0 (F : Fr n a l) (hr : fn.results = #[]) (h : R (.returned (.tuple #[])) w) : bodyPostM F0 k P fn R .normal a w := rtI0 F hr h
theorem rtI2 {t u : Nat} {v x : Value} (F : Fr n a l) (hr : fn.results = #[.tmp t, .tmp u]) (hv : look l t = some v) (hx : look l u = some x) (h : R (.returned (.tuple #[v, x])) w) : bodyPostM F0 k P fn R .ret a w := by
 show LeavesInM F0 k P fn a.tmps R a.defers .returning w
 rw [F.defers]
 exact ⟨_, results_tmp2 hr _ _ _, by simp only [Array.getD_eq_getD_getElem?, F.get t v hv, F.get u x hx]; exact h⟩
theorem rmAny {D : Nat} {e : Exit} {tmps : Array Value} (he : e = .ret ∨ e = .normal) (S : St w0 w (ob D (.deferred (some [])) :: hs))
  (h : ∀ w', St w0 w' (ob D (.deferred none) :: hs) → ∃ v, (results fn tmps).run P w' = .ok v w' ∧ R (.returned v) w') : bodyPostM F0 k P fn R e { tmps := tmps, defers := mk1 D } w := by
 have key : LeavesInM F0 k P fn tmps R (mk1 D) .returning w := ⟨by simp, .inl ⟨D, _, rfl, run_takeDeferred (S.ok (i := 0) rfl), h _ S.put0⟩⟩
 rcases he with rfl | rfl <;> exact key
theorem rm0 {D : Nat} {e : Exit} (F : Fr n a l) (he : e = .ret ∨ e = .normal) (S : St w0 w (ob D (.deferred (some [])) :: hs)) (hr : fn.results = #[]) (h : ∀ w', St w0 w' hs → R (.returned (.tuple #[])) w') : bodyPostM F0 k P fn R e { a with defers := mk1 D } w :=
 rmAny he S fun w' S' => ⟨_, results_none hr _ _ _, h w' S'.tail⟩
theorem rm2 {D t u : Nat} {v x : Value} {e : Exit} (F : Fr n a l) (he : e = .ret ∨ e = .normal) (S : St w0 w (ob D (.deferred (some [])) :: hs)) (hr : fn.results = #[.tmp t, .tmp u]) (hv : look l t = some v) (hx : look l u = some x) (h : ∀ w', St w0 w' hs → R (.returned (.tuple #[v, x])) w') : bodyPostM F0 k P fn R e { a with defers := mk1 D } w :=
 rmAny he S fun w' S' => ⟨_, results_tmp2 hr _ _ _, by simp only [Array.getD_eq_getD_getElem?, F.get t v hv, F.get u x hx]; exact h w' S'.tail⟩
theorem rmC {D t ty b : Nat} {v : Value} {e : Exit} (F : Fr n a l) (he : e = .ret ∨ e = .normal) (S : St w0 w (ob D (.deferred (some [])) :: hs)) (hr : fn.results = #[.cell t ty]) (hp : look l t = some (.pointer (some ⟨b, 0, none⟩))) (hl : ∀ w', St w0 w' hs → Ld P w' ty ⟨b, 0, none⟩ v) (h : ∀ w', St w0 w' hs → R (.returned v) w') : bodyPostM F0 k P fn R e { a with defers := mk1 D } w :=
 rmAny he S fun w' S' => by
  refine ⟨v, ?_, h w' S'.tail⟩
  have hl := hl w' S'.tail
  unfold Ld at hl
  simp [results, hr, Array.getD_eq_getD_getElem?, F.get t _ hp, asAddr, hl]
end
end Go.Eng
namespace Go.Eng
open Go.RowKit
theorem entI {P : Program} {f : FuncId} {fn : Func} {c : Code} {vs : List Value} {w : World} {R : Ending → World → Prop} {m : Nat}
  (hf : P.funcs[f]? = some fn) (hn : fn.ntmps = m) (hb : fn.body = some c) (hm : Nat.ble vs.length m = true)
  (h : ∀ a, Fr m a (num 0 vs) → c.wpIn (WF none) 5 P (bodyPostM Fence.wide 5 P fn R) a w) : CallsIn Fence.wide 5 P f vs.toArray w R := by
 subst hn
 exact callsIn_of_wp_marks (n := 5) hf hb trivial (h _ (Fr.start vs _ (by simpa using hm)))
end Go.Eng
namespace Go.Eng
def SepL (ys : List Res) : Prop := ∀ i j r s, nth ys i = some r → nth ys j = some s → i ≠ j → ∀ k, r.fp k → ¬ s.fp k
theorem St.packS {w0 w : World} {xs ys : List Res} (S : St w0 w (xs ++ ys)) : St w0 w (xs ++ [pk ys]) ∧ SepL ys :=
 ⟨S.packL, fun i j r s h h' hne => S.sep (xs.length + i) (xs.length + j) r s (by rw [nth_append_ge (by omega), Nat.add_sub_cancel_left]; exact h) (by rw [nth_append_ge (by omega), Nat.add_sub_cancel_left]; exact h') (by omega)⟩
theorem St.unpS {w0 w : World} {xs ys : List Res} (S : St w0 w (xs ++ [pk ys])) (hS : SepL ys) : St w0 w (xs ++ ys) := by
 have hp : nth (xs ++ [pk ys]) xs.length = some (pk ys) := by rw [nth_append_ge (Nat.le_refl _), Nat.sub_self]; rfl
 have hP := S.own _ _ hp
 have hx : ∀ i r, nth xs i = some r → nth (xs ++ [pk ys]) i = some r := fun i r h => by rw [nth_append_lt (nth_lt h)]; exact h
 have at0 : ∀ i r, nth (xs ++ ys) i = some r → (nth xs i = some r ∧ i < xs.length) ∨ (xs.length ≤ i ∧ nth ys (i - xs.length) = some r) := fun i r h => by
  by_cases hi : i < xs.length
  ·rw [nth_append_lt hi] at h; exact .inl ⟨h, hi⟩
  ·rw [nth_append_ge (by omega)] at h; exact .inr ⟨by omega, h⟩
 refine ⟨S.bel, fun i r h => ?_, fun i j r s h h' hne k hk hs' => ?_⟩
 ·rcases at0 i r h with ⟨h, _⟩ | ⟨_, h⟩
  ·exact S.own _ _ (hx i r h)
  ·exact ⟨hP.1 _ r h, fun k hk => hP.2 k ⟨_, r, h, hk⟩⟩
 ·rcases at0 i r h with ⟨h, hi⟩ | ⟨hi, h⟩ <;> rcases at0 j s h' with ⟨h', hj⟩ | ⟨hj, h'⟩
  ·exact S.sep i j r s (hx i r h) (hx j s h') hne k hk hs'
  ·exact S.sep i _ r _ (hx i r h) hp (by omega) k hk ⟨_, s, h', hs'⟩
  ·exact S.sep _ j _ s hp (hx j s h') (by omega) k ⟨_, r, h, hk⟩ hs'
  ·exact hS _ _ r s h h' (by omega) k hk hs'
end Go.Eng
namespace Go.Proofs.YtgcmddaibnimjaaGreatDoor
open Go.RowKit Go.Eng
def slB : ByteArray := ⟨#[47]⟩
def parts (s : ByteArray) : List ByteArray := splitOn slB s
def rest (s : ByteArray) : Nat → ByteArray
 | 0 => s
 | i + 1 => (rest s i).extract ((Lib.indexB (rest s i) slB).toNat + slB.size) (rest s i).size
theorem parts_hit {s : ByteArray} {i j : Nat} (hi : i ≤ Lib.countB s slB) (hc : Lib.countB (rest s i) slB = Lib.countB s slB - i) (hp : Lib.splitB slB 0 (Lib.countB s slB - i) (rest s i) = (parts s).drop i) (hz : (rest s i).size ≤ 1000000)
  (hj : Lib.indexB (rest s i) slB = j) (hroom : j + slB.size ≤ (rest s i).size) :
  i < (parts s).length ∧ [Value.string ((parts s).getD i ⟨#[]⟩)] = [.string ((rest s i).extract 0 j)] ∧ Lib.countB (rest s (i + 1)) slB = Lib.countB s slB - (i + 1) ∧ Lib.splitB slB 0 (Lib.countB s slB - (i + 1)) (rest s (i + 1)) = (parts s).drop (i + 1) ∧ (rest s (i + 1)).size ≤ 1000000 ∧ i + 1 ≤ Lib.countB s slB ∧ rest s (i + 1) = (rest s i).extract (j + 1) (rest s i).size := by
 have h1 := Lib.countB_hit (rest s i) slB j (by decide) hj
 have hr : rest s (i + 1) = (rest s i).extract (j + slB.size) (rest s i).size := by rw [rest, hj]; rfl
 rw [← hr] at h1
 have hk : Lib.countB s slB - i = (Lib.countB s slB - (i + 1)) + 1 := by omega
 rw [hk, Lib.splitB_hit slB 0 _ _ j hj, ← hr] at hp
 have hlen : (parts s).length = Lib.countB s slB + 1 := Lib.splitB_all slB (by decide) 0 _ s rfl
 have hlt : i < (parts s).length := by omega
 rw [List.drop_eq_getElem_cons hlt] at hp
 injection hp with hp1 hp2
 refine ⟨hlt, ?_, by omega, hp2, ?_, by omega, hr⟩
 ·rw [List.getD_eq_getElem?_getD, List.getElem?_eq_getElem hlt, Option.getD_some, ← hp1, Nat.add_zero]
 ·rw [hr, ByteArray.size_extract]; omega
theorem parts_end {s : ByteArray} {i : Nat} (hi : i ≤ Lib.countB s slB) (hc : Lib.countB (rest s i) slB = Lib.countB s slB - i) (hp : Lib.splitB slB 0 (Lib.countB s slB - i) (rest s i) = (parts s).drop i)
  (hj : Lib.indexB (rest s i) slB = -1) : i < (parts s).length ∧ [Value.string ((parts s).getD i ⟨#[]⟩)] = [.string (rest s i)] ∧ (parts s).length = i + 1 := by
 rw [Lib.splitB_miss slB 0 _ _ hj] at hp
 rw [Lib.countB_miss _ _ hj] at hc
 have hlen : (parts s).length = Lib.countB s slB + 1 := Lib.splitB_all slB (by decide) 0 _ s rfl
 have hlt : i < (parts s).length := by omega
 rw [List.drop_eq_getElem_cons hlt] at hp
 injection hp with hp1 hp2
 exact ⟨hlt, by rw [List.getD_eq_getElem?_getD, List.getElem?_eq_getElem hlt, Option.getD_some, ← hp1], by omega⟩
theorem c_splitSeq {w0 W0 : World} {mr : Res} (s sep : ByteArray) (S : St w0 W0 [mr]) : Calls Tryz.prog 216 [.string s, .string sep, .int .i64 0].toArray W0 (Ret fun v W' => ∃ b3 b4 b5, v = .func (.func 247) #[] [Value.pointer (some ⟨b4, 0, none⟩), .pointer (some ⟨b3, 0, none⟩), .pointer (some ⟨b5, 0, none⟩)].toArray ∧ St w0 W' [bk b3 9 [.string s], bk b4 9 [.string sep], bk b5 3 [.int .i64 0], mr]) := by
 refine ent Tryz.func216 Tryz.ntmps216 rfl rfl ?_
 intro a F
 refine sq fun K1 hK1 => ?_
 refine rg ?_
 refine dbx F S rfl rfl rfl rfl rfl rfl fun a w b3 F S => ?_
 refine dbx F S rfl rfl rfl rfl rfl rfl fun a w b4 F S => ?_
 refine dbx F S rfl rfl rfl rfl rfl rfl fun a w b5 F S => ?_
 refine dv F (y_as rfl rfl) rfl rfl rfl fun a F => ?_
 refine dn ?_
 refine tn <| hK1 _ _ ?_
 refine sq fun K2 hK2 => ?_
 refine rg ?_
 refine dv F (y_mf rfl rfl) rfl rfl rfl fun a F => ?_
 refine dv F (y_as rfl rfl) rfl rfl rfl fun a F => ?_
 refine dn ?_
 refine tn <| hK2 _ _ ?_
 refine wp_ret ?_
 refine ?_
 exact rt1 F rfl rfl ⟨_, _, _, rfl, S.pick [1, 2, 3, 0] _ ⟨rfl, rfl, rfl, rfl, trivial⟩ rfl⟩
theorem c_SplitSeq {w0 W0 : World} {mr : Res} (s sep : ByteArray) (S : St w0 W0 [mr]) : Calls Tryz.prog 181 [.string s, .string sep].toArray W0 (Ret fun v W' => ∃ b3 b4 b5, v = .func (.func 247) #[] [Value.pointer (some ⟨b4, 0, none⟩), .pointer (some ⟨b3, 0, none⟩), .pointer (some ⟨b5, 0, none⟩)].toArray ∧ St w0 W' [bk b3 9 [.string s], bk b4 9 [.string sep], bk b5 3 [.int .i64 0], mr]) := by
 refine ent Tryz.func181 Tryz.ntmps181 rfl rfl ?_
 intro a F
 refine sq fun K1 hK1 => ?_
 refine rg ?_
 refine dv F (y_as rfl rfl) rfl rfl rfl fun a F => ?_
 refine dn ?_
 refine tn <| hK1 _ _ ?_
 refine sq fun K2 hK2 => ?_
 refine rg ?_
 refine dv F (y_mv rfl rfl) rfl rfl rfl fun a F => ?_
 refine dv F (y_mv rfl rfl) rfl rfl rfl fun a F => ?_
 refine dc F (c_f rfl rfl rfl Tryz.call216) rfl rfl rfl (c_splitSeq s sep S) fun a v w' hr F => ?_
 obtain ⟨b3, b4, b5, rfl, S2⟩ := hr
 replace S := S2
 refine dv F (y_as rfl rfl) rfl rfl rfl fun a F => ?_
 refine dn ?_
 refine tn <| hK2 _ _ ?_
 refine wp_ret ?_
 refine ?_
 exact rt1 F rfl rfl ⟨_, _, _, rfl, S⟩
theorem c_splitIt {w0 : World} (s : ByteArray) (hs : s.size ≤ 1000000) (G : Gl w0) (b3 b4 b5 : Nat) (B : Nat → Res → Prop) : IterC Tryz.prog w0 247 [.pointer (some ⟨b4, 0, none⟩), .pointer (some ⟨b3, 0, none⟩), .pointer (some ⟨b5, 0, none⟩)] (parts s).length (fun i => [.string ((parts s).getD i ⟨#[]⟩)]) (fun i hs => ∃ mr, B i mr ∧ hs = [bk b3 9 [.string (rest s i)], bk b4 9 [.string slB], bk b5 3 [.int .i64 0], mr]) (fun i hs => ∃ mr, B i mr ∧ hs = [bk b3 9 [.string (rest s (i - 1))], bk b4 9 [.string slB], bk b5 3 [.int .i64 0], mr]) (fun hs => ∃ mr z, B (parts s).length mr ∧ hs = [bk b3 9 [.string z], bk b4 9 [.string slB], bk b5 3 [.int .i64 0], mr]) := by
 intro r x y Jx W1 hs0 hy h0 S0
 obtain ⟨mr, hB, rfl⟩ := h0
 refine entI Tryz.func247 Tryz.ntmps247 rfl rfl ?_
 intro a F
 have S := S0
 refine sqI fun K1 hK1 => ?_
 refine sqI fun K2 hK2 => ?_
 refine rgI (fun _ _ h => by obtain ⟨⟨_, h⟩, _⟩ := h; cases h) rfl ?_
 refine dv F (y_ld rfl rfl (S.ld (i := 3) rfl rfl Tryz.isAgg9)) rfl rfl rfl fun a F => ?_
 refine dv F (y_ls rfl rfl Tryz.underlying9) rfl rfl rfl fun a F => ?_
 refine dv F (y_ie rfl rfl rfl) rfl rfl rfl fun a F => ?_
 refine dn ?_
 refine tn <| hK2 _ _ ?_
 refine cfI F rfl (by decide) ?_
 refine wpIn_skip ?_
 refine tn <| hK1 _ _ ?_
 refine sqI fun K3 hK3 => ?_
 refine blI ?_
 refine wpIn_loop_ghost (fun m a w => ∃ (i : Nat) (mr : Res), m = Lib.countB s slB - i ∧ (i ≤ Lib.countB s slB) ∧ (B i mr) ∧ (Lib.countB (rest s i) slB = Lib.countB s slB - i) ∧ (Lib.splitB slB 0 (Lib.countB s slB - i) (rest s i) = (parts s).drop i) ∧ ((rest s i).size ≤ 1000000) ∧ Fr 52 a [(0, .func (.yield r) #[] #[]), (1, .pointer (some ⟨b4, 0, none⟩)), (2, .pointer (some ⟨b3, 0, none⟩)), (3, .pointer (some ⟨b5, 0, none⟩))] ∧ St w0 w [x, y, bk b3 9 [.string (rest s i)], bk b4 9 [.string slB], bk b5 3 [.int .i64 0], mr]) (Lib.countB s slB) ?_ ?_
 ·exact ⟨0, mr, rfl, Nat.zero_le _, hB, rfl, rfl, hs, F.sub _ ⟨rfl, rfl, rfl, rfl, trivial⟩, S.pick [0, 1, 2, 3, 4, 5] _ ⟨rfl, rfl, rfl, rfl, rfl, rfl, trivial⟩ rfl⟩
 ·rintro m a w ⟨i, mr, hm, hi, hB, hc, hp, hz, F, S⟩
  refine blI ?_
  refine sqI fun K4 hK4 => ?_
  obtain ⟨mm, hmm⟩ := (G.st S).ml
  have hix := Lib.indexB_cases (rest s i) slB
  refine rgI (fun _ _ h => by obtain ⟨⟨_, h⟩, _⟩ := h; cases h) rfl ?_
  refine dv F (y_ld rfl rfl (S.ld (i := 2) rfl rfl Tryz.isAgg9)) rfl rfl rfl fun a F => ?_
  refine dv F (y_ld rfl rfl (S.ld (i := 3) rfl rfl Tryz.isAgg9)) rfl rfl rfl fun a F => ?_
  refine dc F (c_f rfl rfl rfl Tryz.call154) rfl rfl rfl (shelf (Tryz.strings_Index _ _ mm _ (by omega) hmm)) fun a v w' hr F => ?_
  obtain ⟨rfl, hb⟩ := hr
  replace S := S.call hb
  refine dv F (y_as rfl rfl) rfl rfl rfl fun a F => ?_
  refine dn ?_
  refine tn <| hK4 _ _ ?_
  refine sqI fun K5 hK5 => ?_
  refine sqI fun K6 hK6 => ?_
  refine rgI (fun _ _ h => by obtain ⟨⟨_, h⟩, _⟩ := h; cases h) rfl ?_
  refine dv F (y_mv rfl rfl) rfl rfl rfl fun a F => ?_
  refine dv F (y_lt rfl rfl rfl) rfl rfl rfl fun a F => ?_
  refine dn ?_
  refine tn <| hK6 _ _ ?_
  refine cdI F rfl (fun h1 => ?_) (fun h1 => ?_)
  ·refine wpIn_exit ?_
   refine tx <| bm rfl <| lx <| bh <| tn <| hK3 _ _ ?_
   obtain ⟨hlt, hpi, hN⟩ := parts_end hi hc hp (hix.resolve_right fun ⟨j, hj, _⟩ => by have hj' : Lib.index (rest s i).data.toList slB.data.toList = (j : Int) := hj; omega)
   refine wpIn_region_lit ?_
   refine liftAt 2 (fun _ _ h => by obtain ⟨⟨_, h⟩, _⟩ := h; cases h) rfl ?_
   refine dv F (y_mv rfl rfl) rfl rfl rfl fun a F => ?_
   refine dv F (y_ld rfl rfl (S.ld (i := 2) rfl rfl Tryz.isAgg9)) rfl rfl rfl fun a F => ?_
   refine dn ?_
   refine tn ?_
   refine dy F rfl rfl rfl rfl rfl rfl ((by have := hy i _ _ hlt ⟨mr, hB, rfl⟩ S; dsimp only at this; rw [hpi] at this; exact this)) (fun e w' h => by rcases h with ⟨h, _⟩ | ⟨h, _⟩ <;> exact ⟨_, h⟩) fun a v w hr F => ?_
   rcases hr with ⟨hv, ⟨_, ⟨mr, hB, rfl⟩, S⟩⟩ | ⟨hv, hJ⟩
   ·injection hv with hv
    subst hv
    refine liftList (fun _ _ h => by obtain ⟨⟨_, h⟩, _⟩ := h; cases h) rfl ?_
    refine dn ?_
    refine ?_
    exact rnI0 F rfl ⟨⟨_, rfl⟩, .inl ⟨_, ⟨mr, _, by rw [hN]; exact hB, rfl⟩, S⟩⟩
   ·injection hv with hv
    subst hv
    refine liftList (fun _ _ h => by obtain ⟨⟨_, h⟩, _⟩ := h; cases h) rfl ?_
    refine dn ?_
    refine ?_
    exact rnI0 F rfl ⟨⟨_, rfl⟩, .inr hJ⟩
  ·refine wpIn_skip ?_
   refine tn <| hK5 _ _ ?_
   refine sqI fun K7 hK7 => ?_
   obtain ⟨j, hj, hroom⟩ : ∃ j : Nat, Lib.indexB (rest s i) slB = j ∧ j + slB.size ≤ (rest s i).size := by
    rcases hix with h | h
    ·exact absurd h (fun e => h1 (by show Lib.indexB (rest s i) slB < 0; omega))
    ·exact h
   have hj' : Lib.index (rest s i).data.toList slB.data.toList = (j : Int) := hj
   have hsl : slB.size = 1 := rfl
   refine rgI (fun _ _ h => by obtain ⟨⟨_, h⟩, _⟩ := h; cases h) rfl ?_
   refine dv F (y_ld rfl rfl (S.ld (i := 2) rfl rfl Tryz.isAgg9)) rfl rfl rfl fun a F => ?_
   refine dv F (y_mv rfl rfl) rfl rfl rfl fun a F => ?_
   refine dv F (y_ld rfl rfl (S.ld (i := 4) rfl rfl Tryz.isAgg3)) rfl rfl rfl fun a F => ?_
   refine dv F (y_add rfl rfl rfl (by omega)) rfl rfl rfl fun a F => ?_
   refine dv F (y_slt' rfl rfl rfl Tryz.underlying9 j (by omega) (by omega)) rfl rfl rfl fun a F => ?_
   refine dv F (y_as rfl rfl) rfl rfl rfl fun a F => ?_
   refine dn ?_
   refine tn <| hK7 _ _ ?_
   refine sqI fun K8 hK8 => ?_
   refine sqI fun K9 hK9 => ?_
   refine wpIn_region_lit ?_
   refine liftAt 2 (fun _ _ h => by obtain ⟨⟨_, h⟩, _⟩ := h; cases h) rfl ?_
   refine dv F (y_mv rfl rfl) rfl rfl rfl fun a F => ?_
   refine dv F (y_mv rfl rfl) rfl rfl rfl fun a F => ?_
   refine dn ?_
   refine tn ?_
   obtain ⟨hlt, hpi, hc2, hp2, hz2, hi2, hre⟩ := parts_hit hi hc hp hz hj hroom
   refine dy F rfl rfl rfl rfl rfl rfl ((by have := hy i _ _ hlt ⟨mr, hB, rfl⟩ S; dsimp only at this; rw [hpi] at this; exact this)) (fun e w' h => by rcases h with ⟨h, _⟩ | ⟨h, _⟩ <;> exact ⟨_, h⟩) fun a v w hr F => ?_
   rcases hr with ⟨hv, ⟨_, ⟨mr, hB, rfl⟩, S⟩⟩ | ⟨hv, hJ⟩
   ·injection hv with hv
    subst hv
    replace S : St w0 w [x, y, bk b3 9 [.string (rest s i)], bk b4 9 [.string slB], bk b5 3 [.int .i64 0], mr] := S
    refine liftList (fun _ _ h => by obtain ⟨⟨_, h⟩, _⟩ := h; cases h) rfl ?_
    refine dv F (y_nt rfl rfl) rfl rfl rfl fun a F => ?_
    refine dn ?_
    refine tn <| hK9 _ _ ?_
    refine cfI F rfl (congrArg not rfl) ?_
    refine wpIn_skip ?_
    refine tn <| hK8 _ _ ?_
    refine rgI (fun _ _ h => by obtain ⟨⟨_, h⟩, _⟩ := h; cases h) rfl ?_
    refine dv F (y_ld rfl rfl (S.ld (i := 2) rfl rfl Tryz.isAgg9)) rfl rfl rfl fun a F => ?_
    refine dv F (y_mv rfl rfl) rfl rfl rfl fun a F => ?_
    refine dv F (y_ld rfl rfl (S.ld (i := 3) rfl rfl Tryz.isAgg9)) rfl rfl rfl fun a F => ?_
    refine dv F (y_ls rfl rfl Tryz.underlying9) rfl rfl rfl fun a F => ?_
    refine dv F (y_add rfl rfl rfl (by omega)) rfl rfl rfl fun a F => ?_
    refine dv F (y_slf rfl rfl rfl Tryz.underlying9 (j + 1) (by omega) (by omega)) rfl rfl rfl fun a F => ?_
    refine dsw F S rfl rfl rfl Tryz.sizeOf9 (i := 2) rfl rfl rfl rfl one1 rfl rfl fun a w F S => ?_
    refine dn ?_
    replace S : St w0 w [x, y, bk b3 9 [.string (rest s (i + 1))], bk b4 9 [.string slB], bk b5 3 [.int .i64 0], mr] := by rw [hre]; exact S
    exact bn <| ln (by omega) ⟨i + 1, mr, rfl, hi2, hB, hc2, hp2, hz2, F.sub _ ⟨rfl, rfl, rfl, rfl, trivial⟩, S.pick [0, 1, 2, 3, 4, 5] _ ⟨rfl, rfl, rfl, rfl, rfl, rfl, trivial⟩ rfl⟩
   ·injection hv with hv
    subst hv
    refine liftList (fun _ _ h => by obtain ⟨⟨_, h⟩, _⟩ := h; cases h) rfl ?_
    refine dv F (y_nt rfl rfl) rfl rfl rfl fun a F => ?_
    refine dn ?_
    refine tn <| hK9 _ _ ?_
    refine ctI F rfl (congrArg not rfl) ?_
    refine wpIn_ret ?_
    refine tr <| br <| lr <| br <| tr <| ?_
    exact rtI0 F rfl ⟨⟨_, rfl⟩, .inr hJ⟩
end Go.Proofs.YtgcmddaibnimjaaGreatDoor
namespace Go.Proofs.YtgcmddaibnimjaaGreatDoor
open Go.RowKit Go.Eng
def pMay (s : ByteArray) : Bool := decide ((parts s).length ≤ 16) && (parts s).all ppart
theorem allnext {i : Nat} {p : Nat → Prop} (h : ∀ j, j < i → p j) (hi : p i) : ∀ j, j < i + 1 → p j := fun j hj => by
 rcases Nat.lt_or_ge j i with h1 | h1
 ·exact h j h1
 ·obtain rfl : j = i := by omega
  exact hi
theorem pMay_yes {s : ByteArray} (h : (parts s).length ≤ 16) (hall : ∀ j, j < (parts s).length → ppart ((parts s).getD j ⟨#[]⟩) = true) : pMay s = true := by
 simp only [pMay, Bool.and_eq_true, decide_eq_true_eq, List.all_eq_true]
 refine ⟨h, fun x hx => ?_⟩
 obtain ⟨j, hj, rfl⟩ := List.getElem_of_mem hx
 have := hall j hj
 rwa [List.getD_eq_getElem?_getD, List.getElem?_eq_getElem hj] at this
theorem pMay_no {s : ByteArray} {i : Nat} (hi : i < (parts s).length) (h : 16 < i + 1 ∨ ppart ((parts s).getD i ⟨#[]⟩) = false) : pMay s = false := by
 simp only [pMay, Bool.and_eq_false_iff, decide_eq_false_iff_not, List.all_eq_false]
 rcases h with h | h
 ·exact .inl (by omega)
 ·refine .inr ⟨_, List.getElem_mem hi, ?_⟩
  rw [List.getD_eq_getElem?_getD, List.getElem?_eq_getElem hi] at h
  simpa using h
theorem c_May (s : ByteArray) (w0 : World) (G : Gl w0) (hs : s.size ≤ 1000000) : Calls Tryz.prog 142 [.string s].toArray w0 (Ret fun v w' => v = .bool (pMay s) ∧ Below w0.heap.size w0 w') := by
 refine entM Tryz.func142 Tryz.ntmps142 rfl rfl ?_
 intro a F
 have S := St.refl w0
 refine sq fun K1 hK1 => ?_
 refine rg ?_
 refine dal F S rfl Tryz.zeroValue4 rfl rfl rfl rfl fun a w b2 F S => ?_
 refine dn ?_
 refine tn <| hK1 _ _ ?_
 refine sq fun K2 hK2 => ?_
 refine rg ?_
 refine dal F S rfl Tryz.zeroValue3 rfl rfl rfl rfl fun a w b3 F S => ?_
 refine dsw F S rfl rfl rfl Tryz.sizeOf3 (i := 1) rfl rfl rfl rfl one1 rfl rfl fun a w F S => ?_
 refine dn ?_
 refine tn <| hK2 _ _ ?_
 refine sq fun K3 hK3 => ?_
 refine sq fun K4 hK4 => ?_
 have S0 := S
 refine rg ?_
 refine dv F (y_mv rfl rfl) rfl rfl rfl fun a F => ?_
 refine dc F (c_f rfl rfl rfl Tryz.call181) rfl rfl rfl (c_SplitSeq s slB (St.packL (xs := []) S)) fun a v w' hr F => ?_
 obtain ⟨c3, c4, c5, rfl, S2⟩ := hr
 replace S := S2
 obtain ⟨S1, hSep0⟩ := St.packS (xs := []) S0
 refine dn ?_
 refine tn <| hK4 _ _ ?_
 refine bl ?_
 refine rf F S rfl Tryz.call247 rfl (parts s).length (fun i => [.string ((parts s).getD i ⟨#[]⟩)]) (fun _ => rfl) (fun i hs => ∃ mr, (fun (i : Nat) (mr : Res) => mr = pk [bk b2 4 [.bool false], bk b3 3 [.int .i64 (i : Int)]] ∧ SepL [bk b2 4 [.bool false], bk b3 3 [.int .i64 (i : Int)]] ∧ i ≤ 16 ∧ (parts s).length ≤ (parts s).length ∧ ∀ j : Nat, j < i → ppart ((parts s).getD j ⟨#[]⟩) = true) i mr ∧ hs = [bk c3 9 [.string (rest s i)], bk c4 9 [.string slB], bk c5 3 [.int .i64 0], mr]) (fun i hs => ∃ mr, (fun (i : Nat) (mr : Res) => mr = pk [bk b2 4 [.bool false], bk b3 3 [.int .i64 (i : Int)]] ∧ SepL [bk b2 4 [.bool false], bk b3 3 [.int .i64 (i : Int)]] ∧ i ≤ 16 ∧ (parts s).length ≤ (parts s).length ∧ ∀ j : Nat, j < i → ppart ((parts s).getD j ⟨#[]⟩) = true) i mr ∧ hs = [bk c3 9 [.string (rest s (i - 1))], bk c4 9 [.string slB], bk c5 3 [.int .i64 0], mr]) (fun hs => ∃ mr z, (fun (i : Nat) (mr : Res) => mr = pk [bk b2 4 [.bool false], bk b3 3 [.int .i64 (i : Int)]] ∧ SepL [bk b2 4 [.bool false], bk b3 3 [.int .i64 (i : Int)]] ∧ i ≤ 16 ∧ (parts s).length ≤ (parts s).length ∧ ∀ j : Nat, j < i → ppart ((parts s).getD j ⟨#[]⟩) = true) (parts s).length mr ∧ hs = [bk c3 9 [.string z], bk c4 9 [.string slB], bk c5 3 [.int .i64 0], mr]) (fun c hs => c = .ret ∧ pMay s = false ∧ ∃ z n m, SepL [bk b2 4 [.bool false], bk b3 3 [.int .i64 n]] ∧ hs = [bk c3 9 [.string z], bk c4 9 [.string slB], bk c5 3 m, pk [bk b2 4 [.bool false], bk b3 3 [.int .i64 n]]]) ⟨_, ⟨rfl, hSep0, Nat.zero_le _, Nat.le_refl _, fun j hj => absurd hj (Nat.not_lt_zero j)⟩, rfl⟩ (c_splitIt s hs G c3 c4 c5 _) (fun i hs a => Fr 17 a [(0, .string s), (2, .pointer (some ⟨b2, 0, none⟩)), (3, .pointer (some ⟨b3, 0, none⟩)), (4, .string ((parts s).getD i ⟨#[]⟩))] ∧ ∃ mr, (fun (i : Nat) (mr : Res) => mr = pk [bk b2 4 [.bool false], bk b3 3 [.int .i64 (i : Int)]] ∧ SepL [bk b2 4 [.bool false], bk b3 3 [.int .i64 (i : Int)]] ∧ i ≤ 16 ∧ (parts s).length ≤ (parts s).length ∧ ∀ j : Nat, j < i → ppart ((parts s).getD j ⟨#[]⟩) = true) i mr ∧ hs = [bk c3 9 [.string (rest s i)], bk c4 9 [.string slB], bk c5 3 [.int .i64 0], mr]) ?_ ?_ ?_ ?_
 ·intro r i hs x y a W hi hI F S
  refine rgI (fun _ _ h => h) rfl ?_
  refine dv F (y_as rfl rfl) rfl rfl rfl fun a F => ?_
  refine dn ?_
  refine tn <| ?_
  exact ⟨hs, ⟨F.sub _ ⟨rfl, rfl, rfl, rfl, trivial⟩, hI⟩, S⟩
 ·intro r i hs x y a W hi hA S
  obtain ⟨F, mr, ⟨rfl, hSep, hi16, _, hall⟩, rfl⟩ := hA
  replace S := St.unpS (xs := [x, y, _, _, _]) S hSep
  refine blI ?_
  refine sqI fun K5 hK5 => ?_
  refine rgI (fun _ _ h => h) rfl ?_
  refine dv F (y_ld rfl rfl (S.ld (i := 6) rfl rfl Tryz.isAgg3)) rfl rfl rfl fun a F => ?_
  refine dv F (y_add rfl rfl rfl (by omega)) rfl rfl rfl fun a F => ?_
  refine dsw F S rfl rfl rfl Tryz.sizeOf3 (i := 6) rfl rfl rfl rfl one1 rfl rfl fun a w F S => ?_
  refine dn ?_
  refine tn <| hK5 _ _ ?_
  refine sqI fun K6 hK6 => ?_
  refine rgI (fun _ _ h => h) rfl ?_
  refine dv F (y_ld rfl rfl (S.ld (i := 6) rfl rfl Tryz.isAgg3)) rfl rfl rfl fun a F => ?_
  refine dv F (y_gt rfl rfl rfl) rfl rfl rfl fun a F => ?_
  refine dv F (y_mv rfl rfl) rfl rfl rfl fun a F => ?_
  refine gsp F 12 rfl (fun h1 => ?_) (fun h1 => ?_)
  ·have g1 := h1
   try simp only [zi1, zi2, zi3, zi4, zi5, zi6, zi7, zi8] at g1
   refine gs F rfl rfl rfl h1 rfl rfl fun a F => ?_
   refine gs F rfl rfl rfl h1 rfl rfl fun a F => ?_
   refine gs F rfl rfl rfl h1 rfl rfl fun a F => ?_
   refine dv F (y_pkt h1 rfl rfl rfl) rfl rfl rfl fun a F => ?_
   refine dn ?_
   refine tn <| hK6 _ _ ?_
   refine ctI F rfl rfl ?_
   refine sqI fun K7 hK7 => ?_
   refine rgI (fun _ _ h => h) rfl ?_
   refine dsw F S rfl rfl rfl Tryz.sizeOf4 (i := 5) rfl rfl rfl rfl one1 rfl rfl fun a w F S => ?_
   refine dn ?_
   refine tn <| hK7 _ _ ?_
   refine wpIn_ret ?_
   refine br <| ?_
   obtain ⟨S, hSep⟩ := St.packS (xs := [x, y, _, _, _]) S
   exact ⟨_, ⟨rfl, pMay_no hi (by first | exact .inl (by omega) | exact .inr (by simpa using g2)), _, _, _, hSep, rfl⟩, S⟩
  ·have g1 := h1
   try simp only [zi1, zi2, zi3, zi4, zi5, zi6, zi7, zi8] at g1
   refine gv F rfl rfl rfl h1 (y_mv rfl rfl) rfl rfl fun a F => ?_
   refine gc F rfl rfl rfl h1 (c_f rfl rfl rfl Tryz.call182) rfl rfl (c_ppart _ _) fun a v w' hr F => ?_
   obtain ⟨rfl, hb⟩ := hr
   replace S := S.call hb
   refine gv F rfl rfl rfl h1 (y_nt rfl rfl) rfl rfl fun a F => ?_
   refine dv F (y_pkf h1 rfl rfl rfl) rfl rfl rfl fun a F => ?_
   refine dn ?_
   refine tn <| hK6 _ _ ?_
   refine cbI F rfl (fun h2 => ?_) (fun h2 => ?_)
   ·have g2 := h2
    try simp only [zi1, zi2, zi3, zi4, zi5, zi6, zi7, zi8] at g2
    refine sqI fun K8 hK8 => ?_
    refine rgI (fun _ _ h => h) rfl ?_
    refine dsw F S rfl rfl rfl Tryz.sizeOf4 (i := 5) rfl rfl rfl rfl one1 rfl rfl fun a w F S => ?_
    refine dn ?_
    refine tn <| hK8 _ _ ?_
    refine wpIn_ret ?_
    refine br <| ?_
    obtain ⟨S, hSep⟩ := St.packS (xs := [x, y, _, _, _]) S
    exact ⟨_, ⟨rfl, pMay_no hi (by first | exact .inl (by omega) | exact .inr (by simpa using g2)), _, _, _, hSep, rfl⟩, S⟩
   ·have g2 := h2
    try simp only [zi1, zi2, zi3, zi4, zi5, zi6, zi7, zi8] at g2
    refine wpIn_skip ?_
    refine bn <| ?_
    rw [show (i : Int) + 1 = ((i + 1 : Nat) : Int) by omega] at S
    obtain ⟨S, hSep⟩ := St.packS (xs := [x, y, _, _, _]) S
    exact ⟨_, ⟨_, ⟨rfl, hSep, by omega, Nat.le_refl _, fun j hj => allnext hall (by simpa using g2) j hj⟩, rfl⟩, S⟩
 ·intro D hs W hE S
  obtain ⟨mr, z, ⟨rfl, hSep, hN, _, hall⟩, rfl⟩ := hE
  replace S := St.unpS (xs := [_, _, _, _]) S hSep
  have hMay : pMay s = true := pMay_yes hN hall
  refine bn <| tn <| hK3 _ _ ?_
  refine sq fun K9 hK9 => ?_
  refine rgD (fun _ _ h => h) rfl ?_
  refine dsw F S rfl rfl rfl Tryz.sizeOf4 (i := 4) rfl rfl rfl rfl one1 rfl rfl fun a w F S => ?_
  refine dn ?_
  refine tn <| hK9 _ _ ?_
  refine wp_ret ?_
  refine ?_
  exact rmC F (.inl rfl) S rfl rfl (fun w' S => S.ld (i := 3) rfl rfl Tryz.isAgg4) (fun w' S => ⟨by rw [hMay], S.bel⟩)
 ·intro D c hs W hX S
  obtain ⟨rfl, hMay, z, n, m, hSep, rfl⟩ := hX
  replace S := St.unpS (xs := [_, _, _, _]) S hSep
  refine wp_ret ?_
  refine br <| tr <| ?_
  exact rmC F (.inl rfl) S rfl rfl (fun w' S => S.ld (i := 3) rfl rfl Tryz.isAgg4) (fun w' S => ⟨by rw [hMay], S.bel⟩)
end Go.Proofs.YtgcmddaibnimjaaGreatDoor
namespace Sha
open Go Go.Eng
def root (k n : Nat) : Nat := (List.range 36).foldl (fun r i => if (r + 2 ^ (35 - i)) ^ k ≤ n then r + 2 ^ (35 - i) else r) 0
def primes : List Nat := (List.range 312).filter fun n => decide (2 ≤ n) && (List.range n).all fun d => decide (d < 2) || decide (n % d ≠ 0)
def K : List Int := primes.map fun p => ((root 3 (p * 2 ^ 96) % 2 ^ 32 : Nat) : Int)
def H0 : List Int := (primes.take 8).map fun p => ((root 2 (p * 2 ^ 64) % 2 ^ 32 : Nat) : Int)
def rot (x : Int) (n : Nat) : Int := orI .u32 (shrI .u32 x n) (shlI .u32 x (32 - n))
theorem orI_comm (k : IntKind) (x y : Int) : orI k x y = orI k y x := by rw [orI, orI, BitVec.or_comm]
def add (a b : Int) : Int := IntKind.u32.wrap (a + b)
def s0 (x : Int) : Int := xorI .u32 (xorI .u32 (rot x 7) (rot x 18)) (shrI .u32 x 3)
def s1 (x : Int) : Int := xorI .u32 (xorI .u32 (rot x 17) (rot x 19)) (shrI .u32 x 10)
def word (a b c d : Int) : Int := orI .u32 (orI .u32 (orI .u32 (shlI .u32 (IntKind.u32.wrap a) 24) (shlI .u32 (IntKind.u32.wrap b) 16)) (shlI .u32 (IntKind.u32.wrap c) 8)) (IntKind.u32.wrap d)
end Sha
namespace Go.Proofs.YtgcmddaibnimjaaGreatDoor
open Go.RowKit Go.Eng
open Sha
theorem and31 (n : Nat) (hn : 1 ≤ n ∧ n ≤ 31) : andI .u64 (IntKind.u64.wrap ((32 - n : Nat) : Int)) 31 = ((32 - n : Nat) : Int) := by
 have : ∀ m : Fin 32, andI .u64 (IntKind.u64.wrap ((m.1 : Nat) : Int)) 31 = ((m.1 : Nat) : Int) := by decide +kernel
 exact this ⟨32 - n, by omega⟩
theorem sub31 (n : Nat) (hn : 1 ≤ n ∧ n ≤ 31) : IntKind.u64.wrap (32 - andI .u64 (IntKind.u64.wrap ((32 - n : Nat) : Int)) 31) = (n : Int) := by
 rw [and31 n hn, IntWalk.u64_in _ (by omega)]; omega
theorem _root_.Go.Eng.Sl.ld1c {P : Program} {α : Type} {w : World} {enc : α → List Value} {A : Option Addr} {xs : List α} {b o t : Nat} {v : Value} (h : Sl w 1 enc A xs) (e : A = some ⟨b, o, none⟩) (hA : ∀ w, (isAgg t).run P w = .ok false w) (j : Nat) (hj : j < xs.length) (hv : (enc xs[j])[0]? = some v) : Ld P w t ⟨b, o + j * 1, none⟩ v := by
 obtain ⟨b', o', e', _, hc⟩ := h.at_ hj
 rw [e] at e'; cases e'
 exact ld1 hA (hc 0 v hv)
def encU32 (n : Int) : List Value := [.int .u32 n]
theorem lenU32 (n : Int) : (encU32 n).length = 1 := rfl
theorem one_U32 (n : Int) : ∀ u ∈ encU32 n, u.oneCell' = true := one1
theorem f210_c (x : Int) (n : Nat) (hn : 1 ≤ n ∧ n ≤ 31) (w0 : World) :
  Calls Tryz.prog 210 [.int .u32 x, .int .i64 ((32 - n : Nat) : Int)].toArray w0 (Ret fun v w' => v = .int .u32 (rot x n) ∧ Below w0.heap.size w0 w') := by
 refine ent Tryz.func210 Tryz.ntmps210 rfl rfl ?_
 intro a F
 have S := St.refl w0
 refine sq fun K1 hK1 => ?_
 refine rg ?_
 refine dv F (y_as rfl rfl) rfl rfl rfl fun a F => ?_
 refine dn ?_
 refine tn <| hK1 _ _ ?_
 refine sq fun K2 hK2 => ?_
 refine rg ?_
 refine dv F (y_mv rfl rfl) rfl rfl rfl fun a F => ?_
 refine dv F (y_cvt rfl rfl ⟨_, Tryz.underlying3⟩ Tryz.underlying217) rfl rfl rfl fun a F => ?_
 refine dv F (y_and rfl rfl rfl) rfl rfl rfl fun a F => ?_
 refine dv F (y_as rfl rfl) rfl rfl rfl fun a F => ?_
 refine dn ?_
 refine tn <| hK2 _ _ ?_
 refine sq fun K3 hK3 => ?_
 refine rg ?_
 refine dv F (y_mv rfl rfl) rfl rfl rfl fun a F => ?_
 refine dv F (y_mv rfl rfl) rfl rfl rfl fun a F => ?_
 refine dv F (y_shl (m := 32 - n) rfl rfl rfl (and31 n hn)) rfl rfl rfl fun a F => ?_
 refine dv F (y_mv rfl rfl) rfl rfl rfl fun a F => ?_
 refine dv F (y_mv rfl rfl) rfl rfl rfl fun a F => ?_
 refine dv F (y_ws rfl rfl rfl) rfl rfl rfl fun a F => ?_
 refine dv F (y_shr (m := n) rfl rfl rfl (sub31 n hn)) rfl rfl rfl fun a F => ?_
 refine dv F (y_or rfl rfl rfl) rfl rfl rfl fun a F => ?_
 refine dv F (y_as rfl rfl) rfl rfl rfl fun a F => ?_
 refine dn ?_
 refine tn <| hK3 _ _ ?_
 refine wp_ret ?_
 refine ?_
 exact rt1 F rfl rfl ⟨by rw [rot, orI_comm], S.bel⟩
theorem f169_c (x : Int) (n : Nat) (hn : 1 ≤ n ∧ n ≤ 31) (w0 : World) :
  Calls Tryz.prog 169 [.int .u32 x, .int .i64 (n : Int)].toArray w0 (Ret fun v w' => v = .int .u32 (rot x n) ∧ Below w0.heap.size w0 w') := by
 refine ent Tryz.func169 Tryz.ntmps169 rfl rfl ?_
 intro a F
 have S := St.refl w0
 refine sq fun K1 hK1 => ?_
 refine rg ?_
 refine dv F (y_as rfl rfl) rfl rfl rfl fun a F => ?_
 refine dn ?_
 refine tn <| hK1 _ _ ?_
 refine sq fun K2 hK2 => ?_
 refine rg ?_
 refine dv F (y_mv rfl rfl) rfl rfl rfl fun a F => ?_
 refine dv F (y_mv rfl rfl) rfl rfl rfl fun a F => ?_
 refine dv F (y_sub rfl rfl rfl (by omega)) rfl rfl rfl fun a F => ?_
 refine dc F (c_f rfl rfl rfl Tryz.call210) rfl rfl rfl ((show (32 : Int) - (n : Int) = ((32 - n : Nat) : Int) by omega) ▸ f210_c x n hn _) fun a v w' hr F => ?_
 obtain ⟨rfl, hb⟩ := hr
 replace S := S.call hb
 refine dv F (y_as rfl rfl) rfl rfl rfl fun a F => ?_
 refine dn ?_
 refine tn <| hK2 _ _ ?_
 refine wp_ret ?_
 refine ?_
 exact rt1 F rfl rfl ⟨rfl, S.bel⟩
theorem f167_c (w0 : World) : Calls Tryz.prog 167 [].toArray w0 (Ret fun v w' => v = .agg (K.flatMap encU32).toArray ∧ Below w0.heap.size w0 w') := by
 refine ent Tryz.func167 Tryz.ntmps167 rfl rfl ?_
 intro a F
 have S := St.refl w0
 refine sq fun K1 hK1 => ?_
 refine rg ?_
 refine dal F S rfl Tryz.zeroValue228 rfl rfl rfl rfl fun a w b0 F S => ?_
 refine dn ?_
 refine tn <| hK1 _ _ ?_
 refine sq fun K2 hK2 => ?_
 refine rg ?_
 refine dv F (y_bd (v := .agg (K.flatMap encU32).toArray) rfl rfl (fun w => by kernel_rfl)) rfl rfl rfl fun a F => ?_
 refine dsw F S rfl rfl rfl Tryz.sizeOf228 (i := 0) rfl rfl rfl rfl (allflat one_U32 K) rfl rfl fun a w F S => ?_
 refine dn ?_
 refine tn <| hK2 _ _ ?_
 refine wp_ret ?_
 refine ?_
 exact rc1 F rfl rfl (S.lda (i := 0) rfl Tryz.isAgg228 Tryz.sizeOf228 rfl) ⟨rfl, S.bel⟩
theorem f129_c (w0 : World) : Calls Tryz.prog 129 [].toArray w0 (Ret fun v w' => v = .agg (H0.flatMap encU32).toArray ∧ Below w0.heap.size w0 w') := by
 refine ent Tryz.func129 Tryz.ntmps129 rfl rfl ?_
 intro a F
 have S := St.refl w0
 refine sq fun K1 hK1 => ?_
 refine rg ?_
 refine dal F S rfl Tryz.zeroValue192 rfl rfl rfl rfl fun a w b0 F S => ?_
 refine dn ?_
 refine tn <| hK1 _ _ ?_
 refine sq fun K2 hK2 => ?_
 refine rg ?_
 refine dv F (y_bd (v := .agg (H0.flatMap encU32).toArray) rfl rfl (fun w => by kernel_rfl)) rfl rfl rfl fun a F => ?_
 refine dsw F S rfl rfl rfl Tryz.sizeOf192 (i := 0) rfl rfl rfl rfl (allflat one_U32 H0) rfl rfl fun a w F S => ?_
 refine dn ?_
 refine tn <| hK2 _ _ ?_
 refine wp_ret ?_
 refine ?_
 exact rc1 F rfl rfl (S.lda (i := 0) rfl Tryz.isAgg192 Tryz.sizeOf192 rfl) ⟨rfl, S.bel⟩
end Go.Proofs.YtgcmddaibnimjaaGreatDoor
namespace Sha
open Go Go.Eng
structure S8 where
 (a b c d e f g h : Int)
def S8.l (s : S8) : List Int := [s.a, s.b, s.c, s.d, s.e, s.f, s.g, s.h]
def big0 (a : Int) : Int := xorI .u32 (xorI .u32 (rot a 2) (rot a 13)) (rot a 22)
def big1 (e : Int) : Int := xorI .u32 (xorI .u32 (rot e 6) (rot e 11)) (rot e 25)
def ch (e f g : Int) : Int := xorI .u32 (andI .u32 e f) (andI .u32 (xorI .u32 4294967295 e) g)
def maj (a b c : Int) : Int := xorI .u32 (xorI .u32 (andI .u32 a b) (andI .u32 a c)) (andI .u32 b c)
def t1 (s : S8) (k w : Int) : Int := add (add (add (add s.h (big1 s.e)) (ch s.e s.f s.g)) k) w
def t2 (s : S8) : Int := add (big0 s.a) (maj s.a s.b s.c)
def rnd (s : S8) (k w : Int) : S8 := ⟨add (t1 s k w) (t2 s), s.a, s.b, s.c, add s.d (t1 s k w), s.e, s.f, s.g⟩
def rnds (W : List Int) (s : S8) : Nat → S8
 | 0 => s
 | n + 1 => rnd (rnds W s n) (K.getD n 0) (W.getD n 0)
def fin (s t : S8) : S8 := ⟨add s.a t.a, add s.b t.b, add s.c t.c, add s.d t.d, add s.e t.e, add s.f t.f, add s.g t.g, add s.h t.h⟩
def blk (s : S8) (W : List Int) : S8 := fin s (rnds W s 64)
def nx (w : List Int) : Int := add (add (add (w.getD (w.length - 16) 0) (s0 (w.getD (w.length - 15) 0))) (w.getD (w.length - 7) 0)) (s1 (w.getD (w.length - 2) 0))
def sch (w : List Int) : Nat → List Int
 | 0 => w
 | n + 1 => sch w n ++ [nx (sch w n)]
def wordAt (bs : List Int) (i : Nat) : Int := word (bs.getD (4 * i) 0) (bs.getD (4 * i + 1) 0) (bs.getD (4 * i + 2) 0) (bs.getD (4 * i + 3) 0)
def words (bs : List Int) : List Int := (List.range 16).map (wordAt bs)
def wpre (bs : List Int) (k : Nat) : List Int := if k ≤ 16 then (List.range k).map (wordAt bs) else sch (words bs) (k - 16)
theorem wpre_lo (bs : List Int) {k : Nat} (h : k < 16) : wpre bs (k + 1) = wpre bs k ++ [wordAt bs k] := by
 rw [wpre, wpre, if_pos (by omega), if_pos (by omega), List.range_succ, List.map_append]; rfl
theorem wpre_hi (bs : List Int) {k : Nat} (h : 16 ≤ k) : wpre bs (k + 1) = wpre bs k ++ [nx (wpre bs k)] := by
 have e : wpre bs k = sch (words bs) (k - 16) := by
  rw [wpre]
  split
  ·have : k = 16 := by omega
   subst this; rfl
  ·rfl
 rw [e, wpre, if_neg (by omega), show k + 1 - 16 = (k - 16) + 1 by omega]; rfl
theorem wpre_len (bs : List Int) : ∀ k, (wpre bs k).length = k
 | 0 => by simp [wpre]
 | k + 1 => by
  rcases Nat.lt_or_ge k 16 with h | h
  ·rw [wpre_lo bs h, List.length_append, wpre_len bs k]; rfl
  ·rw [wpre_hi bs h, List.length_append, wpre_len bs k]; rfl
theorem nx_at (w : List Int) (h : 16 ≤ w.length) : nx w = add (add (add (w[w.length - 16]'(by omega)) (s0 (w[w.length - 15]'(by omega)))) (w[w.length - 7]'(by omega))) (s1 (w[w.length - 2]'(by omega))) := by
 have g : ∀ j (hj : j < w.length), w.getD j 0 = w[j] := fun j hj => by simp [hj]
 rw [nx, g _ (by omega), g _ (by omega), g _ (by omega), g _ (by omega)]
def gat (w b : Int) : Int := orI .u32 (shlI .u32 w 8) (IntKind.u32.wrap b)
theorem orI_add {a b : Int} {n : Nat} (ha : 0 ≤ a) (hb : 0 ≤ b ∧ b < 2 ^ n) (h : a * 2 ^ n + b < 4294967296) : orI .u32 (a * 2 ^ n) b = a * 2 ^ n + b := by
 obtain ⟨x, rfl⟩ := Int.eq_ofNat_of_zero_le ha
 obtain ⟨y, rfl⟩ := Int.eq_ofNat_of_zero_le hb.1
 have hp : ((2 ^ n : Nat) : Int) = (2 : Int) ^ n := by rw [Int.natCast_pow]; rfl
 have e0 : ((x * 2 ^ n : Nat) : Int) = (x : Int) * 2 ^ n := by rw [Int.natCast_mul, hp]
 have hy : y < 2 ^ n := by have := hb.2; omega
 have hx : x * 2 ^ n + y < 4294967296 := by omega
 have e1 : BitVec.ofInt 32 ((x : Int) * 2 ^ n) = BitVec.ofNat 32 (x * 2 ^ n) := by
  rw [← e0, BitVec.ofInt_natCast]
 have e2 : BitVec.ofInt 32 (y : Int) = BitVec.ofNat 32 y := BitVec.ofInt_natCast ..
 show IntKind.u32.wrap (((BitVec.ofInt 32 ((x : Int) * 2 ^ n) ||| BitVec.ofInt 32 (y : Int)).toNat : Nat) : Int) = _
 rw [e1, e2, BitVec.toNat_or, BitVec.toNat_ofNat, BitVec.toNat_ofNat, Nat.mod_eq_of_lt (by omega), Nat.mod_eq_of_lt (by omega)]
 have e3 : x * 2 ^ n ||| y = x * 2 ^ n + y := by
  rw [Nat.mul_comm, ← Nat.two_pow_add_eq_or_of_lt hy]
 rw [e3, IntWalk.u32_in _ (by omega)]
 omega
theorem shlI_mul {a : Int} {n : Nat} (hn : n ≤ 32) (ha : 0 ≤ a) (h : a * 2 ^ n < 4294967296) : shlI .u32 a n = a * 2 ^ n := by
 have : 0 ≤ a * 2 ^ n := Int.mul_nonneg ha (Int.pow_nonneg (by decide))
 rw [shlI, Nat.min_eq_left (by exact hn)]
 exact IntWalk.u32_in _ (by omega)
theorem gat_word {a b c d : Int} (ha : 0 ≤ a ∧ a < 256) (hb : 0 ≤ b ∧ b < 256) (hc : 0 ≤ c ∧ c < 256) (hd : 0 ≤ d ∧ d < 256) : gat (gat (gat (gat 0 a) b) c) d = word a b c d := by
 have wr : ∀ x : Int, 0 ≤ x ∧ x < 256 → IntKind.u32.wrap x = x := fun x h => IntWalk.u32_in _ (by omega)
 have g : ∀ w x : Int, 0 ≤ w → w < 16777216 → 0 ≤ x ∧ x < 256 → gat w x = w * 256 + x := fun w x h0 h1 hx => by
  rw [gat, wr x hx, shlI_mul (by decide) h0 (by omega)]
  have := orI_add (n := 8) h0 (by simpa using hx) (by omega)
  simpa using this
 have o : ∀ (x y : Int) (n : Nat), 0 ≤ x → 0 ≤ y ∧ y < 2 ^ n → x * 2 ^ n + y < 4294967296 → orI .u32 (x * 2 ^ n) y = x * 2 ^ n + y := fun x y n h1 h2 h3 => orI_add h1 h2 h3
 rw [g 0 a (by omega) (by omega) ha, g _ b (by omega) (by omega) hb, g _ c (by omega) (by omega) hc, g _ d (by omega) (by omega) hd]
 rw [word, wr a ha, wr b hb, wr c hc, wr d hd, shlI_mul (by decide) ha.1 (by omega), shlI_mul (by decide) hb.1 (by omega), shlI_mul (by decide) hc.1 (by omega)]
 have h1 := o a (b * 2 ^ 16) 24 ha.1 (by omega) (by omega)
 rw [h1]
 have h2 := o (a * 256 + b) (c * 2 ^ 8) 16 (by omega) (by omega) (by omega)
 rw [show a * 2 ^ 24 + b * 2 ^ 16 = (a * 256 + b) * 2 ^ 16 by omega, h2]
 have h3 := o ((a * 256 + b) * 256 + c) d 8 (by omega) (by omega) (by omega)
 rw [show (a * 256 + b) * 2 ^ 16 + c * 2 ^ 8 = ((a * 256 + b) * 256 + c) * 2 ^ 8 by omega, h3]
 omega
end Sha
namespace Go.Proofs.YtgcmddaibnimjaaGreatDoor
open Go.RowKit Go.Eng
open Sha
theorem setU {G : List Int} {k : Nat} {x : Int} (h : k < G.length) : putl (G.flatMap encU32) (0 + k * 1) (cellsOf (.int .u32 x)) = (G.set k x).flatMap encU32 := by
 have fl : ∀ G : List Int, G.flatMap encU32 = G.map (Value.int .u32) := fun G => by
  induction G with
  | nil => rfl
  | cons g G ih => rw [List.flatMap_cons, ih]; rfl
 rw [fl, fl, Nat.zero_add, Nat.mul_one]
 refine List.ext_getElem? fun i => ?_
 rw [(putl_get _ _ _ (by show k + 1 ≤ _; simp; omega)).2 i]
 show (if k ≤ i ∧ i < k + 1 then [Value.int .u32 x][i - k]? else _) = _
 rw [List.getElem?_map, List.getElem?_map, List.getElem?_set]
 by_cases hik : k = i
 ·subst hik; simp [h]
 ·rw [if_neg (by omega), if_neg hik]
theorem arrU {w0 w : World} {hs : List Res} {i b e t j : Nat} {xs : List Int} (S : St w0 w hs) (h : nth hs i = some (bk b e (xs.flatMap encU32))) (hA : ∀ w, (isAgg t).run Tryz.prog w = .ok false w) (hj : j < xs.length) : Ld Tryz.prog w t ⟨b, 0 + j * 1, none⟩ (.int .u32 xs[j]) :=
 Sl.ld1c (S.sl h lenU32) rfl hA j hj rfl
def gatA (bs : List Int) : Nat → List Int
 | 0 => List.replicate 64 0
 | j + 1 => (gatA bs j).set (j / 4) (gat ((gatA bs j).getD (j / 4) 0) (bs.getD j 0))
theorem gatA_len (bs : List Int) : ∀ j, (gatA bs j).length = 64
 | 0 => by simp [gatA]
 | j + 1 => by rw [gatA, List.length_set, gatA_len bs j]
theorem gatA_succ (bs : List Int) {j : Nat} (hj : j < bs.length) (h : j / 4 < (gatA bs j).length) : (gatA bs j).set (j / 4) (orI .u32 (shlI .u32 (gatA bs j)[j / 4] 8) (IntKind.u32.wrap bs[j])) = gatA bs (j + 1) := by
 rw [gatA, gat]
 simp [hj, h]
theorem gatA_at (bs : List Int) (hb : bs.length = 64) (hr : ∀ b ∈ bs, 0 ≤ b ∧ b < 256) : ∀ i, i ≤ 16 → gatA bs (4 * i) = (List.range i).map (wordAt bs) ++ List.replicate (64 - i) 0
 | 0, _ => by simp [gatA]
 | i + 1, hi => by
  have ih := gatA_at bs hb hr i (by omega)
  have hrr : ∀ j, 0 ≤ bs.getD j 0 ∧ bs.getD j 0 < 256 := fun j => by
   by_cases hj : j < bs.length
   ·have := hr bs[j] (List.getElem_mem hj)
    simpa [hj] using this
   ·simp [hj]
  rw [show 4 * (i + 1) = 4 * i + 1 + 1 + 1 + 1 by omega]
  simp only [gatA, ih]
  rw [show (4 * i) / 4 = i by omega, show (4 * i + 1) / 4 = i by omega, show (4 * i + 1 + 1) / 4 = i by omega, show (4 * i + 1 + 1 + 1) / 4 = i by omega]
  have hl : ((List.range i).map (wordAt bs)).length = i := by simp
  have e0 : List.replicate (64 - i) (0 : Int) = 0 :: List.replicate (64 - (i + 1)) 0 := by
   rw [show 64 - i = (64 - (i + 1)) + 1 by omega, List.replicate_succ]
  rw [e0]
  have st : ∀ (x y : Int) (r : List Int), ((List.range i).map (wordAt bs) ++ x :: r).set i y = (List.range i).map (wordAt bs) ++ y :: r := fun x y r => by
   rw [List.set_append_right _ _ (by omega), hl, Nat.sub_self]; rfl
  have gt : ∀ (x : Int) (r : List Int), ((List.range i).map (wordAt bs) ++ x :: r).getD i 0 = x := fun x r => by
   rw [List.getD_eq_getElem?_getD, List.getElem?_append_right (by omega), hl, Nat.sub_self]; rfl
  simp only [st, gt]
  rw [gat_word (hrr _) (hrr _) (hrr _) (hrr _), List.range_succ, List.map_append, List.append_assoc]
  rfl
def wz (bs : List Int) (k : Nat) : List Int := wpre bs k ++ List.replicate (64 - k) 0
theorem gatA_end (bs : List Int) (hb : bs.length = 64) (hr : ∀ b ∈ bs, 0 ≤ b ∧ b < 256) : gatA bs 64 = wz bs 16 := by
 rw [show 64 = 4 * 16 from rfl, gatA_at bs hb hr 16 (Nat.le_refl _)]; rfl
theorem wz_len (bs : List Int) {k : Nat} (hk : k ≤ 64) : (wz bs k).length = 64 := by
 rw [wz, List.length_append, wpre_len, List.length_replicate]; omega
theorem wz64 (bs : List Int) : ((wz bs 64).flatMap encU32).length = 64 := by rw [flat_len lenU32, wz_len bs (Nat.le_refl _)]
theorem wz_end (bs : List Int) : wz bs 64 = wpre bs 64 := by rw [wz]; simp
theorem wz_get (bs : List Int) {k j : Nat} (hj : j < k) (h : j < (wz bs k).length) : (wz bs k)[j] = (wpre bs k)[j]'(by rw [wpre_len]; exact hj) := by
 simp only [wz]
 rw [List.getElem_append_left]
theorem wz_succ (bs : List Int) {k : Nat} (hk : 16 ≤ k ∧ k ≤ 64) (hk2 : k < 64) (hl : (wz bs k).length = 64) :
  (wz bs k).set k (IntKind.u32.wrap (IntKind.u32.wrap (IntKind.u32.wrap ((wz bs k)[k - 16]'(by omega) + xorI .u32 (xorI .u32 (rot ((wz bs k)[k - 15]'(by omega)) 7) (rot ((wz bs k)[k - 15]'(by omega)) 18)) (shrI .u32 ((wz bs k)[k - 15]'(by omega)) 3)) + (wz bs k)[k - 7]'(by omega)) + xorI .u32 (xorI .u32 (rot ((wz bs k)[k - 2]'(by omega)) 17) (rot ((wz bs k)[k - 2]'(by omega)) 19)) (shrI .u32 ((wz bs k)[k - 2]'(by omega)) 10))) = wz bs (k + 1) := by
 have hw := wpre_len bs k
 rw [wz_get bs (by omega), wz_get bs (by omega), wz_get bs (by omega), wz_get bs (by omega)]
 have st : ∀ y : Int, (wpre bs k ++ List.replicate (64 - k) 0).set k y = wpre bs k ++ y :: List.replicate (64 - (k + 1)) 0 := fun y => by
  rw [List.set_append_right _ _ (by omega), hw, Nat.sub_self, show 64 - k = (64 - (k + 1)) + 1 by omega, List.replicate_succ]; rfl
 rw [wz, wz, st, wpre_hi bs hk.1, nx_at _ (by omega), List.append_assoc]
 simp only [hw]
 rfl
theorem f168_c {A : Option Addr} {c : Nat} (bs : List Int) (w0 : World) (hA : Sl w0 1 encU8 A bs) (hb : bs.length = 64) (hr : ∀ b ∈ bs, 0 ≤ b ∧ b < 256) :
  Calls Tryz.prog 168 [.slice A bs.length c].toArray w0 (Ret fun v w' => v = .agg ((wpre bs 64).flatMap encU32).toArray ∧ Below w0.heap.size w0 w') := by
 refine ent Tryz.func168 Tryz.ntmps168 rfl rfl ?_
 intro a F
 have S := St.refl w0
 refine sq fun K1 hK1 => ?_
 refine rg ?_
 refine dal F S rfl Tryz.zeroValue228 rfl rfl rfl rfl fun a w b2 F S => ?_
 refine dn ?_
 refine tn <| hK1 _ _ ?_
 refine sq fun K2 hK2 => ?_
 refine rg ?_
 refine dal F S rfl Tryz.zeroValue228 rfl rfl rfl rfl fun a w b3 F S => ?_
 refine dn ?_
 refine tn <| hK2 _ _ ?_
 refine sq fun K3 hK3 => ?_
 refine sq fun K4 hK4 => ?_
 refine rg ?_
 refine dv F (y_mv rfl rfl) rfl rfl rfl fun a F => ?_
 refine dv F (y_ln rfl rfl Tryz.underlying61) rfl rfl rfl fun a F => ?_
 refine dv F (y_mv rfl rfl) rfl rfl rfl fun a F => ?_
 refine dn ?_
 refine tn <| hK4 _ _ ?_
 refine bl ?_
 refine lp (fun m a w => ∃ j : Nat, m = bs.length - j ∧ (j ≤ bs.length) ∧ Fr 74 a [(2, .pointer (some ⟨b2, 0, none⟩)), (3, .pointer (some ⟨b3, 0, none⟩)), (11, .slice A bs.length c), (12, .int .i64 (bs.length : Int)), (13, .int .i64 (j : Int))] ∧ St w0 w [bk b2 228 ((List.replicate 64 0).flatMap encU32), bk b3 228 ((gatA bs j).flatMap encU32)]) (bs.length) ?_ ?_
 ·exact ⟨0, rfl, Nat.zero_le _, F.sub _ ⟨rfl, rfl, rfl, rfl, rfl, trivial⟩, S.pick [0, 1] _ ⟨rfl, rfl, trivial⟩ rfl⟩
 ·rintro m a w ⟨j, hm, hj, F, S⟩
  refine sq fun K5 hK5 => ?_
  refine rg ?_
  refine dv F (y_lt rfl rfl rfl) rfl rfl rfl fun a F => ?_
  refine dn ?_
  refine tn <| hK5 _ _ ?_
  refine sq fun K6 hK6 => ?_
  refine cd F rfl (fun h1 => ?_) (fun h1 => ?_)
  ·refine wp_skip ?_
   refine tn <| hK6 _ _ ?_
   refine sq fun K7 hK7 => ?_
   refine bl ?_
   refine sq fun K8 hK8 => ?_
   have hj2 : j < bs.length := by omega
   have hgl := gatA_len bs j
   obtain ⟨ab, ao, eA, hab, _⟩ := (hA.st S).at_ hj2
   refine rg ?_
   refine dv F (y_mv rfl rfl) rfl rfl rfl fun a F => ?_
   refine dv F (y_ia rfl rfl eA rfl Tryz.underlying61 Tryz.sizeOf5 j rfl hj2) rfl rfl rfl fun a F => ?_
   refine dv F (y_ld rfl rfl (Sl.ld1c (hA.st S) eA Tryz.isAgg5 j hj2 rfl)) rfl rfl rfl fun a F => ?_
   refine dv F (y_as rfl rfl) rfl rfl rfl fun a F => ?_
   refine dv F (y_as rfl rfl) rfl rfl rfl fun a F => ?_
   refine dn ?_
   refine tn <| hK8 _ _ ?_
   refine rg ?_
   refine dv F (y_mv rfl rfl) rfl rfl rfl fun a F => ?_
   refine dv F (y_quo rfl rfl rfl (by omega)) rfl rfl rfl fun a F => ?_
   refine dv F (y_mv rfl rfl) rfl rfl rfl fun a F => ?_
   refine dv F (y_quo rfl rfl rfl (by omega)) rfl rfl rfl fun a F => ?_
   refine dv F (y_ip rfl rfl rfl Tryz.underlying228 Tryz.sizeOf190 (j / 4) (by omega) (by omega)) rfl rfl rfl fun a F => ?_
   refine dv F (y_ld rfl rfl (arrU S (i := 1) rfl Tryz.isAgg190 (j := j / 4) (by omega))) rfl rfl rfl fun a F => ?_
   refine dv F (y_shl (m := 8) rfl rfl rfl rfl) rfl rfl rfl fun a F => ?_
   refine dv F (y_mv rfl rfl) rfl rfl rfl fun a F => ?_
   refine dv F (y_cvt rfl rfl ⟨_, Tryz.underlying5⟩ Tryz.underlying190) rfl rfl rfl fun a F => ?_
   refine dv F (y_or rfl rfl rfl) rfl rfl rfl fun a F => ?_
   refine dv F (y_ip rfl rfl rfl Tryz.underlying228 Tryz.sizeOf190 (j / 4) (by omega) (by omega)) rfl rfl rfl fun a F => ?_
   refine dst F S rfl rfl rfl Tryz.sizeOf190 (i := 1) rfl rfl (by rw [flat_len lenU32]; omega) one1 rfl rfl fun a w F S => ?_
   rw [setU (by omega), gatA_succ bs hj2 (by omega)] at S
   refine dn ?_
   refine bn <| tn <| hK7 _ _ ?_
   refine rg ?_
   refine dv F (y_add rfl rfl rfl (by omega)) rfl rfl rfl fun a F => ?_
   refine dv F (y_mv rfl rfl) rfl rfl rfl fun a F => ?_
   refine dn ?_
   exact ln (by omega) ⟨j + 1, rfl, by omega, F.sub _ ⟨rfl, rfl, rfl, rfl, rfl, trivial⟩, S.pick [0, 1] _ ⟨rfl, rfl, trivial⟩ rfl⟩
  ·refine wp_exit ?_
   refine tx <| lx <| bh <| tn <| hK3 _ _ ?_
   refine sq fun K9 hK9 => ?_
   refine sq fun K10 hK10 => ?_
   obtain rfl : j = bs.length := by omega
   rw [hb, gatA_end bs hb hr] at S
   refine rg ?_
   refine dv F (y_as rfl rfl) rfl rfl rfl fun a F => ?_
   refine dn ?_
   refine tn <| hK10 _ _ ?_
   refine bl ?_
   refine lp (fun m a w => ∃ k : Nat, m = 64 - k ∧ (16 ≤ k ∧ k ≤ 64) ∧ Fr 74 a [(2, .pointer (some ⟨b2, 0, none⟩)), (3, .pointer (some ⟨b3, 0, none⟩)), (6, .int .i64 (k : Int))] ∧ St w0 w [bk b2 228 ((List.replicate 64 0).flatMap encU32), bk b3 228 ((wz bs k).flatMap encU32)]) (48) ?_ ?_
   ·exact ⟨16, rfl, by omega, F.sub _ ⟨rfl, rfl, rfl, trivial⟩, S.pick [0, 1] _ ⟨rfl, rfl, trivial⟩ rfl⟩
   ·rintro m a w ⟨k, hm, hk, F, S⟩
    refine sq fun K11 hK11 => ?_
    refine sq fun K12 hK12 => ?_
    refine rg ?_
    refine dv F (y_mv rfl rfl) rfl rfl rfl fun a F => ?_
    refine dv F (y_lt rfl rfl rfl) rfl rfl rfl fun a F => ?_
    refine dn ?_
    refine tn <| hK12 _ _ ?_
    refine cd F rfl (fun h2 => ?_) (fun h2 => ?_)
    ·refine wp_skip ?_
     refine tn <| hK11 _ _ ?_
     refine sq fun K13 hK13 => ?_
     refine bl ?_
     refine sq fun K14 hK14 => ?_
     have hk2 : k < 64 := by omega
     have hzl := wz_len bs (k := k) (by omega)
     refine rq (C := fun w => St _ w _) Tryz.mixed (by kernel_rfl) (S.drewN 1) ?_
     refine qv F (fun w S => y_mv rfl rfl) rfl rfl rfl fun a F => ?_
     refine qv F (fun w S => y_sub rfl rfl rfl (by omega)) rfl rfl rfl fun a F => ?_
     refine qv F (fun w S => y_ip rfl rfl rfl Tryz.underlying228 Tryz.sizeOf190 (k - 15) (by omega) (by omega)) rfl rfl rfl fun a F => ?_
     refine qv F (fun w S => y_ld rfl rfl (arrU S (i := 1) rfl Tryz.isAgg190 (j := k - 15) (by omega))) rfl rfl rfl fun a F => ?_
     refine qv F (fun w S => y_mv rfl rfl) rfl rfl rfl fun a F => ?_
     refine qv F (fun w S => y_sub rfl rfl rfl (by omega)) rfl rfl rfl fun a F => ?_
     refine qv F (fun w S => y_ip rfl rfl rfl Tryz.underlying228 Tryz.sizeOf190 (k - 2) (by omega) (by omega)) rfl rfl rfl fun a F => ?_
     refine qv F (fun w S => y_ld rfl rfl (arrU S (i := 1) rfl Tryz.isAgg190 (j := k - 2) (by omega))) rfl rfl rfl fun a F => ?_
     refine qv F (fun w S => y_as rfl rfl) rfl rfl rfl fun a F => ?_
     refine qv F (fun w S => y_as rfl rfl) rfl rfl rfl fun a F => ?_
     refine qn fun w S => ?_
     refine tn <| hK14 _ _ ?_
     refine sq fun K15 hK15 => ?_
     refine rg ?_
     refine dv F (y_mv rfl rfl) rfl rfl rfl fun a F => ?_
     refine dc F (c_f rfl rfl rfl Tryz.call169) rfl rfl rfl (f169_c _ 7 (by decide) _) fun a v w' hr F => ?_
     obtain ⟨rfl, hb⟩ := hr
     replace S := S.call hb
     refine dv F (y_mv rfl rfl) rfl rfl rfl fun a F => ?_
     refine dc F (c_f rfl rfl rfl Tryz.call169) rfl rfl rfl (f169_c _ 18 (by decide) _) fun a v w' hr F => ?_
     obtain ⟨rfl, hb⟩ := hr
     replace S := S.call hb
     refine dv F (y_xor rfl rfl rfl) rfl rfl rfl fun a F => ?_
     refine dv F (y_mv rfl rfl) rfl rfl rfl fun a F => ?_
     refine dv F (y_shr (m := 3) rfl rfl rfl rfl) rfl rfl rfl fun a F => ?_
     refine dv F (y_xor rfl rfl rfl) rfl rfl rfl fun a F => ?_
     refine dv F (y_as rfl rfl) rfl rfl rfl fun a F => ?_
     refine dn ?_
     refine tn <| hK15 _ _ ?_
     refine sq fun K16 hK16 => ?_
     refine rg ?_
     refine dv F (y_mv rfl rfl) rfl rfl rfl fun a F => ?_
     refine dc F (c_f rfl rfl rfl Tryz.call169) rfl rfl rfl (f169_c _ 17 (by decide) _) fun a v w' hr F => ?_
     obtain ⟨rfl, hb⟩ := hr
     replace S := S.call hb
     refine dv F (y_mv rfl rfl) rfl rfl rfl fun a F => ?_
     refine dc F (c_f rfl rfl rfl Tryz.call169) rfl rfl rfl (f169_c _ 19 (by decide) _) fun a v w' hr F => ?_
     obtain ⟨rfl, hb⟩ := hr
     replace S := S.call hb
     refine dv F (y_xor rfl rfl rfl) rfl rfl rfl fun a F => ?_
     refine dv F (y_mv rfl rfl) rfl rfl rfl fun a F => ?_
     refine dv F (y_shr (m := 10) rfl rfl rfl rfl) rfl rfl rfl fun a F => ?_
     refine dv F (y_xor rfl rfl rfl) rfl rfl rfl fun a F => ?_
     refine dv F (y_as rfl rfl) rfl rfl rfl fun a F => ?_
     refine dn ?_
     refine tn <| hK16 _ _ ?_
     refine rp [.p, .p, .p, .p, .p, .p, .p, .p, .p, .p, .p, .p, .p, .p, .p] 15 [[], [], [1], [1, 2], [1, 2, 3], [], [1, 2, 3, 4, 5], [], [7], [7, 8], [7, 8, 9], [1, 2, 3, 4, 5, 6, 7, 8, 9, 10], [], [1, 2, 3, 4, 5, 6, 7, 8, 9, 10, 11, 12], [0, 1, 2, 3, 4, 5, 6, 7, 8, 9, 10, 11, 12, 13]] [(2, _), (3, _), (6, _), (7, _), (8, _), (9, _), (10, _), (30, _), (31, _), (34, _), (35, _), (36, _), (37, _), (38, _), (39, _), (40, _), (41, _), (42, _), (43, _), (44, _), (45, _), (46, _), (47, _), (48, _), (49, _), (50, _), (51, _), (52, _), (53, _), (54, _), (55, _), (56, _), (57, _)] F ⟨rfl, rfl, rfl, rfl, rfl, rfl, rfl, rfl, rfl, rfl, rfl, rfl, rfl, rfl, rfl, rfl, rfl, rfl, rfl, rfl, rfl, rfl, rfl, rfl, rfl, rfl, rfl, rfl, rfl, rfl, rfl, rfl, rfl, trivial⟩ Tryz.mixed (by kernel_rfl) rfl (.inr ⟨by decide, by kernel_rfl, by kernel_rfl⟩) (by kernel_rfl) ⟨?_, ?_, ?_, ?_, ?_, ?_, ?_, ?_, ?_, ?_, ?_, ?_, ?_, ?_, ?_, trivial⟩ fun a w1 J => ?_
     ·intro a w1 hB F hA
      have S0 := S
      replace S := S.call hB
      exact pv F (fun w2 hB2 => have S := S.call hB2; y_mv rfl rfl) rfl rfl rfl (by decide)
     ·intro a w1 hB F hA
      have S0 := S
      replace S := S.call hB
      exact pv F (fun w2 hB2 => have S := S.call hB2; y_mv rfl rfl) rfl rfl rfl (by decide)
     ·intro a w1 hB F hA
      have S0 := S
      replace S := S.call hB
      replace F := F.eP (hA 1 (by decide)) rfl (d := 59) rfl rfl (y_mv rfl rfl)
      exact pv F (fun w2 hB2 => have S := S.call hB2; y_sub rfl rfl rfl (by omega)) rfl rfl rfl (by decide)
     ·intro a w1 hB F hA
      have S0 := S
      replace S := S.call hB
      replace F := F.eP (hA 1 (by decide)) rfl (d := 59) rfl rfl (y_mv rfl rfl)
      replace F := F.eP (hA 2 (by decide)) rfl (d := 60) rfl rfl (y_sub rfl rfl rfl (by omega))
      exact pv F (fun w2 hB2 => have S := S.call hB2; y_ip rfl rfl rfl Tryz.underlying228 Tryz.sizeOf190 (k - 16) (by omega) (by omega)) rfl rfl rfl (by decide)
     ·intro a w1 hB F hA
      have S0 := S
      replace S := S.call hB
      replace F := F.eP (hA 1 (by decide)) rfl (d := 59) rfl rfl (y_mv rfl rfl)
      replace F := F.eP (hA 2 (by decide)) rfl (d := 60) rfl rfl (y_sub rfl rfl rfl (by omega))
      replace F := F.eP (hA 3 (by decide)) rfl (d := 61) rfl rfl (y_ip rfl rfl rfl Tryz.underlying228 Tryz.sizeOf190 (k - 16) (by omega) (by omega))
      exact pv F (fun w2 hB2 => have S := S.call hB2; y_ld rfl rfl (arrU S (i := 1) rfl Tryz.isAgg190 (j := k - 16) (by omega))) rfl rfl rfl (by decide)
     ·intro a w1 hB F hA
      have S0 := S
      replace S := S.call hB
      exact pv F (fun w2 hB2 => have S := S.call hB2; y_mv rfl rfl) rfl rfl rfl (by decide)
     ·intro a w1 hB F hA
      have S0 := S
      replace S := S.call hB
      replace F := F.eP (hA 1 (by decide)) rfl (d := 59) rfl rfl (y_mv rfl rfl)
      replace F := F.eP (hA 2 (by decide)) rfl (d := 60) rfl rfl (y_sub rfl rfl rfl (by omega))
      replace F := F.eP (hA 3 (by decide)) rfl (d := 61) rfl rfl (y_ip rfl rfl rfl Tryz.underlying228 Tryz.sizeOf190 (k - 16) (by omega) (by omega))
      replace F := F.eP (hA 4 (by decide)) rfl (d := 62) rfl rfl (y_ld rfl rfl (arrU S (i := 1) rfl Tryz.isAgg190 (j := k - 16) (by omega)))
      replace F := F.eP (hA 5 (by decide)) rfl (d := 63) rfl rfl (y_mv rfl rfl)
      exact pv F (fun w2 hB2 => have S := S.call hB2; y_wa rfl rfl rfl) rfl rfl rfl (by decide)
     ·intro a w1 hB F hA
      have S0 := S
      replace S := S.call hB
      exact pv F (fun w2 hB2 => have S := S.call hB2; y_mv rfl rfl) rfl rfl rfl (by decide)
     ·intro a w1 hB F hA
      have S0 := S
      replace S := S.call hB
      replace F := F.eP (hA 7 (by decide)) rfl (d := 65) rfl rfl (y_mv rfl rfl)
      exact pv F (fun w2 hB2 => have S := S.call hB2; y_sub rfl rfl rfl (by omega)) rfl rfl rfl (by decide)
     ·intro a w1 hB F hA
      have S0 := S
      replace S := S.call hB
      replace F := F.eP (hA 7 (by decide)) rfl (d := 65) rfl rfl (y_mv rfl rfl)
      replace F := F.eP (hA 8 (by decide)) rfl (d := 66) rfl rfl (y_sub rfl rfl rfl (by omega))
      exact pv F (fun w2 hB2 => have S := S.call hB2; y_ip rfl rfl rfl Tryz.underlying228 Tryz.sizeOf190 (k - 7) (by omega) (by omega)) rfl rfl rfl (by decide)
     ·intro a w1 hB F hA
      have S0 := S
      replace S := S.call hB
      replace F := F.eP (hA 7 (by decide)) rfl (d := 65) rfl rfl (y_mv rfl rfl)
      replace F := F.eP (hA 8 (by decide)) rfl (d := 66) rfl rfl (y_sub rfl rfl rfl (by omega))
      replace F := F.eP (hA 9 (by decide)) rfl (d := 67) rfl rfl (y_ip rfl rfl rfl Tryz.underlying228 Tryz.sizeOf190 (k - 7) (by omega) (by omega))
      exact pv F (fun w2 hB2 => have S := S.call hB2; y_ld rfl rfl (arrU S (i := 1) rfl Tryz.isAgg190 (j := k - 7) (by omega))) rfl rfl rfl (by decide)
     ·intro a w1 hB F hA
      have S0 := S
      replace S := S.call hB
      replace F := F.eP (hA 1 (by decide)) rfl (d := 59) rfl rfl (y_mv rfl rfl)
      replace F := F.eP (hA 2 (by decide)) rfl (d := 60) rfl rfl (y_sub rfl rfl rfl (by omega))
      replace F := F.eP (hA 3 (by decide)) rfl (d := 61) rfl rfl (y_ip rfl rfl rfl Tryz.underlying228 Tryz.sizeOf190 (k - 16) (by omega) (by omega))
      replace F := F.eP (hA 4 (by decide)) rfl (d := 62) rfl rfl (y_ld rfl rfl (arrU S (i := 1) rfl Tryz.isAgg190 (j := k - 16) (by omega)))
      replace F := F.eP (hA 5 (by decide)) rfl (d := 63) rfl rfl (y_mv rfl rfl)
      replace F := F.eP (hA 6 (by decide)) rfl (d := 64) rfl rfl (y_wa rfl rfl rfl)
      replace F := F.eP (hA 7 (by decide)) rfl (d := 65) rfl rfl (y_mv rfl rfl)
      replace F := F.eP (hA 8 (by decide)) rfl (d := 66) rfl rfl (y_sub rfl rfl rfl (by omega))
      replace F := F.eP (hA 9 (by decide)) rfl (d := 67) rfl rfl (y_ip rfl rfl rfl Tryz.underlying228 Tryz.sizeOf190 (k - 7) (by omega) (by omega))
      replace F := F.eP (hA 10 (by decide)) rfl (d := 68) rfl rfl (y_ld rfl rfl (arrU S (i := 1) rfl Tryz.isAgg190 (j := k - 7) (by omega)))
      exact pv F (fun w2 hB2 => have S := S.call hB2; y_wa rfl rfl rfl) rfl rfl rfl (by decide)
     ·intro a w1 hB F hA
      have S0 := S
      replace S := S.call hB
      exact pv F (fun w2 hB2 => have S := S.call hB2; y_mv rfl rfl) rfl rfl rfl (by decide)
     ·intro a w1 hB F hA
      have S0 := S
      replace S := S.call hB
      replace F := F.eP (hA 1 (by decide)) rfl (d := 59) rfl rfl (y_mv rfl rfl)
      replace F := F.eP (hA 2 (by decide)) rfl (d := 60) rfl rfl (y_sub rfl rfl rfl (by omega))
      replace F := F.eP (hA 3 (by decide)) rfl (d := 61) rfl rfl (y_ip rfl rfl rfl Tryz.underlying228 Tryz.sizeOf190 (k - 16) (by omega) (by omega))
      replace F := F.eP (hA 4 (by decide)) rfl (d := 62) rfl rfl (y_ld rfl rfl (arrU S (i := 1) rfl Tryz.isAgg190 (j := k - 16) (by omega)))
      replace F := F.eP (hA 5 (by decide)) rfl (d := 63) rfl rfl (y_mv rfl rfl)
      replace F := F.eP (hA 6 (by decide)) rfl (d := 64) rfl rfl (y_wa rfl rfl rfl)
      replace F := F.eP (hA 7 (by decide)) rfl (d := 65) rfl rfl (y_mv rfl rfl)
      replace F := F.eP (hA 8 (by decide)) rfl (d := 66) rfl rfl (y_sub rfl rfl rfl (by omega))
      replace F := F.eP (hA 9 (by decide)) rfl (d := 67) rfl rfl (y_ip rfl rfl rfl Tryz.underlying228 Tryz.sizeOf190 (k - 7) (by omega) (by omega))
      replace F := F.eP (hA 10 (by decide)) rfl (d := 68) rfl rfl (y_ld rfl rfl (arrU S (i := 1) rfl Tryz.isAgg190 (j := k - 7) (by omega)))
      replace F := F.eP (hA 11 (by decide)) rfl (d := 69) rfl rfl (y_wa rfl rfl rfl)
      replace F := F.eP (hA 12 (by decide)) rfl (d := 70) rfl rfl (y_mv rfl rfl)
      exact pv F (fun w2 hB2 => have S := S.call hB2; y_wa rfl rfl rfl) rfl rfl rfl (by decide)
     ·intro a w1 hB F hA
      have S0 := S
      replace S := S.call hB
      replace F := F.eP (hA 0 (by decide)) rfl (d := 58) rfl rfl (y_mv rfl rfl)
      replace F := F.eP (hA 1 (by decide)) rfl (d := 59) rfl rfl (y_mv rfl rfl)
      replace F := F.eP (hA 2 (by decide)) rfl (d := 60) rfl rfl (y_sub rfl rfl rfl (by omega))
      replace F := F.eP (hA 3 (by decide)) rfl (d := 61) rfl rfl (y_ip rfl rfl rfl Tryz.underlying228 Tryz.sizeOf190 (k - 16) (by omega) (by omega))
      replace F := F.eP (hA 4 (by decide)) rfl (d := 62) rfl rfl (y_ld rfl rfl (arrU S (i := 1) rfl Tryz.isAgg190 (j := k - 16) (by omega)))
      replace F := F.eP (hA 5 (by decide)) rfl (d := 63) rfl rfl (y_mv rfl rfl)
      replace F := F.eP (hA 6 (by decide)) rfl (d := 64) rfl rfl (y_wa rfl rfl rfl)
      replace F := F.eP (hA 7 (by decide)) rfl (d := 65) rfl rfl (y_mv rfl rfl)
      replace F := F.eP (hA 8 (by decide)) rfl (d := 66) rfl rfl (y_sub rfl rfl rfl (by omega))
      replace F := F.eP (hA 9 (by decide)) rfl (d := 67) rfl rfl (y_ip rfl rfl rfl Tryz.underlying228 Tryz.sizeOf190 (k - 7) (by omega) (by omega))
      replace F := F.eP (hA 10 (by decide)) rfl (d := 68) rfl rfl (y_ld rfl rfl (arrU S (i := 1) rfl Tryz.isAgg190 (j := k - 7) (by omega)))
      replace F := F.eP (hA 11 (by decide)) rfl (d := 69) rfl rfl (y_wa rfl rfl rfl)
      replace F := F.eP (hA 12 (by decide)) rfl (d := 70) rfl rfl (y_mv rfl rfl)
      replace F := F.eP (hA 13 (by decide)) rfl (d := 71) rfl rfl (y_wa rfl rfl rfl)
      exact pv F (fun w2 hB2 => have S := S.call hB2; y_ip rfl rfl rfl Tryz.underlying228 Tryz.sizeOf190 k (by omega) (by omega)) rfl rfl rfl (by decide)
     have F := J.fr
     have E := EX.start J S
     have hle := S.bel.size
     replace S := S.call J.bel
     replace F := F.eP (J.at 0 rfl) rfl (d := 58) rfl rfl (y_mv rfl rfl)
     replace F := F.eP (J.at 1 rfl) rfl (d := 59) rfl rfl (y_mv rfl rfl)
     replace F := F.eP (J.at 2 rfl) rfl (d := 60) rfl rfl (y_sub rfl rfl rfl (by omega))
     replace F := F.eP (J.at 3 rfl) rfl (d := 61) rfl rfl (y_ip rfl rfl rfl Tryz.underlying228 Tryz.sizeOf190 (k - 16) (by omega) (by omega))
     replace F := F.eP (J.at 4 rfl) rfl (d := 62) rfl rfl (y_ld rfl rfl (arrU S (i := 1) rfl Tryz.isAgg190 (j := k - 16) (by omega)))
     replace F := F.eP (J.at 5 rfl) rfl (d := 63) rfl rfl (y_mv rfl rfl)
     replace F := F.eP (J.at 6 rfl) rfl (d := 64) rfl rfl (y_wa rfl rfl rfl)
     replace F := F.eP (J.at 7 rfl) rfl (d := 65) rfl rfl (y_mv rfl rfl)
     replace F := F.eP (J.at 8 rfl) rfl (d := 66) rfl rfl (y_sub rfl rfl rfl (by omega))
     replace F := F.eP (J.at 9 rfl) rfl (d := 67) rfl rfl (y_ip rfl rfl rfl Tryz.underlying228 Tryz.sizeOf190 (k - 7) (by omega) (by omega))
     replace F := F.eP (J.at 10 rfl) rfl (d := 68) rfl rfl (y_ld rfl rfl (arrU S (i := 1) rfl Tryz.isAgg190 (j := k - 7) (by omega)))
     replace F := F.eP (J.at 11 rfl) rfl (d := 69) rfl rfl (y_wa rfl rfl rfl)
     replace F := F.eP (J.at 12 rfl) rfl (d := 70) rfl rfl (y_mv rfl rfl)
     replace F := F.eP (J.at 13 rfl) rfl (d := 71) rfl rfl (y_wa rfl rfl rfl)
     replace F := F.eP (J.at 14 rfl) rfl (d := 72) rfl rfl (y_ip rfl rfl rfl Tryz.underlying228 Tryz.sizeOf190 k (by omega) (by omega))
     replace S := E.st
     clear E J
     refine dst F S rfl rfl rfl Tryz.sizeOf190 (i := 1) rfl rfl (by rw [flat_len lenU32]; omega) one1 rfl rfl fun a w F S => ?_
     rw [setU (by omega), wz_succ bs hk hk2 hzl] at S
     refine dn ?_
     refine bn <| tn <| hK13 _ _ ?_
     refine rg ?_
     refine dv F (y_mv rfl rfl) rfl rfl rfl fun a F => ?_
     refine dv F (y_add rfl rfl rfl (by omega)) rfl rfl rfl fun a F => ?_
     refine dv F (y_as rfl rfl) rfl rfl rfl fun a F => ?_
     refine dn ?_
     exact ln (by omega) ⟨k + 1, rfl, by omega, F.sub _ ⟨rfl, rfl, rfl, trivial⟩, S.pick [0, 1] _ ⟨rfl, rfl, trivial⟩ rfl⟩
    ·refine wp_exit ?_
     refine tx <| lx <| bh <| tn <| hK9 _ _ ?_
     refine sq fun K17 hK17 => ?_
     obtain rfl : k = 64 := by omega
     obtain ⟨zs, hzs⟩ : ∃ zs, zs = wz bs 64 := ⟨_, rfl⟩
     rw [← hzs] at S
     have hz64 : (zs.flatMap encU32).length = 64 := by rw [hzs]; exact wz64 bs
     refine rg ?_
     refine dv F (y_ld rfl rfl (S.lda (i := 1) rfl Tryz.isAgg228 Tryz.sizeOf228 hz64)) rfl rfl rfl fun a F => ?_
     refine dsw F S rfl rfl rfl Tryz.sizeOf228 (i := 0) rfl rfl hz64 (by rw [flat_len lenU32]; rfl) (allflat one_U32 _) rfl rfl fun a w F S => ?_
     refine dn ?_
     refine tn <| hK17 _ _ ?_
     refine wp_ret ?_
     refine ?_
     exact rc1 F rfl rfl (S.lda (i := 0) rfl Tryz.isAgg228 Tryz.sizeOf228 hz64) ⟨by rw [← wz_end, ← hzs]; rfl, S.bel⟩
end Go.Proofs.YtgcmddaibnimjaaGreatDoor
namespace Go.Proofs.YtgcmddaibnimjaaGreatDoor
open Go.RowKit Go.Eng
open Sha
def pk (hs : List Res) : Res := ⟨fun k => ∃ i r, nth hs i = some r ∧ r.fp k, fun w => ∀ i r, nth hs i = some r → r.ok w, fun w w' h ho i r hi => r.loc w w' (fun k hk => h k ⟨i, r, hi, hk⟩) (ho i r hi)⟩
theorem _root_.Go.Eng.St.pack {w0 w : World} {x : Res} {hs : List Res} (S : St w0 w (x :: hs)) : St w0 w [x, pk hs] := by
 refine ⟨S.bel, fun i r h => ?_, fun i j r s h h' hne k hk hs' => ?_⟩
 ·match i, h with
  | 0, h => cases h; exact S.own 0 _ rfl
  | 1, h => cases h; exact ⟨fun i r hi => (S.own (i + 1) r hi).1, fun k ⟨i, r, hi, hk⟩ => (S.own (i + 1) r hi).2 k hk⟩
 ·match i, j, h, h', hne with
  | 0, 1, h, h', _ => cases h; cases h'; obtain ⟨i, r, hi, hk'⟩ := hs'; exact S.sep 0 (i + 1) _ _ rfl hi (by omega) k hk hk'
  | 1, 0, h, h', _ => cases h; cases h'; obtain ⟨i, r, hi, hk'⟩ := hk; exact S.sep (i + 1) 0 _ _ hi rfl (by omega) k hk' hs'
  | 0, 0, _, _, hne => exact hne rfl
  | 1, 1, _, _, hne => exact hne rfl
theorem _root_.Go.Eng.St.unpack {w0 w w' : World} {x x' : Res} {hs : List Res} (S : St w0 w' [x', pk hs]) (S0 : St w0 w (x :: hs)) : St w0 w' (x' :: hs) := by
 have h1 := S.own 1 _ rfl
 refine ⟨S.bel, fun i r h => ?_, fun i j r s h h' hne k hk hs' => ?_⟩
 ·match i, h with
  | 0, h => cases h; exact S.own 0 _ rfl
  | i + 1, h => exact ⟨h1.1 i r h, fun k hk => h1.2 k ⟨i, r, h, hk⟩⟩
 ·match i, j, h, h', hne with
  | 0, 0, _, _, hne => exact hne rfl
  | 0, j + 1, h, h', _ => cases h; exact S.sep 0 1 _ _ rfl rfl (by omega) k hk ⟨j, s, h', hs'⟩
  | i + 1, 0, h, h', _ => cases h'; exact S.sep 1 0 _ _ rfl rfl (by omega) k ⟨i, r, h, hk⟩ hs'
  | i + 1, j + 1, h, h', hne => exact S0.sep (i + 1) (j + 1) r s h h' hne k hk hs'
theorem flatU (G : List Int) : G.flatMap encU32 = G.map (Value.int .u32) := by
 induction G with
 | nil => rfl
 | cons g G ih => rw [List.flatMap_cons, ih]; rfl
theorem flatU_get {G : List Int} {i : Nat} (h : i < G.length) : (G.flatMap encU32)[i]? = some (.int .u32 (G.getD i 0)) := by
 rw [flatU]; simp [h]
theorem K_len : K.length = 64 := by decide +kernel
section
variable {w0 w : World} {hs : List Res} {i b e t j : Nat} {xs : List Int} {rest : List Value}
theorem arrUR (S : St w0 w hs) (h : nth hs i = some (bk b e (xs.flatMap encU32 ++ rest))) (hA : ∀ w, (isAgg t).run Tryz.prog w = .ok false w) (hj : j < xs.length) : Ld Tryz.prog w t ⟨b, 0 + j * 1, none⟩ (.int .u32 (xs.getD j 0)) := by
 rw [Nat.zero_add, Nat.mul_one]
 exact S.ld h (by rw [nth_eq, List.getElem?_append_left (by rw [flat_len lenU32]; omega), flatU_get hj]) hA
theorem arrUD (S : St w0 w hs) (h : nth hs i = some (bk b e (xs.flatMap encU32))) (hA : ∀ w, (isAgg t).run Tryz.prog w = .ok false w) (hj : j < xs.length) : Ld Tryz.prog w t ⟨b, 0 + j * 1, none⟩ (.int .u32 (xs.getD j 0)) :=
 arrUR (rest := []) S (by rw [List.append_nil]; exact h) hA hj
theorem ldS8 {s : S8} (S : St w0 w hs) (h : nth hs i = some (bk b e (s.l.flatMap encU32 ++ rest))) : Ld Tryz.prog w 192 ⟨b, 0, none⟩ (.agg (s.l.flatMap encU32).toArray) :=
 lda Tryz.isAgg192 Tryz.sizeOf192 (by rw [flat_len lenU32]; rfl) fun j v hv => by
  rw [Nat.zero_add]
  exact S.cell h (by rw [nth_eq, List.getElem?_append_left (List.getElem?_eq_some_iff.1 hv).1]; exact hv)
theorem ldS8' {s : S8} (S : St w0 w hs) (h : nth hs i = some (bk b e (s.l.flatMap encU32))) : Ld Tryz.prog w 192 ⟨b, 0, none⟩ (.agg (s.l.flatMap encU32).toArray) :=
 ldS8 (rest := []) S (by rw [List.append_nil]; exact h)
theorem setUR {G : List Int} {k : Nat} {x : Int} (h : k < G.length) : putl (G.flatMap encU32 ++ rest) (0 + k * 1) (cellsOf (.int .u32 x)) = (G.set k x).flatMap encU32 ++ rest := by
 rw [flatU G, Nat.zero_add, Nat.mul_one]
 refine List.ext_getElem? fun i => ?_
 rw [(putl_get _ _ _ (by show k + 1 ≤ _; simp; omega)).2 i]
 show (if k ≤ i ∧ i < k + 1 then [Value.int .u32 x][i - k]? else _) = _
 by_cases hik : k = i
 ·subst hik
  rw [if_pos ⟨Nat.le_refl _, by omega⟩, Nat.sub_self, flatU, List.getElem?_append_left (by simp; omega), List.getElem?_map, List.getElem?_set]
  simp [h]
 ·rw [if_neg (by omega), flatU]
  simp only [List.getElem?_append, List.length_map, List.length_set, List.getElem?_map, List.getElem?_set, if_neg hik]
end
def fl (s t : S8) (i : Nat) : List Int := (fin s t).l.take i ++ s.l.drop i
theorem fl_len (s t : S8) {i : Nat} (h : i ≤ 8) : (fl s t i).length = 8 := by
 have h1 : (fin s t).l.length = 8 := rfl
 have h2 : s.l.length = 8 := rfl
 rw [fl, List.length_append, List.length_take, List.length_drop]; omega
theorem fl_end (s t : S8) : fl s t 8 = (fin s t).l := rfl
theorem fl_succ (s t : S8) {i : Nat} (h : i < 8) : (fl s t i).set i (IntKind.u32.wrap ((fl s t i).getD i 0 + t.l.getD i 0)) = fl s t (i + 1) := by
 rcases i with _ | _ | _ | _ | _ | _ | _ | _ | i
 all_goals first | rfl | omega
theorem bd91_0_1_2_3_4_5_6_7 {a b c d e f g h : Int} (w : World) : (Instr.build 192 [(0, .int .u32 a), (1, .int .u32 b), (2, .int .u32 c), (3, .int .u32 d), (4, .int .u32 e), (5, .int .u32 f), (6, .int .u32 g), (7, .int .u32 h)].toArray).run Tryz.prog w = .ok (.agg ([a, b, c, d, e, f, g, h].flatMap encU32).toArray) w := by kernel_rfl
theorem f130_c {w0 W0 : World} {bb e : Nat} {mr : Res} {rest : List Value} {A : Option Addr} {c : Nat} (s : S8) (bs : List Int) (S : St w0 W0 [bk bb e (s.l.flatMap encU32 ++ rest), mr]) (hm : ∀ w, mr.ok w → Sl w 1 encU8 A bs) (hb : bs.length = 64) (hr : ∀ b ∈ bs, 0 ≤ b ∧ b < 256) :
  Calls Tryz.prog 130 [.pointer (some ⟨bb, 0, none⟩), .slice A bs.length c].toArray W0 (Ret fun v W' => St w0 W' [bk bb e ((blk s (wpre bs 64)).l.flatMap encU32 ++ rest), mr]) := by
 refine ent Tryz.func130 Tryz.ntmps130 rfl rfl ?_
 intro a F
 refine sq fun K1 hK1 => ?_
 refine rp [.p, .p, .p, HK.v (.agg (K.flatMap encU32).toArray), .b 192 (mkP) [] (fun _ => ((List.replicate 8 0).flatMap encU32)), .b 228 (mkP) [] (fun _ => ((List.replicate 64 0).flatMap encU32))] 6 [[], [0], [0, 1], [], [], []] [(0, _), (1, _)] F ⟨rfl, rfl, trivial⟩ Tryz.mixed (by kernel_rfl) rfl (.inr ⟨by decide, by kernel_rfl, by kernel_rfl⟩) (by kernel_rfl) ⟨?_, ?_, ?_, ?_, ?_, ?_, trivial⟩ fun a w1 J => ?_
 ·intro a w1 hB F hA
  have S0 := S
  replace S := S.call hB
  exact pv F (fun w2 hB2 => have S := S.call hB2; y_mv rfl rfl) rfl rfl rfl (by decide)
 ·intro a w1 hB F hA
  have S0 := S
  replace S := S.call hB
  replace F := F.eP (hA 0 (by decide)) rfl (d := 14) rfl rfl (y_mv rfl rfl)
  exact pv F (fun w2 hB2 => have S := S.call hB2; y_nc rfl rfl) rfl rfl rfl (by decide)
 ·intro a w1 hB F hA
  have S0 := S
  replace S := S.call hB
  replace F := F.eP (hA 0 (by decide)) rfl (d := 14) rfl rfl (y_mv rfl rfl)
  replace F := F.eP (hA 1 (by decide)) rfl (d := 15) rfl rfl (y_nc rfl rfl)
  exact pv F (fun w2 hB2 => have S := S.call hB2; y_ld rfl rfl (ldS8 S (i := 0) rfl)) rfl rfl rfl (by decide)
 ·intro a w1 hB F hA
  have S0 := S
  replace S := S.call hB
  refine pcv F (c_f rfl rfl rfl Tryz.call167) rfl rfl ?_
  exact f167_c _
 ·intro a w1 hB F hA
  have S0 := S
  replace S := S.call hB
  exact pb F rfl (y_al rfl Tryz.zeroValue192 rfl) (fun _ => rfl) rfl rfl rfl
 ·intro a w1 hB F hA
  have S0 := S
  replace S := S.call hB
  exact pb F rfl (y_al rfl Tryz.zeroValue228 rfl) (fun _ => rfl) rfl rfl rfl
 have F := J.fr
 have E := EX.start J S
 have hle := S.bel.size
 replace S := S.call J.bel
 replace F := F.eP (J.at 0 rfl) rfl (d := 14) rfl rfl (y_mv rfl rfl)
 replace F := F.eP (J.at 1 rfl) rfl (d := 15) rfl rfl (y_nc rfl rfl)
 replace F := F.eP (J.at 2 rfl) rfl (d := 16) rfl rfl (y_ld rfl rfl (ldS8 S (i := 0) rfl))
 replace F := F.eV (P := Tryz.prog) (J.at 3 rfl) rfl (d := 17) rfl rfl
 obtain ⟨b4, F, hb4, ho4⟩ := F.eB (P := Tryz.prog) (e := 192) (mk := mkP) (xs := []) (cs := fun _ => ((List.replicate 8 0).flatMap encU32)) (J.at 4 rfl) rfl (d := 4) rfl rfl rfl
 have E := EX.row J hle E 4 rfl rfl (d := 4) (e := 192) (cs := ((List.replicate 8 0).flatMap encU32)) rfl hb4 ho4
 obtain ⟨b5, F, hb5, ho5⟩ := F.eB (P := Tryz.prog) (e := 228) (mk := mkP) (xs := []) (cs := fun _ => ((List.replicate 64 0).flatMap encU32)) (J.at 5 rfl) rfl (d := 5) rfl rfl rfl
 have E := EX.row J hle E 5 rfl rfl (d := 5) (e := 228) (cs := ((List.replicate 64 0).flatMap encU32)) rfl hb5 ho5
 replace S := E.st
 clear E J
 refine dsw F S rfl rfl rfl Tryz.sizeOf192 (i := 2) rfl rfl rfl rfl (allflat one_U32 _) rfl rfl fun a w F S => ?_
 refine dsw F S rfl rfl rfl Tryz.sizeOf228 (i := 3) rfl rfl (show (K.flatMap encU32).length = 64 by rw [flat_len lenU32, K_len]) rfl (allflat one_U32 _) rfl rfl fun a w F S => ?_
 refine dn ?_
 refine tn <| hK1 _ _ ?_
 refine sq fun K2 hK2 => ?_
 refine sq fun K3 hK3 => ?_
 obtain ⟨W, hW⟩ : ∃ W, W = wpre bs 64 := ⟨_, rfl⟩
 have hWl : W.length = 64 := by rw [hW, wpre_len]
 refine rg ?_
 refine dv F (y_mv rfl rfl) rfl rfl rfl fun a F => ?_
 refine dc F (c_f rfl rfl rfl Tryz.call168) rfl rfl rfl (f168_c bs _ (hm _ (S.ok (i := 1) rfl)) hb hr) fun a v w' hr F => ?_
 obtain ⟨rfl, hb2⟩ := hr
 replace S := S.call hb2
 rw [← hW] at F
 refine dv F (y_mv rfl rfl) rfl rfl rfl fun a F => ?_
 refine dn ?_
 refine tn <| hK3 _ _ ?_
 refine bl ?_
 refine lp (fun m a w => ∃ i : Nat, m = 64 - i ∧ (i ≤ 64) ∧ Fr 114 a [(0, .pointer (some ⟨bb, 0, none⟩)), (4, .pointer (some ⟨b4, 0, none⟩)), (5, .pointer (some ⟨b5, 0, none⟩)), (19, .agg (W.flatMap encU32).toArray), (20, .int .i64 (i : Int))] ∧ St w0 w [bk bb e (s.l.flatMap encU32 ++ rest), mr, bk b4 192 ((rnds W s i).l.flatMap encU32), bk b5 228 (K.flatMap encU32)]) (64) ?_ ?_
 ·exact ⟨0, rfl, Nat.zero_le _, F.sub _ ⟨rfl, rfl, rfl, rfl, rfl, trivial⟩, S.pick [0, 1, 2, 3] _ ⟨rfl, rfl, rfl, rfl, trivial⟩ rfl⟩
 ·rintro m a w ⟨i, hm, hi, F, S⟩
  refine sq fun K4 hK4 => ?_
  refine rg ?_
  refine dv F (y_lt rfl rfl rfl) rfl rfl rfl fun a F => ?_
  refine dn ?_
  refine tn <| hK4 _ _ ?_
  refine sq fun K5 hK5 => ?_
  refine cd F rfl (fun h1 => ?_) (fun h1 => ?_)
  ·refine wp_skip ?_
   refine tn <| hK5 _ _ ?_
   refine sq fun K6 hK6 => ?_
   refine bl ?_
   refine sq fun K7 hK7 => ?_
   have hi2 : i < 64 := by omega
   refine rg ?_
   refine dv F (y_mv rfl rfl) rfl rfl rfl fun a F => ?_
   refine dv F (y_ix rfl rfl rfl Tryz.underlying228 Tryz.sizeOf190 Tryz.isAgg190 i rfl hi2 (flatU_get (by omega))) rfl rfl rfl fun a F => ?_
   refine dv F (y_as rfl rfl) rfl rfl rfl fun a F => ?_
   refine dv F (y_as rfl rfl) rfl rfl rfl fun a F => ?_
   refine dn ?_
   refine tn <| hK7 _ _ ?_
   refine sq fun K8 hK8 => ?_
   refine rq (C := fun w => St _ w _) Tryz.mixed (by kernel_rfl) (S.drewN 1) ?_
   refine qv F (fun w S => y_ip rfl rfl rfl Tryz.underlying192 Tryz.sizeOf190 0 rfl (by decide)) rfl rfl rfl fun a F => ?_
   refine qv F (fun w S => y_ld rfl rfl (S.ld (i := 2) rfl rfl Tryz.isAgg190)) rfl rfl rfl fun a F => ?_
   refine qv F (fun w S => y_ip rfl rfl rfl Tryz.underlying192 Tryz.sizeOf190 4 rfl (by decide)) rfl rfl rfl fun a F => ?_
   refine qv F (fun w S => y_ld rfl rfl (S.ld (i := 2) rfl rfl Tryz.isAgg190)) rfl rfl rfl fun a F => ?_
   refine qv F (fun w S => y_as rfl rfl) rfl rfl rfl fun a F => ?_
   refine qv F (fun w S => y_as rfl rfl) rfl rfl rfl fun a F => ?_
   refine qn fun w S => ?_
   refine tn <| hK8 _ _ ?_
   refine sq fun K9 hK9 => ?_
   refine rq (C := fun w => St _ w _) Tryz.mixed (by kernel_rfl) (S.drewN 1) ?_
   refine qv F (fun w S => y_ip rfl rfl rfl Tryz.underlying192 Tryz.sizeOf190 7 rfl (by decide)) rfl rfl rfl fun a F => ?_
   refine qv F (fun w S => y_ld rfl rfl (S.ld (i := 2) rfl rfl Tryz.isAgg190)) rfl rfl rfl fun a F => ?_
   refine qv F (fun w S => y_mv rfl rfl) rfl rfl rfl fun a F => ?_
   refine qc F (.int .u32 (rot (rnds W s i).e 6)) (fun w S => (c_f rfl rfl rfl Tryz.call169)) rfl rfl rfl (fun w S => (f169_c _ 6 (by decide) _).mono (Ret.mono fun v w' h => ⟨h.1, S.call h.2⟩)) fun a F => ?_
   refine qv F (fun w S => y_mv rfl rfl) rfl rfl rfl fun a F => ?_
   refine qc F (.int .u32 (rot (rnds W s i).e 11)) (fun w S => (c_f rfl rfl rfl Tryz.call169)) rfl rfl rfl (fun w S => (f169_c _ 11 (by decide) _).mono (Ret.mono fun v w' h => ⟨h.1, S.call h.2⟩)) fun a F => ?_
   refine qv F (fun w S => y_xor rfl rfl rfl) rfl rfl rfl fun a F => ?_
   refine qv F (fun w S => y_mv rfl rfl) rfl rfl rfl fun a F => ?_
   refine qc F (.int .u32 (rot (rnds W s i).e 25)) (fun w S => (c_f rfl rfl rfl Tryz.call169)) rfl rfl rfl (fun w S => (f169_c _ 25 (by decide) _).mono (Ret.mono fun v w' h => ⟨h.1, S.call h.2⟩)) fun a F => ?_
   refine qv F (fun w S => y_xor rfl rfl rfl) rfl rfl rfl fun a F => ?_
   refine qv F (fun w S => y_wa rfl rfl rfl) rfl rfl rfl fun a F => ?_
   refine qv F (fun w S => y_mv rfl rfl) rfl rfl rfl fun a F => ?_
   refine qv F (fun w S => y_ip rfl rfl rfl Tryz.underlying192 Tryz.sizeOf190 5 rfl (by decide)) rfl rfl rfl fun a F => ?_
   refine qv F (fun w S => y_ld rfl rfl (S.ld (i := 2) rfl rfl Tryz.isAgg190)) rfl rfl rfl fun a F => ?_
   refine qv F (fun w S => y_and rfl rfl rfl) rfl rfl rfl fun a F => ?_
   refine qv F (fun w S => y_mv rfl rfl) rfl rfl rfl fun a F => ?_
   refine qv F (fun w S => y_com rfl rfl) rfl rfl rfl fun a F => ?_
   refine qv F (fun w S => y_ip rfl rfl rfl Tryz.underlying192 Tryz.sizeOf190 6 rfl (by decide)) rfl rfl rfl fun a F => ?_
   refine qv F (fun w S => y_ld rfl rfl (S.ld (i := 2) rfl rfl Tryz.isAgg190)) rfl rfl rfl fun a F => ?_
   refine qv F (fun w S => y_and rfl rfl rfl) rfl rfl rfl fun a F => ?_
   refine qv F (fun w S => y_xor rfl rfl rfl) rfl rfl rfl fun a F => ?_
   refine qv F (fun w S => y_wa rfl rfl rfl) rfl rfl rfl fun a F => ?_
   refine qv F (fun w S => y_mv rfl rfl) rfl rfl rfl fun a F => ?_
   refine qv F (fun w S => y_ip rfl rfl rfl Tryz.underlying228 Tryz.sizeOf190 i rfl hi2) rfl rfl rfl fun a F => ?_
   refine qv F (fun w S => y_ld rfl rfl (arrUD S (i := 3) rfl Tryz.isAgg190 (j := i) (by rw [K_len]; exact hi2))) rfl rfl rfl fun a F => ?_
   refine qv F (fun w S => y_wa rfl rfl rfl) rfl rfl rfl fun a F => ?_
   refine qv F (fun w S => y_mv rfl rfl) rfl rfl rfl fun a F => ?_
   refine qv F (fun w S => y_wa rfl rfl rfl) rfl rfl rfl fun a F => ?_
   refine qv F (fun w S => y_as rfl rfl) rfl rfl rfl fun a F => ?_
   refine qn fun w S => ?_
   refine tn <| hK9 _ _ ?_
   refine sq fun K10 hK10 => ?_
   refine rq (C := fun w => St _ w _) Tryz.mixed (by kernel_rfl) (S.drewN 1) ?_
   refine qv F (fun w S => y_mv rfl rfl) rfl rfl rfl fun a F => ?_
   refine qc F (.int .u32 (rot (rnds W s i).a 2)) (fun w S => (c_f rfl rfl rfl Tryz.call169)) rfl rfl rfl (fun w S => (f169_c _ 2 (by decide) _).mono (Ret.mono fun v w' h => ⟨h.1, S.call h.2⟩)) fun a F => ?_
   refine qv F (fun w S => y_mv rfl rfl) rfl rfl rfl fun a F => ?_
   refine qc F (.int .u32 (rot (rnds W s i).a 13)) (fun w S => (c_f rfl rfl rfl Tryz.call169)) rfl rfl rfl (fun w S => (f169_c _ 13 (by decide) _).mono (Ret.mono fun v w' h => ⟨h.1, S.call h.2⟩)) fun a F => ?_
   refine qv F (fun w S => y_xor rfl rfl rfl) rfl rfl rfl fun a F => ?_
   refine qv F (fun w S => y_mv rfl rfl) rfl rfl rfl fun a F => ?_
   refine qc F (.int .u32 (rot (rnds W s i).a 22)) (fun w S => (c_f rfl rfl rfl Tryz.call169)) rfl rfl rfl (fun w S => (f169_c _ 22 (by decide) _).mono (Ret.mono fun v w' h => ⟨h.1, S.call h.2⟩)) fun a F => ?_
   refine qv F (fun w S => y_xor rfl rfl rfl) rfl rfl rfl fun a F => ?_
   refine qv F (fun w S => y_mv rfl rfl) rfl rfl rfl fun a F => ?_
   refine qv F (fun w S => y_ip rfl rfl rfl Tryz.underlying192 Tryz.sizeOf190 1 rfl (by decide)) rfl rfl rfl fun a F => ?_
   refine qv F (fun w S => y_ld rfl rfl (S.ld (i := 2) rfl rfl Tryz.isAgg190)) rfl rfl rfl fun a F => ?_
   refine qv F (fun w S => y_and rfl rfl rfl) rfl rfl rfl fun a F => ?_
   refine qv F (fun w S => y_mv rfl rfl) rfl rfl rfl fun a F => ?_
   refine qv F (fun w S => y_ip rfl rfl rfl Tryz.underlying192 Tryz.sizeOf190 2 rfl (by decide)) rfl rfl rfl fun a F => ?_
   refine qv F (fun w S => y_ld rfl rfl (S.ld (i := 2) rfl rfl Tryz.isAgg190)) rfl rfl rfl fun a F => ?_
   refine qv F (fun w S => y_and rfl rfl rfl) rfl rfl rfl fun a F => ?_
   refine qv F (fun w S => y_xor rfl rfl rfl) rfl rfl rfl fun a F => ?_
   refine qv F (fun w S => y_ip rfl rfl rfl Tryz.underlying192 Tryz.sizeOf190 1 rfl (by decide)) rfl rfl rfl fun a F => ?_
   refine qv F (fun w S => y_ld rfl rfl (S.ld (i := 2) rfl rfl Tryz.isAgg190)) rfl rfl rfl fun a F => ?_
   refine qv F (fun w S => y_ip rfl rfl rfl Tryz.underlying192 Tryz.sizeOf190 2 rfl (by decide)) rfl rfl rfl fun a F => ?_
   refine qv F (fun w S => y_ld rfl rfl (S.ld (i := 2) rfl rfl Tryz.isAgg190)) rfl rfl rfl fun a F => ?_
   refine qv F (fun w S => y_and rfl rfl rfl) rfl rfl rfl fun a F => ?_
   refine qv F (fun w S => y_xor rfl rfl rfl) rfl rfl rfl fun a F => ?_
   refine qv F (fun w S => y_wa rfl rfl rfl) rfl rfl rfl fun a F => ?_
   refine qv F (fun w S => y_as rfl rfl) rfl rfl rfl fun a F => ?_
   refine qn fun w S => ?_
   refine tn <| hK10 _ _ ?_
   refine rg ?_
   refine dv F (y_mv rfl rfl) rfl rfl rfl fun a F => ?_
   refine dv F (y_mv rfl rfl) rfl rfl rfl fun a F => ?_
   refine dv F (y_wa rfl rfl rfl) rfl rfl rfl fun a F => ?_
   refine dv F (y_mv rfl rfl) rfl rfl rfl fun a F => ?_
   refine dv F (y_ip rfl rfl rfl Tryz.underlying192 Tryz.sizeOf190 1 rfl (by decide)) rfl rfl rfl fun a F => ?_
   refine dv F (y_ld rfl rfl (S.ld (i := 2) rfl rfl Tryz.isAgg190)) rfl rfl rfl fun a F => ?_
   refine dv F (y_ip rfl rfl rfl Tryz.underlying192 Tryz.sizeOf190 2 rfl (by decide)) rfl rfl rfl fun a F => ?_
   refine dv F (y_ld rfl rfl (S.ld (i := 2) rfl rfl Tryz.isAgg190)) rfl rfl rfl fun a F => ?_
   refine dv F (y_ip rfl rfl rfl Tryz.underlying192 Tryz.sizeOf190 3 rfl (by decide)) rfl rfl rfl fun a F => ?_
   refine dv F (y_ld rfl rfl (S.ld (i := 2) rfl rfl Tryz.isAgg190)) rfl rfl rfl fun a F => ?_
   refine dv F (y_mv rfl rfl) rfl rfl rfl fun a F => ?_
   refine dv F (y_wa rfl rfl rfl) rfl rfl rfl fun a F => ?_
   refine dv F (y_mv rfl rfl) rfl rfl rfl fun a F => ?_
   refine dv F (y_ip rfl rfl rfl Tryz.underlying192 Tryz.sizeOf190 5 rfl (by decide)) rfl rfl rfl fun a F => ?_
   refine dv F (y_ld rfl rfl (S.ld (i := 2) rfl rfl Tryz.isAgg190)) rfl rfl rfl fun a F => ?_
   refine dv F (y_ip rfl rfl rfl Tryz.underlying192 Tryz.sizeOf190 6 rfl (by decide)) rfl rfl rfl fun a F => ?_
   refine dv F (y_ld rfl rfl (S.ld (i := 2) rfl rfl Tryz.isAgg190)) rfl rfl rfl fun a F => ?_
   refine dv F (y_bd rfl rfl (bd91_0_1_2_3_4_5_6_7)) rfl rfl rfl fun a F => ?_
   refine dsw F S rfl rfl rfl Tryz.sizeOf192 (i := 2) rfl rfl rfl rfl (allflat one_U32 _) rfl rfl fun a w F S => ?_
   refine dn ?_
   refine bn <| tn <| hK6 _ _ ?_
   refine rg ?_
   refine dv F (y_add rfl rfl rfl (by omega)) rfl rfl rfl fun a F => ?_
   refine dv F (y_mv rfl rfl) rfl rfl rfl fun a F => ?_
   refine dn ?_
   exact ln (by omega) ⟨i + 1, rfl, by omega, F.sub _ ⟨rfl, rfl, rfl, rfl, rfl, trivial⟩, S.pick [0, 1, 2, 3] _ ⟨rfl, rfl, rfl, rfl, trivial⟩ rfl⟩
  ·refine wp_exit ?_
   refine tx <| lx <| bh <| tn <| hK2 _ _ ?_
   refine sq fun K11 hK11 => ?_
   obtain rfl : i = 64 := by omega
   obtain ⟨t, ht⟩ : ∃ t, t = rnds W s 64 := ⟨_, rfl⟩
   rw [← ht] at S
   refine rg ?_
   refine dv F (y_ld rfl rfl (ldS8' S (i := 2) rfl)) rfl rfl rfl fun a F => ?_
   refine dv F (y_mv rfl rfl) rfl rfl rfl fun a F => ?_
   refine dn ?_
   refine tn <| hK11 _ _ ?_
   refine bl ?_
   refine lp (fun m a w => ∃ i : Nat, m = 8 - i ∧ (i ≤ 8) ∧ Fr 114 a [(0, .pointer (some ⟨bb, 0, none⟩)), (99, .agg (t.l.flatMap encU32).toArray), (100, .int .i64 (i : Int))] ∧ St w0 w [bk bb e ((fl s t i).flatMap encU32 ++ rest), mr]) (8) ?_ ?_
   ·exact ⟨0, rfl, Nat.zero_le _, F.sub _ ⟨rfl, rfl, rfl, trivial⟩, S.pick [0, 1] _ ⟨rfl, rfl, trivial⟩ rfl⟩
   ·rintro m a w ⟨i, hm, hi, F, S⟩
    refine sq fun K12 hK12 => ?_
    refine rg ?_
    refine dv F (y_lt rfl rfl rfl) rfl rfl rfl fun a F => ?_
    refine dn ?_
    refine tn <| hK12 _ _ ?_
    refine sq fun K13 hK13 => ?_
    refine cd F rfl (fun h2 => ?_) (fun h2 => ?_)
    ·refine wp_skip ?_
     refine tn <| hK13 _ _ ?_
     refine sq fun K14 hK14 => ?_
     refine bl ?_
     refine sq fun K15 hK15 => ?_
     have hi2 : i < 8 := by omega
     refine rg ?_
     refine dv F (y_mv rfl rfl) rfl rfl rfl fun a F => ?_
     refine dv F (y_ix rfl rfl rfl Tryz.underlying192 Tryz.sizeOf190 Tryz.isAgg190 i rfl hi2 (flatU_get (by exact hi2))) rfl rfl rfl fun a F => ?_
     refine dv F (y_as rfl rfl) rfl rfl rfl fun a F => ?_
     refine dv F (y_as rfl rfl) rfl rfl rfl fun a F => ?_
     refine dn ?_
     refine tn <| hK15 _ _ ?_
     refine rp [.p, .p, .p, .p, .p, .p, .p, .p, .p] 9 [[], [], [0], [0, 1, 2], [0, 1, 2, 3], [], [0, 1, 2, 3, 4, 5], [0], [0, 1, 2, 3, 4, 5, 6, 7]] [(0, _), (12, _), (13, _), (99, _), (100, _), (101, _), (102, _), (103, _)] F ⟨rfl, rfl, rfl, rfl, rfl, rfl, rfl, rfl, trivial⟩ Tryz.mixed (by kernel_rfl) rfl (.inr ⟨by decide, by kernel_rfl, by kernel_rfl⟩) (by kernel_rfl) ⟨?_, ?_, ?_, ?_, ?_, ?_, ?_, ?_, ?_, trivial⟩ fun a w1 J => ?_
     ·intro a w1 hB F hA
      have S0 := S
      replace S := S.call hB
      exact pv F (fun w2 hB2 => have S := S.call hB2; y_mv rfl rfl) rfl rfl rfl (by decide)
     ·intro a w1 hB F hA
      have S0 := S
      replace S := S.call hB
      exact pv F (fun w2 hB2 => have S := S.call hB2; y_mv rfl rfl) rfl rfl rfl (by decide)
     ·intro a w1 hB F hA
      have S0 := S
      replace S := S.call hB
      replace F := F.eP (hA 0 (by decide)) rfl (d := 104) rfl rfl (y_mv rfl rfl)
      exact pv F (fun w2 hB2 => have S := S.call hB2; y_nc rfl rfl) rfl rfl rfl (by decide)
     ·intro a w1 hB F hA
      have S0 := S
      replace S := S.call hB
      replace F := F.eP (hA 0 (by decide)) rfl (d := 104) rfl rfl (y_mv rfl rfl)
      replace F := F.eP (hA 1 (by decide)) rfl (d := 105) rfl rfl (y_mv rfl rfl)
      replace F := F.eP (hA 2 (by decide)) rfl (d := 106) rfl rfl (y_nc rfl rfl)
      exact pv F (fun w2 hB2 => have S := S.call hB2; y_ip rfl rfl rfl Tryz.underlying192 Tryz.sizeOf190 i rfl hi2) rfl rfl rfl (by decide)
     ·intro a w1 hB F hA
      have S0 := S
      replace S := S.call hB
      replace F := F.eP (hA 0 (by decide)) rfl (d := 104) rfl rfl (y_mv rfl rfl)
      replace F := F.eP (hA 1 (by decide)) rfl (d := 105) rfl rfl (y_mv rfl rfl)
      replace F := F.eP (hA 2 (by decide)) rfl (d := 106) rfl rfl (y_nc rfl rfl)
      replace F := F.eP (hA 3 (by decide)) rfl (d := 107) rfl rfl (y_ip rfl rfl rfl Tryz.underlying192 Tryz.sizeOf190 i rfl hi2)
      exact pv F (fun w2 hB2 => have S := S.call hB2; y_ld rfl rfl (arrUR S (i := 0) rfl Tryz.isAgg190 (j := i) (by rw [fl_len s t hi]; exact hi2))) rfl rfl rfl (by decide)
     ·intro a w1 hB F hA
      have S0 := S
      replace S := S.call hB
      exact pv F (fun w2 hB2 => have S := S.call hB2; y_mv rfl rfl) rfl rfl rfl (by decide)
     ·intro a w1 hB F hA
      have S0 := S
      replace S := S.call hB
      replace F := F.eP (hA 0 (by decide)) rfl (d := 104) rfl rfl (y_mv rfl rfl)
      replace F := F.eP (hA 1 (by decide)) rfl (d := 105) rfl rfl (y_mv rfl rfl)
      replace F := F.eP (hA 2 (by decide)) rfl (d := 106) rfl rfl (y_nc rfl rfl)
      replace F := F.eP (hA 3 (by decide)) rfl (d := 107) rfl rfl (y_ip rfl rfl rfl Tryz.underlying192 Tryz.sizeOf190 i rfl hi2)
      replace F := F.eP (hA 4 (by decide)) rfl (d := 108) rfl rfl (y_ld rfl rfl (arrUR S (i := 0) rfl Tryz.isAgg190 (j := i) (by rw [fl_len s t hi]; exact hi2)))
      replace F := F.eP (hA 5 (by decide)) rfl (d := 109) rfl rfl (y_mv rfl rfl)
      exact pv F (fun w2 hB2 => have S := S.call hB2; y_wa rfl rfl rfl) rfl rfl rfl (by decide)
     ·intro a w1 hB F hA
      have S0 := S
      replace S := S.call hB
      replace F := F.eP (hA 0 (by decide)) rfl (d := 104) rfl rfl (y_mv rfl rfl)
      exact pv F (fun w2 hB2 => have S := S.call hB2; y_nc rfl rfl) rfl rfl rfl (by decide)
     ·intro a w1 hB F hA
      have S0 := S
      replace S := S.call hB
      replace F := F.eP (hA 0 (by decide)) rfl (d := 104) rfl rfl (y_mv rfl rfl)
      replace F := F.eP (hA 1 (by decide)) rfl (d := 105) rfl rfl (y_mv rfl rfl)
      replace F := F.eP (hA 2 (by decide)) rfl (d := 106) rfl rfl (y_nc rfl rfl)
      replace F := F.eP (hA 3 (by decide)) rfl (d := 107) rfl rfl (y_ip rfl rfl rfl Tryz.underlying192 Tryz.sizeOf190 i rfl hi2)
      replace F := F.eP (hA 4 (by decide)) rfl (d := 108) rfl rfl (y_ld rfl rfl (arrUR S (i := 0) rfl Tryz.isAgg190 (j := i) (by rw [fl_len s t hi]; exact hi2)))
      replace F := F.eP (hA 5 (by decide)) rfl (d := 109) rfl rfl (y_mv rfl rfl)
      replace F := F.eP (hA 6 (by decide)) rfl (d := 110) rfl rfl (y_wa rfl rfl rfl)
      replace F := F.eP (hA 7 (by decide)) rfl (d := 111) rfl rfl (y_nc rfl rfl)
      exact pv F (fun w2 hB2 => have S := S.call hB2; y_ip rfl rfl rfl Tryz.underlying192 Tryz.sizeOf190 i rfl hi2) rfl rfl rfl (by decide)
     have F := J.fr
     have E := EX.start J S
     have hle := S.bel.size
     replace S := S.call J.bel
     replace F := F.eP (J.at 0 rfl) rfl (d := 104) rfl rfl (y_mv rfl rfl)
     replace F := F.eP (J.at 1 rfl) rfl (d := 105) rfl rfl (y_mv rfl rfl)
     replace F := F.eP (J.at 2 rfl) rfl (d := 106) rfl rfl (y_nc rfl rfl)
     replace F := F.eP (J.at 3 rfl) rfl (d := 107) rfl rfl (y_ip rfl rfl rfl Tryz.underlying192 Tryz.sizeOf190 i rfl hi2)
     replace F := F.eP (J.at 4 rfl) rfl (d := 108) rfl rfl (y_ld rfl rfl (arrUR S (i := 0) rfl Tryz.isAgg190 (j := i) (by rw [fl_len s t hi]; exact hi2)))
     replace F := F.eP (J.at 5 rfl) rfl (d := 109) rfl rfl (y_mv rfl rfl)
     replace F := F.eP (J.at 6 rfl) rfl (d := 110) rfl rfl (y_wa rfl rfl rfl)
     replace F := F.eP (J.at 7 rfl) rfl (d := 111) rfl rfl (y_nc rfl rfl)
     replace F := F.eP (J.at 8 rfl) rfl (d := 112) rfl rfl (y_ip rfl rfl rfl Tryz.underlying192 Tryz.sizeOf190 i rfl hi2)
     replace S := E.st
     clear E J
     refine dst F S rfl rfl rfl Tryz.sizeOf190 (i := 0) rfl rfl (by rw [List.length_append, flat_len lenU32, fl_len s t hi]; omega) one1 rfl rfl fun a w F S => ?_
     rw [setUR (by rw [fl_len s t hi]; exact hi2), fl_succ s t hi2] at S
     refine dn ?_
     refine bn <| tn <| hK14 _ _ ?_
     refine rg ?_
     refine dv F (y_add rfl rfl rfl (by omega)) rfl rfl rfl fun a F => ?_
     refine dv F (y_mv rfl rfl) rfl rfl rfl fun a F => ?_
     refine dn ?_
     exact ln (by omega) ⟨i + 1, rfl, by omega, F.sub _ ⟨rfl, rfl, rfl, trivial⟩, S.pick [0, 1] _ ⟨rfl, rfl, trivial⟩ rfl⟩
    ·refine wp_exit ?_
     refine tx <| lx <| bh <| ?_
     obtain rfl : i = 8 := by omega
     rw [fl_end, ht, hW] at S
     exact rn0 F rfl (S.pick [0, 1] _ ⟨rfl, rfl, trivial⟩ rfl)
end Go.Proofs.YtgcmddaibnimjaaGreatDoor
namespace Go.Proofs.YtgcmddaibnimjaaGreatDoor
open Go.RowKit Go.Eng
open Sha
theorem bs87 {i : Int} (w : World) : (Instr.buildSlice 61 1 [(0, .int .u8 i)].toArray).run Tryz.prog w = .ok (.slice (some ⟨w.heap.size, 0, none⟩) 1 1) (w.alloc (.cells [.int .u8 i].toArray 5)) := by kernel_rfl
def zpad (L : Nat) : Nat := (119 - L % 64) % 64
def lb (N : Int) (i : Nat) : Int := IntKind.u8.wrap (shrI .u64 N (8 * i))
def nbits (L : Nat) : Int := IntKind.u64.wrap (IntKind.u64.wrap (L : Int) * 8)
def padded (bs : List Int) : List Int := bs ++ 128 :: List.replicate (zpad bs.length) 0 ++ (List.range 8).map fun j => lb (nbits bs.length) (7 - j)
theorem snoc0 (x : List Int) (b : Int) (z : Nat) : (x ++ b :: List.replicate z 0).flatMap encU8 ++ [Value.int .u8 0] = (x ++ b :: List.replicate (z + 1) 0).flatMap encU8 := by
 rw [List.replicate_succ']
 simp [encU8]
theorem f89_c (w0 : World) : Calls Tryz.prog 89 [].toArray w0 (Ret fun v w' => (∃ b, v = .pointer (some ⟨b, 0, none⟩) ∧ w'.heap[b]? = some (.cells (H0.flatMap encU32 ++ [Value.slice none 0 0, Value.int .u64 0]).toArray 196 (0, 0)) ∧ w0.heap.size ≤ b) ∧ Below w0.heap.size w0 w') := by
 refine ent Tryz.func89 Tryz.ntmps89 rfl rfl ?_
 intro a F
 have S := St.refl w0
 refine sq fun K1 hK1 => ?_
 refine rg ?_
 refine dv F (y_as rfl rfl) rfl rfl rfl fun a F => ?_
 refine dn ?_
 refine tn <| hK1 _ _ ?_
 refine sq fun K2 hK2 => ?_
 refine rg ?_
 refine dc F (c_f rfl rfl rfl Tryz.call129) rfl rfl rfl (f129_c _) fun a v w' hr F => ?_
 obtain ⟨rfl, hb⟩ := hr
 replace S := S.call hb
 refine dv F (y_bd (v := .agg (H0.flatMap encU32 ++ [Value.slice none 0 0, Value.int .u64 0]).toArray) rfl rfl (fun w => by kernel_rfl)) rfl rfl rfl fun a F => ?_
 refine dbx F S rfl rfl rfl rfl rfl rfl fun a w b3 F S => ?_
 refine dv F (y_as rfl rfl) rfl rfl rfl fun a F => ?_
 refine dn ?_
 refine tn <| hK2 _ _ ?_
 refine wp_ret ?_
 refine ?_
 exact rt1 F rfl rfl ⟨⟨b3, rfl, S.ok (i := 0) rfl, ((S.own 0 _ rfl).2 b3 rfl).1⟩, S.bel⟩
end Go.Proofs.YtgcmddaibnimjaaGreatDoor
namespace Go.Proofs.YtgcmddaibnimjaaGreatDoor
open Go.RowKit Go.Eng
open Sha
end Go.Proofs.YtgcmddaibnimjaaGreatDoor
namespace Sha
open Go Go.Eng
def absorb (s : S8) (bs : List Int) : Nat → S8
 | 0 => s
 | k + 1 => blk (absorb s bs k) (wpre ((bs.drop (64 * k)).take 64) 64)
def outB (s : S8) : List Int := (List.range 32).map fun i => IntKind.u8.wrap (shrI .u32 (s.l.getD (i / 4) 0) (24 - 8 * (i % 4)))
theorem absorb_append (s : S8) (a b : List Int) (q : Nat) (ha : a.length = 64 * q) : ∀ r, absorb s (a ++ b) (q + r) = absorb (absorb s a q) b r
 | 0 => by
  have : ∀ k, k ≤ q → absorb s (a ++ b) k = absorb s a k := by
   intro k
   induction k with
   | zero => intro _; rfl
   | succ k ih =>
    intro hk
    rw [absorb, absorb, ih (by omega), List.drop_append_of_le_length (by omega), List.take_append_of_le_length (by rw [List.length_drop]; omega)]
  exact this q (Nat.le_refl _)
 | r + 1 => by
  rw [← Nat.add_assoc, absorb, absorb_append s a b q ha r, absorb]
  congr 3
  rw [show 64 * (q + r) = a.length + 64 * r by omega, List.drop_append, List.drop_eq_nil_of_le (by omega), List.nil_append, Nat.add_sub_cancel_left]
end Sha
namespace Go.Proofs.YtgcmddaibnimjaaGreatDoor
open Go.RowKit Go.Eng
open Sha
def S0 : S8 := ⟨H0.getD 0 0, H0.getD 1 0, H0.getD 2 0, H0.getD 3 0, H0.getD 4 0, H0.getD 5 0, H0.getD 6 0, H0.getD 7 0⟩
def digest (bs : List Int) : List Int := outB (absorb S0 (padded bs) ((padded bs).length / 64))
theorem S0_l : S0.l = H0 := by decide +kernel
def ob8 (t : S8) (i : Nat) : List Int := (outB t).take i ++ List.replicate (32 - i) 0
theorem outB_len (t : S8) : (outB t).length = 32 := by simp [outB]
theorem ob8_len (t : S8) {i : Nat} (h : i ≤ 32) : (ob8 t i).length = 32 := by
 rw [ob8, List.length_append, List.length_take, outB_len, List.length_replicate]; omega
theorem ob8_succ (t : S8) {i : Nat} (h : i < 32) : (ob8 t i).set i (IntKind.u8.wrap (shrI .u32 (t.l.getD (i / 4) 0) (24 - 8 * (i % 4)))) = ob8 t (i + 1) := by
 have hl : ((outB t).take i).length = i := by rw [List.length_take, outB_len]; omega
 rw [ob8, ob8, List.set_append_right _ _ (by omega), hl, Nat.sub_self, show 32 - i = (32 - (i + 1)) + 1 by omega, List.replicate_succ, List.take_succ_eq_append_getElem (by rw [outB_len]; exact h), List.append_assoc]
 simp [outB]
theorem setO {G : List Int} {k : Nat} {x : Int} (h : k < G.length) : putl (G.flatMap encU8) (0 + k * 1) (cellsOf (.int .u8 x)) = (G.set k x).flatMap encU8 := by
 rw [flatU8, flatU8, Nat.zero_add, Nat.mul_one]
 refine List.ext_getElem? fun i => ?_
 rw [(putl_get _ _ _ (by show k + 1 ≤ _; simp; omega)).2 i]
 show (if k ≤ i ∧ i < k + 1 then [Value.int .u8 x][i - k]? else _) = _
 rw [List.getElem?_map, List.getElem?_map, List.getElem?_set]
 by_cases hik : k = i
 ·subst hik; simp [h]
 ·rw [if_neg (by omega), if_neg hik]
end Go.Proofs.YtgcmddaibnimjaaGreatDoor
namespace Go.Proofs.YtgcmddaibnimjaaGreatDoor
open Go.RowKit Go.Eng
theorem fi196_0 : FieldIs Tryz.prog 196 0 0 := fieldIs (z := 7) Tryz.underlying196 rfl rfl rfl Tryz.sizeOf192
theorem fi196_1 : FieldIs Tryz.prog 196 1 8 := fieldIs (z := 0) Tryz.underlying196 rfl rfl rfl Tryz.sizeOf61
theorem fi196_2 : FieldIs Tryz.prog 196 2 9 := fieldIs (z := 0) Tryz.underlying196 rfl rfl rfl Tryz.sizeOf194
open Sha
theorem le_step64 {a b k : Nat} (h1 : a = b - 64 * k) (h2 : 64 ≤ a) : 64 * (k + 1) ≤ b := by omega
theorem _root_.Go.Eng.ow_sl {α : Type} {w : World} {e z n c : Nat} {enc : α → List Value} {A : Option Addr} {ys : List α} (h : (ow e z (.slice A n c) n (ys.flatMap enc)).ok w) (hz : ∀ x, (enc x).length = z) (hzp : 0 < z) : Sl w z enc A ys := fun hne => by
 obtain ⟨A_, c_, hv, h1, h2, h3, h4⟩ := h
 cases hv
 rcases h4 with ⟨rfl, rfl⟩ | ⟨g, off, cur, fr, rfl, hg, hfr, hcur, hxs⟩
 ·have hn0 : n = 0 := by omega
  subst hn0
  rw [flat_len hz, Nat.zero_mul] at h1
  have h0 : ys.length = 0 := by
   rcases Nat.eq_zero_or_pos ys.length with h | h
   ·exact h
   ·have := Nat.mul_pos h hzp; omega
  exact absurd (List.eq_nil_of_length_eq_zero h0) hne
 ·refine ⟨g, off, rfl, (Array.getElem?_eq_some_iff.1 hg).1, fun j x hj i u hu => ?_⟩
  have := hxs _ _ (get_flat hz ys j x i u hj hu)
  rw [← Nat.add_assoc] at this
  simpa [World.cell?, hg] using this
section
variable {P : Program} {w : World} {l : List (Nat × Value)} {o : Oper}
theorem _root_.Go.Eng.y_sll {N t e z lo : Nat} {x xl : Operand} {A : Option Addr} {n' c : Nat} {k : IntKind} {i : Int} (ho : o.op = .slice t x (some xl) none none) (hx : evl l x = some (.slice A n' c)) (hh : evl l xl = some (.int k i)) (hu : P.underlying t = some (.slice e)) (hz : ∀ w, (Go.sizeOf e).run P w = .ok z w)
  (hi : i = (lo : Int)) (hN : n' - lo = N) (hn : lo ≤ n') (hc : n' ≤ c) : Yl P o l w (.slice (if c = lo then A else A.map (·.add (lo * z))) N (c - lo)) w := fun n a F => by
 subst hN hi
 have e2 : (0 : Int) ≤ lo ∧ (lo : Int) ≤ (n' : Int) := by omega
 simp [execOp, ho, F.ev hx, F.ev hh, Instr.sliceAt, Instr.slice, Instr.sliceBounds, Instr.sliceBound, asIntOf, underlying, hu, hz, program, Sem.run, hc, e2, hn]
end
theorem f90_c {w0 W0 : World} {hb : Nat} {mr : Res} {A : Option Addr} {c : Nat} {N : Int} (s : S8) (buf : List Int) (sg : ByteArray) (S : St w0 W0 [bk hb 196 (s.l.flatMap encU32 ++ [Value.slice A (buf).length c, Value.int .u64 N]), ow 5 1 (.slice A (buf).length c) (buf).length ((buf).flatMap encU8), mr]) (hr : ∀ b ∈ buf, 0 ≤ b ∧ b < 256) (hbl : buf.length ≤ 1000) (hs : sg.size ≤ 1000000) :
  Calls Tryz.prog 90 [.pointer (some ⟨hb, 0, none⟩), .string sg].toArray W0 (Ret fun v W' => ∃ A' c', St w0 W' [bk hb 196 ((absorb s (buf ++ bI sg) ((buf ++ bI sg).length / 64)).l.flatMap encU32 ++ [Value.slice A' ((buf ++ bI sg).drop (64 * ((buf ++ bI sg).length / 64))).length c', Value.int .u64 (IntKind.u64.wrap (N + IntKind.u64.wrap (sg.size : Int)))]), ow 5 1 (.slice A' ((buf ++ bI sg).drop (64 * ((buf ++ bI sg).length / 64))).length c') ((buf ++ bI sg).drop (64 * ((buf ++ bI sg).length / 64))).length (((buf ++ bI sg).drop (64 * ((buf ++ bI sg).length / 64))).flatMap encU8), mr]) := by
 refine ent Tryz.func90 Tryz.ntmps90 rfl rfl ?_
 intro a F
 refine sq fun K1 hK1 => ?_
 refine sq fun K2 hK2 => ?_
 refine rg ?_
 refine dv F (y_mv rfl rfl) rfl rfl rfl fun a F => ?_
 refine dv F (y_pn rfl rfl rfl Tryz.underlying158) rfl rfl rfl fun a F => ?_
 refine dn ?_
 refine tn <| hK2 _ _ ?_
 refine cf F rfl rfl ?_
 refine wp_skip ?_
 refine tn <| hK1 _ _ ?_
 refine sq fun K3 hK3 => ?_
 refine rg ?_
 refine dv F (y_mv rfl rfl) rfl rfl rfl fun a F => ?_
 refine dv F (y_nc rfl rfl) rfl rfl rfl fun a F => ?_
 refine dv F (y_fa rfl rfl fi196_2) rfl rfl rfl fun a F => ?_
 refine dv F (y_ld rfl rfl (S.ld (i := 0) rfl rfl Tryz.isAgg194)) rfl rfl rfl fun a F => ?_
 refine dv F (y_mv rfl rfl) rfl rfl rfl fun a F => ?_
 refine dv F (y_ls rfl rfl Tryz.underlying9) rfl rfl rfl fun a F => ?_
 refine dv F (y_cvt rfl rfl ⟨_, Tryz.underlying3⟩ Tryz.underlying194) rfl rfl rfl fun a F => ?_
 refine dv F (y_wa rfl rfl rfl) rfl rfl rfl fun a F => ?_
 refine dv F (y_nc rfl rfl) rfl rfl rfl fun a F => ?_
 refine dv F (y_fa rfl rfl fi196_2) rfl rfl rfl fun a F => ?_
 refine dst F S rfl rfl rfl Tryz.sizeOf194 (i := 0) rfl rfl (show _ ≤ 10 by decide) one1 rfl rfl fun a w F S => ?_
 refine dn ?_
 refine tn <| hK3 _ _ ?_
 refine sq fun K4 hK4 => ?_
 refine rg ?_
 refine dv F (y_mv rfl rfl) rfl rfl rfl fun a F => ?_
 refine dv F (y_mv rfl rfl) rfl rfl rfl fun a F => ?_
 refine dv F (y_nc rfl rfl) rfl rfl rfl fun a F => ?_
 refine dv F (y_fa rfl rfl fi196_1) rfl rfl rfl fun a F => ?_
 refine dv F (y_ld rfl rfl (S.ld (i := 0) rfl rfl Tryz.isAgg61)) rfl rfl rfl fun a F => ?_
 refine dv F (y_mv rfl rfl) rfl rfl rfl fun a F => ?_
 refine das F S rfl rfl rfl (i := 1) rfl Tryz.underlying61 Tryz.underlying9 (by kernel_rfl : AI Tryz.prog 5 1 1 = true) (N := (buf ++ bI sg).length) (XS := (buf ++ bI sg).flatMap encU8) (by rw [List.length_append, bI_len]) (by rw [List.flatMap_append, bI_byte]) (by rw [List.length_append, bI_len]; omega) (by rw [List.length_append, bI_len]; omega) rfl rfl rfl fun a w A1 c1 F S => ?_
 refine dv F (y_nc rfl rfl) rfl rfl rfl fun a F => ?_
 refine dv F (y_fa rfl rfl fi196_1) rfl rfl rfl fun a F => ?_
 refine dst F S rfl rfl rfl Tryz.sizeOf61 (i := 0) rfl rfl (show _ ≤ 10 by decide) one1 rfl rfl fun a w F S => ?_
 refine dn ?_
 refine tn <| hK4 _ _ ?_
 refine bl ?_
 refine lp (fun m a w => ∃ (k : Nat) (A3 : Option Addr) (c3 : Nat), m = (buf ++ bI sg).length / 64 - k ∧ (64 * k ≤ (buf ++ bI sg).length) ∧ Fr 48 a [(0, .pointer (some ⟨hb, 0, none⟩)), (1, .string sg)] ∧ St w0 w [bk hb 196 ((absorb s (buf ++ bI sg) k).l.flatMap encU32 ++ [Value.slice A3 ((buf ++ bI sg).drop (64 * k)).length c3, Value.int .u64 (IntKind.u64.wrap (N + IntKind.u64.wrap (sg.size : Int)))]), ow 5 1 (.slice A3 ((buf ++ bI sg).drop (64 * k)).length c3) ((buf ++ bI sg).drop (64 * k)).length (((buf ++ bI sg).drop (64 * k)).flatMap encU8), mr]) ((buf ++ bI sg).length / 64) ?_ ?_
 ·exact ⟨0, _, _, rfl, Nat.zero_le _, F.sub _ ⟨rfl, rfl, trivial⟩, S.pick [0, 1, 2] _ ⟨rfl, rfl, rfl, trivial⟩ rfl⟩
 ·rintro m a w ⟨k, A3, c3, hm, hk, F, S⟩
  have hXr : ∀ b ∈ (buf ++ bI sg), 0 ≤ b ∧ b < 256 := fun b hb => (List.mem_append.1 hb).elim (hr b) (bI_range sg b)
  have hdl : ((buf ++ bI sg).drop (64 * k)).length = (buf ++ bI sg).length - 64 * k := List.length_drop ..
  obtain ⟨_, _, hv_, _, hcP, _⟩ := S.ok (i := 1) rfl
  cases hv_
  refine sq fun K5 hK5 => ?_
  refine sq fun K6 hK6 => ?_
  refine rg ?_
  refine dv F (y_mv rfl rfl) rfl rfl rfl fun a F => ?_
  refine dv F (y_nc rfl rfl) rfl rfl rfl fun a F => ?_
  refine dv F (y_fa rfl rfl fi196_1) rfl rfl rfl fun a F => ?_
  refine dv F (y_ld rfl rfl (S.ld (i := 0) rfl rfl Tryz.isAgg61)) rfl rfl rfl fun a F => ?_
  refine dv F (y_ln rfl rfl Tryz.underlying61) rfl rfl rfl fun a F => ?_
  refine dv F (y_ge rfl rfl rfl) rfl rfl rfl fun a F => ?_
  refine dn ?_
  refine tn <| hK6 _ _ ?_
  refine cd F rfl (fun h1 => ?_) (fun h1 => ?_)
  ·refine wp_skip ?_
   refine tn <| hK5 _ _ ?_
   refine bl ?_
   refine sq fun K7 hK7 => ?_
   have hq : ((((buf ++ bI sg).drop (64 * k)).take 64)).length = 64 := by rw [List.length_take, hdl]; omega
   refine rp [.p, .p, .p, .p, .p, .p, .p, .p] 8 [[], [0], [0, 1], [], [3], [3, 4], [3, 4, 5], [3, 4, 5, 6]] [(0, _), (1, _), (25, _), (26, _), (27, _), (28, _), (29, _), (30, _)] F ⟨rfl, rfl, rfl, rfl, rfl, rfl, rfl, rfl, trivial⟩ Tryz.mixed (by kernel_rfl) rfl (.inr ⟨by decide, by kernel_rfl, by kernel_rfl⟩) (by kernel_rfl) ⟨?_, ?_, ?_, ?_, ?_, ?_, ?_, ?_, trivial⟩ fun a w1 J => ?_
   ·intro a w1 hB F hA
    have S0 := S
    replace S := S.call hB
    exact pv F (fun w2 hB2 => have S := S.call hB2; y_mv rfl rfl) rfl rfl rfl (by decide)
   ·intro a w1 hB F hA
    have S0 := S
    replace S := S.call hB
    replace F := F.eP (hA 0 (by decide)) rfl (d := 31) rfl rfl (y_mv rfl rfl)
    exact pv F (fun w2 hB2 => have S := S.call hB2; y_nc rfl rfl) rfl rfl rfl (by decide)
   ·intro a w1 hB F hA
    have S0 := S
    replace S := S.call hB
    replace F := F.eP (hA 0 (by decide)) rfl (d := 31) rfl rfl (y_mv rfl rfl)
    replace F := F.eP (hA 1 (by decide)) rfl (d := 32) rfl rfl (y_nc rfl rfl)
    exact pv F (fun w2 hB2 => have S := S.call hB2; y_fa rfl rfl fi196_0) rfl rfl rfl (by decide)
   ·intro a w1 hB F hA
    have S0 := S
    replace S := S.call hB
    exact pv F (fun w2 hB2 => have S := S.call hB2; y_mv rfl rfl) rfl rfl rfl (by decide)
   ·intro a w1 hB F hA
    have S0 := S
    replace S := S.call hB
    replace F := F.eP (hA 3 (by decide)) rfl (d := 34) rfl rfl (y_mv rfl rfl)
    exact pv F (fun w2 hB2 => have S := S.call hB2; y_nc rfl rfl) rfl rfl rfl (by decide)
   ·intro a w1 hB F hA
    have S0 := S
    replace S := S.call hB
    replace F := F.eP (hA 3 (by decide)) rfl (d := 34) rfl rfl (y_mv rfl rfl)
    replace F := F.eP (hA 4 (by decide)) rfl (d := 35) rfl rfl (y_nc rfl rfl)
    exact pv F (fun w2 hB2 => have S := S.call hB2; y_fa rfl rfl fi196_1) rfl rfl rfl (by decide)
   ·intro a w1 hB F hA
    have S0 := S
    replace S := S.call hB
    replace F := F.eP (hA 3 (by decide)) rfl (d := 34) rfl rfl (y_mv rfl rfl)
    replace F := F.eP (hA 4 (by decide)) rfl (d := 35) rfl rfl (y_nc rfl rfl)
    replace F := F.eP (hA 5 (by decide)) rfl (d := 36) rfl rfl (y_fa rfl rfl fi196_1)
    exact pv F (fun w2 hB2 => have S := S.call hB2; y_ld rfl rfl (S.ld (i := 0) rfl rfl Tryz.isAgg61)) rfl rfl rfl (by decide)
   ·intro a w1 hB F hA
    have S0 := S
    replace S := S.call hB
    replace F := F.eP (hA 3 (by decide)) rfl (d := 34) rfl rfl (y_mv rfl rfl)
    replace F := F.eP (hA 4 (by decide)) rfl (d := 35) rfl rfl (y_nc rfl rfl)
    replace F := F.eP (hA 5 (by decide)) rfl (d := 36) rfl rfl (y_fa rfl rfl fi196_1)
    replace F := F.eP (hA 6 (by decide)) rfl (d := 37) rfl rfl (y_ld rfl rfl (S.ld (i := 0) rfl rfl Tryz.isAgg61))
    exact pv F (fun w2 hB2 => have S := S.call hB2; y_slh (m := ((((buf ++ bI sg).drop (64 * k)).take 64)).length) rfl rfl rfl Tryz.underlying61 Tryz.sizeOf5 (by rw [hq]; rfl) (by omega)) rfl rfl rfl (by decide)
   have F := J.fr
   have E := EX.start J S
   have hle := S.bel.size
   replace S := S.call J.bel
   replace F := F.eP (J.at 0 rfl) rfl (d := 31) rfl rfl (y_mv rfl rfl)
   replace F := F.eP (J.at 1 rfl) rfl (d := 32) rfl rfl (y_nc rfl rfl)
   replace F := F.eP (J.at 2 rfl) rfl (d := 33) rfl rfl (y_fa rfl rfl fi196_0)
   replace F := F.eP (J.at 3 rfl) rfl (d := 34) rfl rfl (y_mv rfl rfl)
   replace F := F.eP (J.at 4 rfl) rfl (d := 35) rfl rfl (y_nc rfl rfl)
   replace F := F.eP (J.at 5 rfl) rfl (d := 36) rfl rfl (y_fa rfl rfl fi196_1)
   replace F := F.eP (J.at 6 rfl) rfl (d := 37) rfl rfl (y_ld rfl rfl (S.ld (i := 0) rfl rfl Tryz.isAgg61))
   replace F := F.eP (J.at 7 rfl) rfl (d := 38) rfl rfl (y_slh (m := ((((buf ++ bI sg).drop (64 * k)).take 64)).length) rfl rfl rfl Tryz.underlying61 Tryz.sizeOf5 (by rw [hq]; rfl) (by omega))
   replace S := E.st
   clear E J
   refine dc F (c_f rfl rfl rfl Tryz.call130) rfl rfl rfl (f130_c (absorb s (buf ++ bI sg) k) (((buf ++ bI sg).drop (64 * k)).take 64) S.pack (fun w h => (ow_sl (h 0 _ rfl) lenU8 (by decide)).take 64) hq (fun b hb => hXr b (List.mem_of_mem_drop (List.mem_of_mem_take hb)))) fun a v w' hr F => ?_
   obtain _ := hr
   replace S := Go.Eng.St.unpack hr S
   refine dn ?_
   refine tn <| hK7 _ _ ?_
   refine rg ?_
   refine dv F (y_mv rfl rfl) rfl rfl rfl fun a F => ?_
   refine dv F (y_mv rfl rfl) rfl rfl rfl fun a F => ?_
   refine dv F (y_nc rfl rfl) rfl rfl rfl fun a F => ?_
   refine dv F (y_fa rfl rfl fi196_1) rfl rfl rfl fun a F => ?_
   refine dv F (y_ld rfl rfl (S.ld (i := 0) rfl rfl Tryz.isAgg61)) rfl rfl rfl fun a F => ?_
   refine dv F (y_sll (lo := 64) (N := ((buf ++ bI sg).drop (64 * (k + 1))).length) rfl rfl rfl Tryz.underlying61 Tryz.sizeOf5 rfl (by rw [List.length_drop, List.length_drop]; omega) (by omega) (by omega)) rfl rfl rfl fun a F => ?_
   refine dv F (y_nc rfl rfl) rfl rfl rfl fun a F => ?_
   refine dv F (y_fa rfl rfl fi196_1) rfl rfl rfl fun a F => ?_
   refine dst F S rfl rfl rfl Tryz.sizeOf61 (i := 0) rfl rfl (show _ ≤ 10 by decide) one1 rfl rfl fun a w F S => ?_
   refine dn ?_
   have hcd : 64 ≤ ((buf ++ bI sg).drop (64 * k)).length := by omega
   have hk1 : 64 * (k + 1) ≤ (buf ++ bI sg).length := le_step64 hdl hcd
   replace S := ow_drop S (i := 1) (m := 64) rfl hcd
   rw [show ((buf ++ bI sg).drop (64 * k)).length - 64 = ((buf ++ bI sg).drop (64 * (k + 1))).length by rw [hdl, List.length_drop]; omega, show (((buf ++ bI sg).drop (64 * k)).flatMap encU8).drop (64 * 1) = ((buf ++ bI sg).drop (64 * (k + 1))).flatMap encU8 by rw [flatU8, flatU8, ← List.map_drop, List.drop_drop, Nat.mul_add]] at S
   exact bn <| ln (by omega) ⟨k + 1, _, _, rfl, hk1, F.sub _ ⟨rfl, rfl, trivial⟩, S.pick [0, 1, 2] _ ⟨rfl, rfl, rfl, trivial⟩ rfl⟩
  ·refine wp_exit ?_
   refine tx <| lx <| bh <| ?_
   obtain rfl : k = (buf ++ bI sg).length / 64 := by omega
   exact rn0 F rfl ⟨A3, c3, S⟩
end Go.Proofs.YtgcmddaibnimjaaGreatDoor
namespace Go.Proofs.YtgcmddaibnimjaaGreatDoor
open Go.RowKit Go.Eng
open Sha
def mkB (xs : List Int) : ByteArray := ⟨(xs.map fun n => UInt8.ofNat n.toNat).toArray⟩
theorem fold_mkB : ∀ (xs : List Int) (r : ByteArray), xs.foldl (fun r n => r.push (UInt8.ofNat n.toNat)) r = ⟨r.data ++ (xs.map fun n => UInt8.ofNat n.toNat).toArray⟩
 | [], r => by simp
 | x :: xs, r => by
  rw [List.foldl_cons, fold_mkB xs]
  simp [ByteArray.push]
theorem bI_mkB {xs : List Int} (h : ∀ b ∈ xs, 0 ≤ b ∧ b < 256) : bI (mkB xs) = xs := by
 rw [bI, mkB]
 simp only [List.map_map]
 refine (List.map_congr_left fun n hn => ?_).trans (List.map_id _)
 have := h n hn
 simp only [Function.comp, id]
 rw [UInt8.toNat_ofNat_of_lt' (by simp; omega)]
 omega
theorem _root_.Go.Eng.y_cbs {P : Program} {w : World} {l : List (Nat × Value)} {o : Oper} {sr ds e c : Nat} {x : Operand} {A : Option Addr} {xs : List Int} (ho : o.op = .convert sr ds x) (hx : evl l x = some (.slice A xs.length c)) (hs : P.underlying sr = some (.slice e)) (he : P.underlying e = some (.int .u8)) (hd : P.underlying ds = some .string)
  (h : Sl w 1 encU8 A xs) : Yl P o l w (.string (mkB xs)) w := fun n a F => by
 have hr := run_convert_bytes_string w sr ds e A xs.length c hs he hd
 have hb : (Conv.bytesToString (.slice A xs.length c)).run P w = .ok (.string (mkB xs)) w := by
  cases A with
  | none =>
   have : xs = [] := by
    rcases xs with _ | ⟨y, ys⟩
    ·rfl
    ·obtain ⟨b, o, e, _⟩ := h (by simp); cases e
   subst this
   rfl
  | some p =>
   have hl : (loadCells p xs.length).run P w = .ok (xs.map (Value.int .u8)).toArray w := by
    rcases p with ⟨b, off, q⟩
    by_cases hne : xs = []
    ·subst hne; rfl
    ·obtain ⟨b', o', e', _, hc⟩ := h hne
     cases e'
     have := Go.Eng.run_loadCells (P := P) (xs.map (Value.int .u8)) off 0 #[] w (b := b) (fun j v hv => by
      rw [List.getElem?_map] at hv
      obtain ⟨y, hy, rfl⟩ := Option.map_eq_some_iff.1 hv
      obtain ⟨hj, rfl⟩ := List.getElem?_eq_some_iff.1 hy
      have := hc j xs[j] (List.getElem?_eq_getElem hj) 0 _ rfl
      simpa using this)
     simpa [loadCells] using this
   rw [run_bytesToString w p xs.length c xs hl, fold_mkB]
   simp [mkB, ByteArray.empty, ByteArray.emptyWithCapacity]
   try rfl
 simp [execOp, ho, F.ev hx, hr, hb]
def tailOf (buf : List Int) (N : Int) : List Int := buf ++ 128 :: List.replicate (zpad buf.length) 0 ++ (List.range 8).map fun j => lb (IntKind.u64.wrap (8 * N)) (7 - j)
theorem tailOf_mod (buf : List Int) (N : Int) : (tailOf buf N).length % 64 = 0 := by
 simp [tailOf]; simp only [zpad]; omega
theorem tailOf_range {buf : List Int} (N : Int) (h : ∀ b ∈ buf, 0 ≤ b ∧ b < 256) : ∀ b ∈ tailOf buf N, 0 ≤ b ∧ b < 256 := by
 intro b hb
 simp only [tailOf, List.mem_append, List.mem_cons, List.mem_map] at hb
 rcases hb with (hb | rfl | hb) | ⟨j, _, rfl⟩
 ·exact h b hb
 ·decide
 ·rw [List.eq_of_mem_replicate hb]; decide
 ·rw [lb, IntKind.wrap_u8]; omega
theorem f91_c {w0 W0 : World} {hb : Nat} {mr : Res} {A : Option Addr} {c : Nat} {N : Int} (s : S8) (buf : List Int) (S : St w0 W0 [bk hb 196 (s.l.flatMap encU32 ++ [Value.slice A (buf).length c, Value.int .u64 N]), ow 5 1 (.slice A (buf).length c) (buf).length ((buf).flatMap encU8), mr]) (hr : ∀ b ∈ buf, 0 ≤ b ∧ b < 256) (hbl : buf.length < 64) :
  Calls Tryz.prog 91 [.pointer (some ⟨hb, 0, none⟩)].toArray W0 (Ret fun v W' => v = .agg ((outB (absorb s (tailOf buf N) ((tailOf buf N).length / 64))).map (Value.int .u8)).toArray ∧ St w0 W' [bk hb 196 (s.l.flatMap encU32 ++ [Value.slice A (buf).length c, Value.int .u64 N]), ow 5 1 (.slice A (buf).length c) (buf).length ((buf).flatMap encU8), mr]) := by
 refine ent Tryz.func91 Tryz.ntmps91 rfl rfl ?_
 intro a F
 refine sq fun K1 hK1 => ?_
 refine rg ?_
 refine dal F S rfl Tryz.zeroValue50 rfl rfl rfl rfl fun a w b2 F S => ?_
 refine dn ?_
 refine tn <| hK1 _ _ ?_
 refine sq fun K2 hK2 => ?_
 refine sq fun K3 hK3 => ?_
 refine rg ?_
 refine dv F (y_mv rfl rfl) rfl rfl rfl fun a F => ?_
 refine dv F (y_pn rfl rfl rfl Tryz.underlying158) rfl rfl rfl fun a F => ?_
 refine dn ?_
 refine tn <| hK3 _ _ ?_
 refine cf F rfl rfl ?_
 refine wp_skip ?_
 refine tn <| hK2 _ _ ?_
 refine sq fun K4 hK4 => ?_
 refine rg ?_
 refine dv F (y_mv rfl rfl) rfl rfl rfl fun a F => ?_
 refine dv F (y_nc rfl rfl) rfl rfl rfl fun a F => ?_
 refine dv F (y_fa rfl rfl fi196_0) rfl rfl rfl fun a F => ?_
 refine dv F (y_ld rfl rfl (ldS8 S (i := 0) rfl)) rfl rfl rfl fun a F => ?_
 refine dal F S rfl Tryz.zeroValue192 rfl rfl rfl rfl fun a w b3 F S => ?_
 refine dsw F S rfl rfl rfl Tryz.sizeOf192 (i := 4) rfl rfl rfl rfl (allflat one_U32 _) rfl rfl fun a w F S => ?_
 refine dn ?_
 refine tn <| hK4 _ _ ?_
 refine sq fun K5 hK5 => ?_
 have hmb := bI_mkB hr
 refine rg ?_
 refine dv F (y_mv rfl rfl) rfl rfl rfl fun a F => ?_
 refine dv F (y_nc rfl rfl) rfl rfl rfl fun a F => ?_
 refine dv F (y_fa rfl rfl fi196_1) rfl rfl rfl fun a F => ?_
 refine dv F (y_ld rfl rfl (S.ld (i := 0) rfl rfl Tryz.isAgg61)) rfl rfl rfl fun a F => ?_
 refine dv F (y_cbs rfl rfl Tryz.underlying61 Tryz.underlying5 Tryz.underlying9 (S.ows (i := 1) rfl lenU8 (by decide))) rfl rfl rfl fun a F => ?_
 refine dcb F S rfl rfl Tryz.underlying9 Tryz.underlying61 Tryz.underlying5 (by rw [← bI_len, hmb]; omega) rfl rfl rfl fun a w A1 c1 F S => ?_
 rw [hmb] at F S
 refine dbs F S rfl rfl bs87 rfl rfl rfl fun a w b22 F S => ?_
 refine dap F S rfl rfl rfl (i := 5) rfl (S.fl (i := 6) rfl) rfl one1 Tryz.underlying61 (by kernel_rfl : AI Tryz.prog 5 1 1 = true) rfl (N := (buf ++ 128 :: List.replicate 0 0).length) (XS := (buf ++ 128 :: List.replicate 0 0).flatMap encU8) (by simp) (by simp [encU8]) (by simp; omega) (by simp; omega) rfl rfl rfl fun a w A2 c2 F S => ?_
 refine dv F (y_as rfl rfl) rfl rfl rfl fun a F => ?_
 refine dn ?_
 refine tn <| hK5 _ _ ?_
 refine sq fun K6 hK6 => ?_
 refine bl ?_
 refine lp (fun m a w => ∃ (z : Nat) (A3 : Option Addr) (c3 : Nat), m = zpad buf.length - z ∧ (z ≤ zpad buf.length) ∧ Fr 71 a [(0, .pointer (some ⟨hb, 0, none⟩)), (2, .pointer (some ⟨b2, 0, none⟩)), (3, .pointer (some ⟨b3, 0, none⟩)), (4, .slice A3 (buf ++ 128 :: List.replicate z 0).length c3)] ∧ St w0 w [bk b3 192 (s.l.flatMap encU32 ++ []), bk hb 196 (s.l.flatMap encU32 ++ [Value.slice A (buf).length c, Value.int .u64 N]), ow 5 1 (.slice A (buf).length c) (buf).length ((buf).flatMap encU8), mr, bk b2 50 (encD dig0), ow 5 1 (.slice A3 (buf ++ 128 :: List.replicate z 0).length c3) (buf ++ 128 :: List.replicate z 0).length ((buf ++ 128 :: List.replicate z 0).flatMap encU8)]) (zpad buf.length) ?_ ?_
 ·exact ⟨0, _, _, rfl, Nat.zero_le _, F.sub _ ⟨rfl, rfl, rfl, rfl, trivial⟩, S.pick [4, 0, 1, 2, 3, 5] _ ⟨rfl, rfl, rfl, rfl, rfl, rfl, trivial⟩ rfl⟩
 ·rintro m a w ⟨z, A3, c3, hm, hz, F, S⟩
  have hlen : (buf ++ 128 :: List.replicate z 0).length = buf.length + 1 + z := by simp; omega
  refine sq fun K7 hK7 => ?_
  refine sq fun K8 hK8 => ?_
  refine rg ?_
  refine dv F (y_mv rfl rfl) rfl rfl rfl fun a F => ?_
  refine dv F (y_ln rfl rfl Tryz.underlying61) rfl rfl rfl fun a F => ?_
  refine dv F (y_rem rfl rfl rfl (by omega)) rfl rfl rfl fun a F => ?_
  refine dv F (y_in rfl rfl rfl) rfl rfl rfl fun a F => ?_
  refine dn ?_
  refine tn <| hK8 _ _ ?_
  refine cb F rfl (fun h1 => ?_) (fun h1 => ?_)
  ·have h2 : (buf.length + 1 + z) % 64 ≠ 56 := by
    intro e
    have h4 : ((buf ++ 128 :: List.replicate z 0).length : Int) % 64 = 56 := by omega
    rw [h4] at h1; cases h1
   have hz63 : zpad buf.length < 64 := Nat.mod_lt _ (by decide)
   refine wp_skip ?_
   refine tn <| hK7 _ _ ?_
   refine bl ?_
   refine rg ?_
   refine dv F (y_mv rfl rfl) rfl rfl rfl fun a F => ?_
   refine dbs F S rfl rfl bs87 rfl rfl rfl fun a w b29 F S => ?_
   refine dap F S rfl rfl rfl (i := 5) rfl (S.fl (i := 6) rfl) rfl one1 Tryz.underlying61 (by kernel_rfl : AI Tryz.prog 5 1 1 = true) rfl (N := (buf ++ 128 :: List.replicate (z + 1) 0).length) (XS := (buf ++ 128 :: List.replicate (z + 1) 0).flatMap encU8) (by simp; omega) (snoc0 _ _ z) (by simp; omega) (by simp; omega) rfl rfl rfl fun a w A4 c4 F S => ?_
   refine dv F (y_as rfl rfl) rfl rfl rfl fun a F => ?_
   refine dn ?_
   exact bn <| ln (by simp only [zpad] at *; omega) ⟨z + 1, _, _, rfl, by simp only [zpad] at *; omega, F.sub _ ⟨rfl, rfl, rfl, rfl, trivial⟩, S.pick [0, 1, 2, 3, 4, 5] _ ⟨rfl, rfl, rfl, rfl, rfl, rfl, trivial⟩ rfl⟩
  ·have h2 : (buf.length + 1 + z) % 64 = 56 := by
    have h4 : ((buf ++ 128 :: List.replicate z 0).length : Int) % 64 = 56 := by simpa using h1
    omega
   refine wp_exit ?_
   refine tx <| lx <| bh <| tn <| hK6 _ _ ?_
   refine sq fun K9 hK9 => ?_
   refine sq fun K10 hK10 => ?_
   obtain rfl : z = zpad buf.length := by simp only [zpad] at *; omega
   have hz63 : zpad buf.length < 64 := Nat.mod_lt _ (by decide)
   clear hlen
   refine rg ?_
   refine dv F (y_as rfl rfl) rfl rfl rfl fun a F => ?_
   refine dn ?_
   refine tn <| hK10 _ _ ?_
   refine bl ?_
   rw [show buf ++ 128 :: List.replicate (zpad buf.length) 0 = buf ++ 128 :: List.replicate (zpad buf.length) 0 ++ (List.range 0).map (fun j => lb (IntKind.u64.wrap (8 * N)) (7 - j)) by simp] at F S
   refine lp (fun m a w => ∃ (k : Nat) (A3 : Option Addr) (c3 : Nat), m = 8 - k ∧ (k ≤ 8) ∧ Fr 71 a [(0, .pointer (some ⟨hb, 0, none⟩)), (2, .pointer (some ⟨b2, 0, none⟩)), (3, .pointer (some ⟨b3, 0, none⟩)), (4, .slice A3 (buf ++ 128 :: List.replicate (zpad buf.length) 0 ++ (List.range k).map (fun j => lb (IntKind.u64.wrap (8 * N)) (7 - j))).length c3), (5, .int .i64 (56 - 8 * (k : Int)))] ∧ St w0 w [bk b3 192 (s.l.flatMap encU32 ++ []), bk hb 196 (s.l.flatMap encU32 ++ [Value.slice A (buf).length c, Value.int .u64 N]), ow 5 1 (.slice A (buf).length c) (buf).length ((buf).flatMap encU8), mr, bk b2 50 (encD dig0), ow 5 1 (.slice A3 (buf ++ 128 :: List.replicate (zpad buf.length) 0 ++ (List.range k).map (fun j => lb (IntKind.u64.wrap (8 * N)) (7 - j))).length c3) (buf ++ 128 :: List.replicate (zpad buf.length) 0 ++ (List.range k).map (fun j => lb (IntKind.u64.wrap (8 * N)) (7 - j))).length ((buf ++ 128 :: List.replicate (zpad buf.length) 0 ++ (List.range k).map (fun j => lb (IntKind.u64.wrap (8 * N)) (7 - j))).flatMap encU8)]) (8) ?_ ?_
   ·exact ⟨0, _, _, rfl, Nat.zero_le _, F.sub _ ⟨rfl, rfl, rfl, rfl, rfl, trivial⟩, S.pick [0, 1, 2, 3, 4, 5] _ ⟨rfl, rfl, rfl, rfl, rfl, rfl, trivial⟩ rfl⟩
   ·rintro m a w ⟨k, A3, c3, hm, hk, F, S⟩
    refine sq fun K11 hK11 => ?_
    refine sq fun K12 hK12 => ?_
    refine rg ?_
    refine dv F (y_mv rfl rfl) rfl rfl rfl fun a F => ?_
    refine dv F (y_ge rfl rfl rfl) rfl rfl rfl fun a F => ?_
    refine dn ?_
    refine tn <| hK12 _ _ ?_
    refine cd F rfl (fun h3 => ?_) (fun h3 => ?_)
    ·refine wp_skip ?_
     refine tn <| hK11 _ _ ?_
     refine sq fun K13 hK13 => ?_
     refine bl ?_
     refine rg ?_
     refine dv F (y_mv rfl rfl) rfl rfl rfl fun a F => ?_
     refine dv F (y_mv rfl rfl) rfl rfl rfl fun a F => ?_
     refine dv F (y_nc rfl rfl) rfl rfl rfl fun a F => ?_
     refine dv F (y_fa rfl rfl fi196_2) rfl rfl rfl fun a F => ?_
     refine dv F (y_ld rfl rfl (S.ld (i := 1) rfl rfl Tryz.isAgg194)) rfl rfl rfl fun a F => ?_
     refine dv F (y_wm rfl rfl rfl) rfl rfl rfl fun a F => ?_
     refine dv F (y_mv rfl rfl) rfl rfl rfl fun a F => ?_
     refine dv F (y_shr (m := 8 * (7 - k)) rfl rfl rfl (by omega)) rfl rfl rfl fun a F => ?_
     refine dv F (y_cvt rfl rfl ⟨_, Tryz.underlying194⟩ Tryz.underlying5) rfl rfl rfl fun a F => ?_
     refine dbs F S rfl rfl bs87 rfl rfl rfl fun a w b44 F S => ?_
     refine dap F S rfl rfl rfl (i := 5) rfl (S.fl (i := 6) rfl) rfl one1 Tryz.underlying61 (by kernel_rfl : AI Tryz.prog 5 1 1 = true) rfl (N := (buf ++ 128 :: List.replicate (zpad buf.length) 0 ++ (List.range (k + 1)).map (fun j => lb (IntKind.u64.wrap (8 * N)) (7 - j))).length) (XS := (buf ++ 128 :: List.replicate (zpad buf.length) 0 ++ (List.range (k + 1)).map (fun j => lb (IntKind.u64.wrap (8 * N)) (7 - j))).flatMap encU8) (by simp; omega) (by rw [List.range_succ]; simp [encU8, lb]) (by simp; omega) (by simp; omega) rfl rfl rfl fun a w A4 c4 F S => ?_
     refine dv F (y_as rfl rfl) rfl rfl rfl fun a F => ?_
     refine dn ?_
     refine bn <| tn <| hK13 _ _ ?_
     refine rg ?_
     refine dv F (y_mv rfl rfl) rfl rfl rfl fun a F => ?_
     refine dv F (y_sub rfl rfl rfl (by omega)) rfl rfl rfl fun a F => ?_
     refine dv F (y_as rfl rfl) rfl rfl rfl fun a F => ?_
     refine dn ?_
     rw [show (56 : Int) - 8 * (k : Int) - 8 = 56 - 8 * ((k + 1 : Nat) : Int) by omega] at F
     exact ln (by omega) ⟨k + 1, _, _, rfl, by omega, F.sub _ ⟨rfl, rfl, rfl, rfl, rfl, trivial⟩, S.pick [0, 1, 2, 3, 4, 5] _ ⟨rfl, rfl, rfl, rfl, rfl, rfl, trivial⟩ rfl⟩
    ·refine wp_exit ?_
     refine tx <| lx <| bh <| tn <| hK9 _ _ ?_
     refine sq fun K14 hK14 => ?_
     refine bl ?_
     obtain rfl : k = 8 := by omega
     have hTm := tailOf_mod buf N
     have hTr := tailOf_range N hr
     refine lp (fun m a w => ∃ (k : Nat) (A3 : Option Addr) (c3 : Nat), m = (tailOf buf N).length / 64 - k ∧ (64 * k ≤ (tailOf buf N).length) ∧ Fr 71 a [(0, .pointer (some ⟨hb, 0, none⟩)), (2, .pointer (some ⟨b2, 0, none⟩)), (3, .pointer (some ⟨b3, 0, none⟩)), (4, .slice A3 ((tailOf buf N).drop (64 * k)).length c3)] ∧ St w0 w [bk b3 192 ((absorb s (tailOf buf N) k).l.flatMap encU32 ++ []), bk hb 196 (s.l.flatMap encU32 ++ [Value.slice A (buf).length c, Value.int .u64 N]), ow 5 1 (.slice A (buf).length c) (buf).length ((buf).flatMap encU8), mr, bk b2 50 (encD dig0), ow 5 1 (.slice A3 (((tailOf buf N).drop (64 * k))).length c3) (((tailOf buf N).drop (64 * k))).length ((((tailOf buf N).drop (64 * k))).flatMap encU8)]) ((tailOf buf N).length / 64) ?_ ?_
     ·exact ⟨0, _, _, rfl, Nat.zero_le _, F.sub _ ⟨rfl, rfl, rfl, rfl, trivial⟩, S.pick [0, 1, 2, 3, 4, 5] _ ⟨rfl, rfl, rfl, rfl, rfl, rfl, trivial⟩ rfl⟩
     ·rintro m a w ⟨k, A3, c3, hm, hk, F, S⟩
      have hdl : (((tailOf buf N).drop (64 * k))).length = (tailOf buf N).length - 64 * k := List.length_drop ..
      obtain ⟨_, _, hv_, _, hcP, _⟩ := S.ok (i := 5) rfl
      cases hv_
      refine sq fun K15 hK15 => ?_
      refine sq fun K16 hK16 => ?_
      refine rg ?_
      refine dv F (y_mv rfl rfl) rfl rfl rfl fun a F => ?_
      refine dv F (y_ln rfl rfl Tryz.underlying61) rfl rfl rfl fun a F => ?_
      refine dv F (y_gt rfl rfl rfl) rfl rfl rfl fun a F => ?_
      refine dn ?_
      refine tn <| hK16 _ _ ?_
      refine cd F rfl (fun h4 => ?_) (fun h4 => ?_)
      ·refine wp_skip ?_
       refine tn <| hK15 _ _ ?_
       refine sq fun K17 hK17 => ?_
       refine bl ?_
       have hq : ((((tailOf buf N).drop (64 * k)).take 64)).length = 64 := by rw [List.length_take, hdl]; omega
       refine rg ?_
       refine dv F (y_mv rfl rfl) rfl rfl rfl fun a F => ?_
       refine dv F (y_slh (m := ((((tailOf buf N).drop (64 * k)).take 64)).length) rfl rfl rfl Tryz.underlying61 Tryz.sizeOf5 (by rw [hq]; rfl) (by omega)) rfl rfl rfl fun a F => ?_
       refine dc F (c_f rfl rfl rfl Tryz.call130) rfl rfl rfl (f130_c (absorb s (tailOf buf N) k) (((tailOf buf N).drop (64 * k)).take 64) S.pack (fun w h => (ow_sl (h 4 _ rfl) lenU8 (by decide)).take 64) hq (fun b hb => hTr b (List.mem_of_mem_drop (List.mem_of_mem_take hb)))) fun a v w' hr F => ?_
       obtain _ := hr
       replace S := Go.Eng.St.unpack hr S
       refine dn ?_
       refine bn <| tn <| hK17 _ _ ?_
       refine rg ?_
       refine dv F (y_mv rfl rfl) rfl rfl rfl fun a F => ?_
       refine dv F (y_sll (lo := 64) (N := ((tailOf buf N).drop (64 * (k + 1))).length) rfl rfl rfl Tryz.underlying61 Tryz.sizeOf5 rfl (by rw [List.length_drop, List.length_drop]; omega) (by omega) (by omega)) rfl rfl rfl fun a F => ?_
       refine dv F (y_as rfl rfl) rfl rfl rfl fun a F => ?_
       refine dn ?_
       have hcd : 64 ≤ (((tailOf buf N).drop (64 * k))).length := by omega
       have hk1 : 64 * (k + 1) ≤ (tailOf buf N).length := le_step64 hdl hcd
       replace S := ow_drop S (i := 5) (m := 64) rfl hcd
       rw [show (((tailOf buf N).drop (64 * k))).length - 64 = ((tailOf buf N).drop (64 * (k + 1))).length by rw [hdl, List.length_drop]; omega, show ((((tailOf buf N).drop (64 * k))).flatMap encU8).drop (64 * 1) = ((tailOf buf N).drop (64 * (k + 1))).flatMap encU8 by rw [flatU8, flatU8, ← List.map_drop, List.drop_drop, Nat.mul_add]] at S
       exact ln (by omega) ⟨k + 1, _, _, rfl, hk1, F.sub _ ⟨rfl, rfl, rfl, rfl, trivial⟩, S.pick [0, 1, 2, 3, 4, 5] _ ⟨rfl, rfl, rfl, rfl, rfl, rfl, trivial⟩ rfl⟩
      ·refine wp_exit ?_
       refine tx <| lx <| bh <| tn <| hK14 _ _ ?_
       refine sq fun K18 hK18 => ?_
       obtain ⟨t, ht⟩ : ∃ t, t = absorb s (tailOf buf N) k := ⟨_, rfl⟩
       rw [← ht] at S
       have hkk : k = (tailOf buf N).length / 64 := by omega
       refine rg ?_
       refine dal F S rfl Tryz.zeroValue50 rfl rfl rfl rfl fun a w b6 F S => ?_
       refine dn ?_
       refine tn <| hK18 _ _ ?_
       refine sq fun K19 hK19 => ?_
       refine sq fun K20 hK20 => ?_
       refine rg ?_
       refine dv F (y_mv rfl rfl) rfl rfl rfl fun a F => ?_
       refine dn ?_
       refine tn <| hK20 _ _ ?_
       refine bl ?_
       refine lp (fun m a w => ∃ i : Nat, m = 32 - i ∧ (i ≤ 32) ∧ Fr 71 a [(0, .pointer (some ⟨hb, 0, none⟩)), (2, .pointer (some ⟨b2, 0, none⟩)), (3, .pointer (some ⟨b3, 0, none⟩)), (6, .pointer (some ⟨b6, 0, none⟩)), (54, .int .i64 (i : Int))] ∧ St w0 w [bk b3 192 (t.l.flatMap encU32 ++ []), bk hb 196 (s.l.flatMap encU32 ++ [Value.slice A (buf).length c, Value.int .u64 N]), ow 5 1 (.slice A (buf).length c) (buf).length ((buf).flatMap encU8), mr, bk b2 50 (encD dig0), bk b6 50 ((ob8 t i).flatMap encU8)]) (32) ?_ ?_
       ·exact ⟨0, rfl, Nat.zero_le _, F.sub _ ⟨rfl, rfl, rfl, rfl, rfl, trivial⟩, S.pick [0, 1, 2, 3, 4, 6] _ ⟨rfl, rfl, rfl, rfl, rfl, rfl, trivial⟩ rfl⟩
       ·rintro m a w ⟨i, hm, hi, F, S⟩
        refine sq fun K21 hK21 => ?_
        refine rg ?_
        refine dv F (y_lt rfl rfl rfl) rfl rfl rfl fun a F => ?_
        refine dn ?_
        refine tn <| hK21 _ _ ?_
        refine sq fun K22 hK22 => ?_
        refine cd F rfl (fun h5 => ?_) (fun h5 => ?_)
        ·refine wp_skip ?_
         refine tn <| hK22 _ _ ?_
         refine sq fun K23 hK23 => ?_
         refine bl ?_
         refine sq fun K24 hK24 => ?_
         refine rg ?_
         refine dv F (y_mv rfl rfl) rfl rfl rfl fun a F => ?_
         refine dv F (y_as rfl rfl) rfl rfl rfl fun a F => ?_
         refine dn ?_
         refine tn <| hK24 _ _ ?_
         have hi2 : i < 32 := by omega
         refine rg ?_
         refine dv F (y_mv rfl rfl) rfl rfl rfl fun a F => ?_
         refine dv F (y_mv rfl rfl) rfl rfl rfl fun a F => ?_
         refine dv F (y_quo rfl rfl rfl (by omega)) rfl rfl rfl fun a F => ?_
         refine dv F (y_ip rfl rfl rfl Tryz.underlying192 Tryz.sizeOf190 (i / 4) (by omega) (by omega)) rfl rfl rfl fun a F => ?_
         refine dv F (y_ld rfl rfl (arrUR (xs := t.l) S (i := 0) rfl Tryz.isAgg190 (j := i / 4) (show i / 4 < 8 by omega))) rfl rfl rfl fun a F => ?_
         refine dv F (y_mv rfl rfl) rfl rfl rfl fun a F => ?_
         refine dv F (y_rem rfl rfl rfl (by omega)) rfl rfl rfl fun a F => ?_
         refine dv F (y_mul rfl rfl rfl (by omega)) rfl rfl rfl fun a F => ?_
         refine dv F (y_sub rfl rfl rfl (by omega)) rfl rfl rfl fun a F => ?_
         refine dv F (y_shr (m := 24 - 8 * (i % 4)) rfl rfl rfl (by omega)) rfl rfl rfl fun a F => ?_
         refine dv F (y_cvt rfl rfl ⟨_, Tryz.underlying190⟩ Tryz.underlying5) rfl rfl rfl fun a F => ?_
         refine dv F (y_ip rfl rfl rfl Tryz.underlying50 Tryz.sizeOf5 i rfl hi2) rfl rfl rfl fun a F => ?_
         refine dst F S rfl rfl rfl Tryz.sizeOf5 (i := 5) rfl rfl (by rw [flat_len lenU8, ob8_len t hi]; omega) one1 rfl rfl fun a w F S => ?_
         rw [setO (by rw [ob8_len t hi]; exact hi2), ob8_succ t hi2] at S
         refine dn ?_
         refine bn <| tn <| hK23 _ _ ?_
         refine rg ?_
         refine dv F (y_add rfl rfl rfl (by omega)) rfl rfl rfl fun a F => ?_
         refine dv F (y_mv rfl rfl) rfl rfl rfl fun a F => ?_
         refine dn ?_
         exact ln (by omega) ⟨i + 1, rfl, by omega, F.sub _ ⟨rfl, rfl, rfl, rfl, rfl, trivial⟩, S.pick [0, 1, 2, 3, 4, 5] _ ⟨rfl, rfl, rfl, rfl, rfl, rfl, trivial⟩ rfl⟩
        ·refine wp_exit ?_
         refine tx <| lx <| bh <| tn <| hK19 _ _ ?_
         refine sq fun K25 hK25 => ?_
         obtain rfl : i = 32 := by omega
         have hO32 : ((ob8 t 32).flatMap encU8).length = 32 := by rw [flat_len lenU8, ob8_len t (by omega)]
         refine rg ?_
         refine dv F (y_ld rfl rfl (S.lda (i := 5) rfl Tryz.isAgg50 Tryz.sizeOf50 hO32)) rfl rfl rfl fun a F => ?_
         refine dsw F S rfl rfl rfl Tryz.sizeOf50 (i := 4) rfl rfl hO32 rfl (allflat one_U8 _) rfl rfl fun a w F S => ?_
         refine dn ?_
         refine tn <| hK25 _ _ ?_
         refine wp_ret ?_
         refine ?_
         exact rc1 F rfl rfl (S.lda (i := 4) rfl Tryz.isAgg50 Tryz.sizeOf50 hO32) ⟨by rw [show ob8 t 32 = outB t by simp [ob8, outB_len, List.take_of_length_le], ht, hkk, ← flatU8]; rfl, S.pick [1, 2, 3] _ ⟨rfl, rfl, rfl, trivial⟩ rfl⟩
end Go.Proofs.YtgcmddaibnimjaaGreatDoor
namespace Go.Proofs.YtgcmddaibnimjaaGreatDoor
open Go.RowKit Go.Eng
def aB : ByteArray := ⟨#[97]⟩
theorem bsB1 {c : Int} (w : World) : (Instr.buildSlice 61 1 [(0, .int .u8 c)].toArray).run Tryz.prog w = .ok (.slice (some ⟨w.heap.size, 0, none⟩) 1 1) (w.alloc (.cells (encU8 c).toArray 5)) := by kernel_rfl
theorem aB1 (c : Int) : aB.size + (mkB [c]).size ≤ 9223372036854775807 := by show (2 : Nat) ≤ _; decide
theorem aB2 (c : Int) : (aB ++ mkB [c]).size + aB.size ≤ 9223372036854775807 := by rw [ByteArray.size_append]; show (3 : Nat) ≤ _; decide
theorem aB3 (c : Int) : (aB ++ mkB [c] ++ aB).size ≤ 1000000 := by rw [ByteArray.size_append, ByteArray.size_append]; show (3 : Nat) ≤ _; decide
def plain (c : Int) : Bool := pMay (aB ++ mkB [c] ++ aB) && !decide (c = 47)
def pp (s : ByteArray) (i : Nat) : Bool := Lib.hasPrefix (s.extract i s.size).data.toList [42, 42]
theorem c_pp (s : ByteArray) (i : Nat) (w : World) : Calls Tryz.prog 211 [.string (s.extract i s.size), .string ⟨#[42, 42]⟩].toArray w (Ret fun v w' => v = .bool (pp s i) ∧ Below w.heap.size w w') := shelf (Tryz.strings_HasPrefix _ _ _)
def gok (s : ByteArray) (i : Nat) : Bool := !((!plain (bt s i) && !decide (bt s i = 63) && !decide (bt s i = 42)) || pp s i)
def gpart (s : ByteArray) : Bool := decide (s = ⟨#[42, 42]⟩) || ((List.range s.size).all (gok s) && decide ((1 : Int) ≤ s.size) && decide ((s.size : Int) ≤ 64) && !decide (s = ⟨#[46]⟩) && !decide (s = ⟨#[46, 46]⟩))
theorem gpart_no {s : ByteArray} {i : Nat} (h : decide (s = ⟨#[42, 42]⟩) = false) (hi : i < s.size) (hg : gok s i = false) : gpart s = false := by
 have : (List.range s.size).all (gok s) = false := by
  rw [List.all_eq_false]; exact ⟨i, List.mem_range.2 hi, by simp [hg]⟩
 simp [gpart, h, this]
theorem gpart_yes {s : ByteArray} (h : ¬ s = ⟨#[42, 42]⟩) (hall : ∀ j, j < s.size → gok s j = true) : gpart s = (decide ((1 : Int) ≤ s.size) && decide ((s.size : Int) ≤ 64) && !decide (s = ⟨#[46]⟩) && !decide (s = ⟨#[46, 46]⟩)) := by
 have : (List.range s.size).all (gok s) = true := by
  rw [List.all_eq_true]; intro i hi; exact hall i (List.mem_range.1 hi)
 simp [gpart, h, this]
theorem allto' {i n : Nat} {p : Nat → Prop} (h : ∀ j, j < i → p j) (hi : n ≤ i) : ∀ j, j < n → p j := fun j hj => h j (by omega)
def gMay (p : ByteArray) : Bool := decide (((parts p).length : Int) ≤ 16) && !(parts p).any (fun s => !gpart s)
theorem splitB_size (sep : ByteArray) : ∀ (k : Nat) (s : ByteArray), ∀ x ∈ Lib.splitB sep 0 k s, x.size ≤ s.size
 | 0, s, x, hx => by
  rw [Lib.splitB_zero, List.mem_singleton] at hx
  rw [hx]; exact Nat.le_refl _
 | k + 1, s, x, hx => by
  unfold Lib.splitB at hx
  split at hx
  ·rw [List.mem_singleton] at hx; rw [hx]; exact Nat.le_refl _
  ·rcases List.mem_cons.1 hx with rfl | hx
   ·rw [ByteArray.size_extract]; omega
   ·have := splitB_size sep k _ x hx
    rw [ByteArray.size_extract] at this; omega
theorem parts_size {p x : ByteArray} (h : x ∈ parts p) : x.size ≤ p.size := splitB_size slB _ p x h
theorem parts_le (p : ByteArray) : (parts p).length ≤ p.size + 1 := by
 have := Lib.countB_le slB (by decide) p.size p (Nat.le_refl _)
 have h2 : (parts p).length = Lib.countB p slB + 1 := Lib.splitB_all slB (by decide) 0 _ p rfl
 omega
theorem c_plain (c : Int) (hc : 0 ≤ c ∧ c < 256) (w0 : World) (G : Gl w0) : Calls Tryz.prog 215 [.int .u8 c].toArray w0 (Ret fun v w' => v = .bool (plain c) ∧ Below w0.heap.size w0 w') := by
 refine ent Tryz.func215 Tryz.ntmps215 rfl rfl ?_
 intro a F
 have S := St.refl w0
 refine sq fun K1 hK1 => ?_
 refine rg ?_
 refine dv F (y_as rfl rfl) rfl rfl rfl fun a F => ?_
 refine dn ?_
 refine tn <| hK1 _ _ ?_
 refine sq fun K2 hK2 => ?_
 refine rg ?_
 refine dv F (y_mv rfl rfl) rfl rfl rfl fun a F => ?_
 refine dbs F S rfl rfl bsB1 rfl rfl rfl fun a w b4 F S => ?_
 refine dv F (y_cbs (xs := [c]) rfl rfl Tryz.underlying61 Tryz.underlying5 Tryz.underlying9 (S.sl (i := 0) rfl lenU8)) rfl rfl rfl fun a F => ?_
 refine dv F (y_sad rfl rfl rfl (aB1 c)) rfl rfl rfl fun a F => ?_
 refine dv F (y_sad rfl rfl rfl (aB2 c)) rfl rfl rfl fun a F => ?_
 refine dc F (c_f rfl rfl rfl Tryz.call142) rfl rfl rfl (c_May _ _ (G.st S) (aB3 c)) fun a v w' hr F => ?_
 obtain ⟨rfl, hb⟩ := hr
 replace S := S.call hb
 refine dv F (y_mv rfl rfl) rfl rfl rfl fun a F => ?_
 refine gsp F 9 rfl (fun h1 => ?_) (fun h1 => ?_)
 ·have g1 := h1
  try simp only [zi1, zi2, zi3, zi4, zi5, zi6, zi7, zi8] at g1
  refine gv F rfl rfl rfl h1 (y_mv rfl rfl) rfl rfl fun a F => ?_
  refine gv F rfl rfl rfl h1 (y_in rfl rfl rfl) rfl rfl fun a F => ?_
  refine dv F (y_pkt h1 rfl rfl rfl) rfl rfl rfl fun a F => ?_
  refine dv F (y_as rfl rfl) rfl rfl rfl fun a F => ?_
  refine dn ?_
  refine tn <| hK2 _ _ ?_
  refine wp_ret ?_
  refine ?_
  exact rt1 F rfl rfl ⟨by simp [plain, aB, g1], S.bel⟩
 ·have g1 := h1
  try simp only [zi1, zi2, zi3, zi4, zi5, zi6, zi7, zi8] at g1
  refine gs F rfl rfl rfl h1 rfl rfl fun a F => ?_
  refine gs F rfl rfl rfl h1 rfl rfl fun a F => ?_
  refine dv F (y_pkf h1 rfl rfl rfl) rfl rfl rfl fun a F => ?_
  refine dv F (y_as rfl rfl) rfl rfl rfl fun a F => ?_
  refine dn ?_
  refine tn <| hK2 _ _ ?_
  refine wp_ret ?_
  refine ?_
  exact rt1 F rfl rfl ⟨by simp [plain, aB, g1], S.bel⟩
theorem c_gpart (s : ByteArray) (hs : s.size ≤ 1000000) (w0 : World) (G : Gl w0) : Calls Tryz.prog 180 [.string s].toArray w0 (Ret fun v w' => v = .bool (gpart s) ∧ Below w0.heap.size w0 w') := by
 refine ent Tryz.func180 Tryz.ntmps180 rfl rfl ?_
 intro a F
 have S := St.refl w0
 refine sq fun K1 hK1 => ?_
 refine rg ?_
 refine dv F (y_as rfl rfl) rfl rfl rfl fun a F => ?_
 refine dn ?_
 refine tn <| hK1 _ _ ?_
 refine sq fun K2 hK2 => ?_
 refine sq fun K3 hK3 => ?_
 refine rg ?_
 refine dv F (y_mv rfl rfl) rfl rfl rfl fun a F => ?_
 refine dv F (y_se rfl rfl rfl) rfl rfl rfl fun a F => ?_
 refine dn ?_
 refine tn <| hK3 _ _ ?_
 refine cb F rfl (fun h1 => ?_) (fun h1 => ?_)
 ·have g1 := h1
  try simp only [zi1, zi2, zi3, zi4, zi5, zi6, zi7, zi8] at g1
  refine sq fun K4 hK4 => ?_
  refine rg ?_
  refine dv F (y_as rfl rfl) rfl rfl rfl fun a F => ?_
  refine dn ?_
  refine tn <| hK4 _ _ ?_
  refine wp_ret ?_
  refine tr <| ?_
  exact rt1 F rfl rfl ⟨by simp [gpart, g1], S.bel⟩
 ·have g1 := h1
  try simp only [zi1, zi2, zi3, zi4, zi5, zi6, zi7, zi8] at g1
  refine wp_skip ?_
  refine tn <| hK2 _ _ ?_
  refine sq fun K5 hK5 => ?_
  refine sq fun K6 hK6 => ?_
  refine rg ?_
  refine dv F (y_mv rfl rfl) rfl rfl rfl fun a F => ?_
  refine dv F (y_ls rfl rfl Tryz.underlying9) rfl rfl rfl fun a F => ?_
  refine dv F (y_mv rfl rfl) rfl rfl rfl fun a F => ?_
  refine dn ?_
  refine tn <| hK6 _ _ ?_
  refine bl ?_
  refine lp (fun m a w => ∃ i : Nat, m = s.size - i ∧ (i ≤ s.size) ∧ (∀ j : Nat, j < i → gok s j = true) ∧ Fr 51 a [(0, .string s), (7, .int .i64 (s.size : Int)), (8, .int .i64 (i : Int))] ∧ St w0 w []) (s.size) ?_ ?_
  ·exact ⟨0, rfl, Nat.zero_le _, fun j h => absurd h (Nat.not_lt_zero j), F.sub _ ⟨rfl, rfl, rfl, trivial⟩, S.pick [] _ trivial rfl⟩
  ·rintro m a w ⟨i, hm, hi, hall, F, S⟩
   refine sq fun K7 hK7 => ?_
   refine rg ?_
   refine dv F (y_lt rfl rfl rfl) rfl rfl rfl fun a F => ?_
   refine dn ?_
   refine tn <| hK7 _ _ ?_
   refine sq fun K8 hK8 => ?_
   refine cb F rfl (fun h2 => ?_) (fun h2 => ?_)
   ·have g2 := h2
    try simp only [zi1, zi2, zi3, zi4, zi5, zi6, zi7, zi8] at g2
    refine wp_skip ?_
    refine tn <| hK8 _ _ ?_
    refine sq fun K9 hK9 => ?_
    refine bl ?_
    refine sq fun K10 hK10 => ?_
    refine rg ?_
    refine dv F (y_mv rfl rfl) rfl rfl rfl fun a F => ?_
    refine dv F (y_as rfl rfl) rfl rfl rfl fun a F => ?_
    refine dn ?_
    refine tn <| hK10 _ _ ?_
    refine sq fun K11 hK11 => ?_
    have hlt : i < s.size := by omega
    refine rg ?_
    refine dv F (y_mv rfl rfl) rfl rfl rfl fun a F => ?_
    refine dv F (y_mv rfl rfl) rfl rfl rfl fun a F => ?_
    refine dv F (y_sx rfl rfl rfl Tryz.underlying9 i rfl hlt) rfl rfl rfl fun a F => ?_
    refine dc F (c_f rfl rfl rfl Tryz.call215) rfl rfl rfl (c_plain _ (bt_range s i) _ (G.st S)) fun a v w' hr F => ?_
    obtain ⟨rfl, hb⟩ := hr
    replace S := S.call hb
    refine dv F (y_nt rfl rfl) rfl rfl rfl fun a F => ?_
    refine dv F (y_mv rfl rfl) rfl rfl rfl fun a F => ?_
    refine gsp F 16 rfl (fun h3 => ?_) (fun h3 => ?_)
    ·have g3 := h3
     try simp only [zi1, zi2, zi3, zi4, zi5, zi6, zi7, zi8] at g3
     refine gv F rfl rfl rfl h3 (y_mv rfl rfl) rfl rfl fun a F => ?_
     refine gv F rfl rfl rfl h3 (y_mv rfl rfl) rfl rfl fun a F => ?_
     refine gv F rfl rfl rfl h3 (y_sx rfl rfl rfl Tryz.underlying9 i rfl hlt) rfl rfl fun a F => ?_
     refine gv F rfl rfl rfl h3 (y_in rfl rfl rfl) rfl rfl fun a F => ?_
     refine dv F (y_pkt h3 rfl rfl rfl) rfl rfl rfl fun a F => ?_
     refine dv F (y_mv rfl rfl) rfl rfl rfl fun a F => ?_
     refine gsp F 22 rfl (fun h4 => ?_) (fun h4 => ?_)
     ·have g4 := h4
      try simp only [zi1, zi2, zi3, zi4, zi5, zi6, zi7, zi8] at g4
      refine gv F rfl rfl rfl h4 (y_mv rfl rfl) rfl rfl fun a F => ?_
      refine gv F rfl rfl rfl h4 (y_mv rfl rfl) rfl rfl fun a F => ?_
      refine gv F rfl rfl rfl h4 (y_sx rfl rfl rfl Tryz.underlying9 i rfl hlt) rfl rfl fun a F => ?_
      refine gv F rfl rfl rfl h4 (y_in rfl rfl rfl) rfl rfl fun a F => ?_
      refine dv F (y_pkt h4 rfl rfl rfl) rfl rfl rfl fun a F => ?_
      refine dv F (y_mv rfl rfl) rfl rfl rfl fun a F => ?_
      refine gsp F 28 rfl (fun h5 => ?_) (fun h5 => ?_)
      ·have g5 := h5
       try simp only [zi1, zi2, zi3, zi4, zi5, zi6, zi7, zi8] at g5
       refine gs F rfl rfl rfl h5 rfl rfl fun a F => ?_
       refine gs F rfl rfl rfl h5 rfl rfl fun a F => ?_
       refine gs F rfl rfl rfl h5 rfl rfl fun a F => ?_
       refine gs F rfl rfl rfl h5 rfl rfl fun a F => ?_
       refine dv F (y_pkt h5 rfl rfl rfl) rfl rfl rfl fun a F => ?_
       refine dn ?_
       refine tn <| hK11 _ _ ?_
       refine ct F rfl rfl ?_
       refine sq fun K12 hK12 => ?_
       refine rg ?_
       refine dv F (y_as rfl rfl) rfl rfl rfl fun a F => ?_
       refine dn ?_
       refine tn <| hK12 _ _ ?_
       refine wp_ret ?_
       refine br <| tr <| lr <| br <| tr <| ?_
       exact rt1 F rfl rfl ⟨by rw [gpart_no (by simp [g1, g2, g3, g4, g5]) hlt (by simp [gok, g1, g2, g3, g4, g5])], S.bel⟩
      ·have g5 := h5
       try simp only [zi1, zi2, zi3, zi4, zi5, zi6, zi7, zi8] at g5
       refine gv F rfl rfl rfl h5 (y_mv rfl rfl) rfl rfl fun a F => ?_
       refine gv F rfl rfl rfl h5 (y_mv rfl rfl) rfl rfl fun a F => ?_
       refine gv F rfl rfl rfl h5 (y_slf rfl rfl rfl Tryz.underlying9 i rfl (by omega)) rfl rfl fun a F => ?_
       refine gc F rfl rfl rfl h5 (c_f rfl rfl rfl Tryz.call211) rfl rfl (c_pp s i _) fun a v w' hr F => ?_
       obtain ⟨rfl, hb⟩ := hr
       replace S := S.call hb
       refine dv F (y_pkf h5 rfl rfl rfl) rfl rfl rfl fun a F => ?_
       refine dn ?_
       refine tn <| hK11 _ _ ?_
       refine cb F rfl (fun h6 => ?_) (fun h6 => ?_)
       ·have g6 := h6
        try simp only [zi1, zi2, zi3, zi4, zi5, zi6, zi7, zi8] at g6
        refine sq fun K13 hK13 => ?_
        refine rg ?_
        refine dv F (y_as rfl rfl) rfl rfl rfl fun a F => ?_
        refine dn ?_
        refine tn <| hK13 _ _ ?_
        refine wp_ret ?_
        refine br <| tr <| lr <| br <| tr <| ?_
        exact rt1 F rfl rfl ⟨by rw [gpart_no (by simp [g1, g2, g3, g4, g5, g6]) hlt (by simp [gok, g1, g2, g3, g4, g5, g6])], S.bel⟩
       ·have g6 := h6
        try simp only [zi1, zi2, zi3, zi4, zi5, zi6, zi7, zi8] at g6
        refine wp_skip ?_
        refine bn <| tn <| hK9 _ _ ?_
        refine rg ?_
        refine dv F (y_add rfl rfl rfl (by omega)) rfl rfl rfl fun a F => ?_
        refine dv F (y_mv rfl rfl) rfl rfl rfl fun a F => ?_
        refine dn ?_
        exact ln (by omega) ⟨i + 1, rfl, by omega, allnext hall (by simp [gok, g1, g2, g3, g4, g5, g6]), F.sub _ ⟨rfl, rfl, rfl, trivial⟩, S.pick [] _ trivial rfl⟩
     ·have g4 := h4
      try simp only [zi1, zi2, zi3, zi4, zi5, zi6, zi7, zi8] at g4
      refine gs F rfl rfl rfl h4 rfl rfl fun a F => ?_
      refine gs F rfl rfl rfl h4 rfl rfl fun a F => ?_
      refine gs F rfl rfl rfl h4 rfl rfl fun a F => ?_
      refine gs F rfl rfl rfl h4 rfl rfl fun a F => ?_
      refine dv F (y_pkf h4 rfl rfl rfl) rfl rfl rfl fun a F => ?_
      refine dv F (y_mv rfl rfl) rfl rfl rfl fun a F => ?_
      refine gv F rfl rfl rfl rfl (y_mv rfl rfl) rfl rfl fun a F => ?_
      refine gv F rfl rfl rfl rfl (y_mv rfl rfl) rfl rfl fun a F => ?_
      refine gv F rfl rfl rfl rfl (y_slf rfl rfl rfl Tryz.underlying9 i rfl (by omega)) rfl rfl fun a F => ?_
      refine gc F rfl rfl rfl rfl (c_f rfl rfl rfl Tryz.call211) rfl rfl (c_pp s i _) fun a v w' hr F => ?_
      obtain ⟨rfl, hb⟩ := hr
      replace S := S.call hb
      refine dv F (y_pkf rfl rfl rfl rfl) rfl rfl rfl fun a F => ?_
      refine dn ?_
      refine tn <| hK11 _ _ ?_
      refine cb F rfl (fun h7 => ?_) (fun h7 => ?_)
      ·have g7 := h7
       try simp only [zi1, zi2, zi3, zi4, zi5, zi6, zi7, zi8] at g7
       refine sq fun K14 hK14 => ?_
       refine rg ?_
       refine dv F (y_as rfl rfl) rfl rfl rfl fun a F => ?_
       refine dn ?_
       refine tn <| hK14 _ _ ?_
       refine wp_ret ?_
       refine br <| tr <| lr <| br <| tr <| ?_
       exact rt1 F rfl rfl ⟨by rw [gpart_no (by simp [g1, g2, g3, g4, g7]) hlt (by simp [gok, g1, g2, g3, g4, g7])], S.bel⟩
      ·have g7 := h7
       try simp only [zi1, zi2, zi3, zi4, zi5, zi6, zi7, zi8] at g7
       refine wp_skip ?_
       refine bn <| tn <| hK9 _ _ ?_
       refine rg ?_
       refine dv F (y_add rfl rfl rfl (by omega)) rfl rfl rfl fun a F => ?_
       refine dv F (y_mv rfl rfl) rfl rfl rfl fun a F => ?_
       refine dn ?_
       exact ln (by omega) ⟨i + 1, rfl, by omega, allnext hall (by simp [gok, g1, g2, g3, g4, g7]), F.sub _ ⟨rfl, rfl, rfl, trivial⟩, S.pick [] _ trivial rfl⟩
    ·have g3 := h3
     try simp only [zi1, zi2, zi3, zi4, zi5, zi6, zi7, zi8] at g3
     refine gs F rfl rfl rfl h3 rfl rfl fun a F => ?_
     refine gs F rfl rfl rfl h3 rfl rfl fun a F => ?_
     refine gs F rfl rfl rfl h3 rfl rfl fun a F => ?_
     refine gs F rfl rfl rfl h3 rfl rfl fun a F => ?_
     refine dv F (y_pkf h3 rfl rfl rfl) rfl rfl rfl fun a F => ?_
     refine dv F (y_mv rfl rfl) rfl rfl rfl fun a F => ?_
     refine gs F rfl rfl rfl rfl rfl rfl fun a F => ?_
     refine gs F rfl rfl rfl rfl rfl rfl fun a F => ?_
     refine gs F rfl rfl rfl rfl rfl rfl fun a F => ?_
     refine gs F rfl rfl rfl rfl rfl rfl fun a F => ?_
     refine dv F (y_pkf rfl rfl rfl rfl) rfl rfl rfl fun a F => ?_
     refine dv F (y_mv rfl rfl) rfl rfl rfl fun a F => ?_
     refine gv F rfl rfl rfl rfl (y_mv rfl rfl) rfl rfl fun a F => ?_
     refine gv F rfl rfl rfl rfl (y_mv rfl rfl) rfl rfl fun a F => ?_
     refine gv F rfl rfl rfl rfl (y_slf rfl rfl rfl Tryz.underlying9 i rfl (by omega)) rfl rfl fun a F => ?_
     refine gc F rfl rfl rfl rfl (c_f rfl rfl rfl Tryz.call211) rfl rfl (c_pp s i _) fun a v w' hr F => ?_
     obtain ⟨rfl, hb⟩ := hr
     replace S := S.call hb
     refine dv F (y_pkf rfl rfl rfl rfl) rfl rfl rfl fun a F => ?_
     refine dn ?_
     refine tn <| hK11 _ _ ?_
     refine cb F rfl (fun h8 => ?_) (fun h8 => ?_)
     ·have g8 := h8
      try simp only [zi1, zi2, zi3, zi4, zi5, zi6, zi7, zi8] at g8
      refine sq fun K15 hK15 => ?_
      refine rg ?_
      refine dv F (y_as rfl rfl) rfl rfl rfl fun a F => ?_
      refine dn ?_
      refine tn <| hK15 _ _ ?_
      refine wp_ret ?_
      refine br <| tr <| lr <| br <| tr <| ?_
      exact rt1 F rfl rfl ⟨by rw [gpart_no (by simp [g1, g2, g3, g8]) hlt (by simp [gok, g1, g2, g3, g8])], S.bel⟩
     ·have g8 := h8
      try simp only [zi1, zi2, zi3, zi4, zi5, zi6, zi7, zi8] at g8
      refine wp_skip ?_
      refine bn <| tn <| hK9 _ _ ?_
      refine rg ?_
      refine dv F (y_add rfl rfl rfl (by omega)) rfl rfl rfl fun a F => ?_
      refine dv F (y_mv rfl rfl) rfl rfl rfl fun a F => ?_
      refine dn ?_
      exact ln (by omega) ⟨i + 1, rfl, by omega, allnext hall (by simp [gok, g1, g2, g3, g8]), F.sub _ ⟨rfl, rfl, rfl, trivial⟩, S.pick [] _ trivial rfl⟩
   ·have g2 := h2
    try simp only [zi1, zi2, zi3, zi4, zi5, zi6, zi7, zi8] at g2
    refine wp_exit ?_
    refine tx <| lx <| bh <| tn <| hK5 _ _ ?_
    refine sq fun K16 hK16 => ?_
    refine rg ?_
    refine dv F (y_mv rfl rfl) rfl rfl rfl fun a F => ?_
    refine dv F (y_ls rfl rfl Tryz.underlying9) rfl rfl rfl fun a F => ?_
    refine dv F (y_ge rfl rfl rfl) rfl rfl rfl fun a F => ?_
    refine dv F (y_mv rfl rfl) rfl rfl rfl fun a F => ?_
    refine gsp F 38 rfl (fun h9 => ?_) (fun h9 => ?_)
    ·have g9 := h9
     try simp only [zi1, zi2, zi3, zi4, zi5, zi6, zi7, zi8] at g9
     refine gv F rfl rfl rfl h9 (y_mv rfl rfl) rfl rfl fun a F => ?_
     refine gv F rfl rfl rfl h9 (y_ls rfl rfl Tryz.underlying9) rfl rfl fun a F => ?_
     refine gv F rfl rfl rfl h9 (y_le rfl rfl rfl) rfl rfl fun a F => ?_
     refine dv F (y_pkt h9 rfl rfl rfl) rfl rfl rfl fun a F => ?_
     refine dv F (y_mv rfl rfl) rfl rfl rfl fun a F => ?_
     refine gsp F 43 rfl (fun h10 => ?_) (fun h10 => ?_)
     ·have g10 := h10
      try simp only [zi1, zi2, zi3, zi4, zi5, zi6, zi7, zi8] at g10
      refine gv F rfl rfl rfl h10 (y_mv rfl rfl) rfl rfl fun a F => ?_
      refine gv F rfl rfl rfl h10 (y_sn rfl rfl rfl) rfl rfl fun a F => ?_
      refine dv F (y_pkt h10 rfl rfl rfl) rfl rfl rfl fun a F => ?_
      refine dv F (y_mv rfl rfl) rfl rfl rfl fun a F => ?_
      refine gsp F 47 rfl (fun h11 => ?_) (fun h11 => ?_)
      ·have g11 := h11
       try simp only [zi1, zi2, zi3, zi4, zi5, zi6, zi7, zi8] at g11
       refine gv F rfl rfl rfl h11 (y_mv rfl rfl) rfl rfl fun a F => ?_
       refine gv F rfl rfl rfl h11 (y_sn rfl rfl rfl) rfl rfl fun a F => ?_
       refine dv F (y_pkt h11 rfl rfl rfl) rfl rfl rfl fun a F => ?_
       refine dv F (y_as rfl rfl) rfl rfl rfl fun a F => ?_
       refine dn ?_
       refine tn <| hK16 _ _ ?_
       refine wp_ret ?_
       refine ?_
       exact rt1 F rfl rfl ⟨by rw [gpart_yes (by simpa using g1) (allto' hall (by omega))]; simp [g1, g2, g9, g10, g11], S.bel⟩
      ·have g11 := h11
       try simp only [zi1, zi2, zi3, zi4, zi5, zi6, zi7, zi8] at g11
       refine gs F rfl rfl rfl h11 rfl rfl fun a F => ?_
       refine gs F rfl rfl rfl h11 rfl rfl fun a F => ?_
       refine dv F (y_pkf h11 rfl rfl rfl) rfl rfl rfl fun a F => ?_
       refine dv F (y_as rfl rfl) rfl rfl rfl fun a F => ?_
       refine dn ?_
       refine tn <| hK16 _ _ ?_
       refine wp_ret ?_
       refine ?_
       exact rt1 F rfl rfl ⟨by rw [gpart_yes (by simpa using g1) (allto' hall (by omega))]; simp [g1, g2, g9, g10, g11], S.bel⟩
     ·have g10 := h10
      try simp only [zi1, zi2, zi3, zi4, zi5, zi6, zi7, zi8] at g10
      refine gs F rfl rfl rfl h10 rfl rfl fun a F => ?_
      refine gs F rfl rfl rfl h10 rfl rfl fun a F => ?_
      refine dv F (y_pkf h10 rfl rfl rfl) rfl rfl rfl fun a F => ?_
      refine dv F (y_mv rfl rfl) rfl rfl rfl fun a F => ?_
      refine gs F rfl rfl rfl rfl rfl rfl fun a F => ?_
      refine gs F rfl rfl rfl rfl rfl rfl fun a F => ?_
      refine dv F (y_pkf rfl rfl rfl rfl) rfl rfl rfl fun a F => ?_
      refine dv F (y_as rfl rfl) rfl rfl rfl fun a F => ?_
      refine dn ?_
      refine tn <| hK16 _ _ ?_
      refine wp_ret ?_
      refine ?_
      exact rt1 F rfl rfl ⟨by rw [gpart_yes (by simpa using g1) (allto' hall (by omega))]; simp [g1, g2, g9, g10], S.bel⟩
    ·have g9 := h9
     try simp only [zi1, zi2, zi3, zi4, zi5, zi6, zi7, zi8] at g9
     refine gs F rfl rfl rfl h9 rfl rfl fun a F => ?_
     refine gs F rfl rfl rfl h9 rfl rfl fun a F => ?_
     refine gs F rfl rfl rfl h9 rfl rfl fun a F => ?_
     refine dv F (y_pkf h9 rfl rfl rfl) rfl rfl rfl fun a F => ?_
     refine dv F (y_mv rfl rfl) rfl rfl rfl fun a F => ?_
     refine gs F rfl rfl rfl rfl rfl rfl fun a F => ?_
     refine gs F rfl rfl rfl rfl rfl rfl fun a F => ?_
     refine dv F (y_pkf rfl rfl rfl rfl) rfl rfl rfl fun a F => ?_
     refine dv F (y_mv rfl rfl) rfl rfl rfl fun a F => ?_
     refine gs F rfl rfl rfl rfl rfl rfl fun a F => ?_
     refine gs F rfl rfl rfl rfl rfl rfl fun a F => ?_
     refine dv F (y_pkf rfl rfl rfl rfl) rfl rfl rfl fun a F => ?_
     refine dv F (y_as rfl rfl) rfl rfl rfl fun a F => ?_
     refine dn ?_
     refine tn <| hK16 _ _ ?_
     refine wp_ret ?_
     refine ?_
     exact rt1 F rfl rfl ⟨by rw [gpart_yes (by simpa using g1) (allto' hall (by omega))]; simp [g1, g2, g9], S.bel⟩
theorem c_ngpart (s : ByteArray) (hs : s.size ≤ 1000000) (w0 : World) (G : Gl w0) : Calls Tryz.prog 179 [.string s].toArray w0 (Ret fun v w' => v = .bool (!gpart s) ∧ Below w0.heap.size w0 w') := by
 refine ent Tryz.func179 Tryz.ntmps179 rfl rfl ?_
 intro a F
 have S := St.refl w0
 refine sq fun K1 hK1 => ?_
 refine rg ?_
 refine dv F (y_as rfl rfl) rfl rfl rfl fun a F => ?_
 refine dn ?_
 refine tn <| hK1 _ _ ?_
 refine sq fun K2 hK2 => ?_
 refine rg ?_
 refine dv F (y_mv rfl rfl) rfl rfl rfl fun a F => ?_
 refine dc F (c_f rfl rfl rfl Tryz.call180) rfl rfl rfl (c_gpart s hs _ (G.st S)) fun a v w' hr F => ?_
 obtain ⟨rfl, hb⟩ := hr
 replace S := S.call hb
 refine dv F (y_nt rfl rfl) rfl rfl rfl fun a F => ?_
 refine dv F (y_as rfl rfl) rfl rfl rfl fun a F => ?_
 refine dn ?_
 refine tn <| hK2 _ _ ?_
 refine wp_ret ?_
 refine ?_
 exact rt1 F rfl rfl ⟨rfl, S.bel⟩
theorem c_gMay (p : ByteArray) (hp : p.size ≤ 1000000) (w0 : World) (G : Gl w0) : Calls Tryz.prog 141 [.string p].toArray w0 (Ret fun v w' => v = .bool (gMay p) ∧ Below w0.heap.size w0 w') := by
 refine ent Tryz.func141 Tryz.ntmps141 rfl rfl ?_
 intro a F
 have S := St.refl w0
 refine sq fun K1 hK1 => ?_
 refine rg ?_
 refine dv F (y_as rfl rfl) rfl rfl rfl fun a F => ?_
 refine dn ?_
 refine tn <| hK1 _ _ ?_
 refine sq fun K2 hK2 => ?_
 refine rg ?_
 refine dv F (y_mv rfl rfl) rfl rfl rfl fun a F => ?_
 refine dc F (c_f rfl rfl rfl Tryz.call143) rfl rfl rfl (split_c (G.st S) p slB hp (by decide)) fun a v w' hr F => ?_
 obtain ⟨⟨A, c, rfl, hO, hlo⟩, hb⟩ := hr
 replace S := S.addOw hb rfl hO hlo
 refine dv F (y_as rfl rfl) rfl rfl rfl fun a F => ?_
 refine dn ?_
 refine tn <| hK2 _ _ ?_
 refine sq fun K3 hK3 => ?_
 have hlen := parts_le p
 refine rg ?_
 refine dv F (y_mv rfl rfl) rfl rfl rfl fun a F => ?_
 refine dv F (y_ln rfl rfl Tryz.underlying25) rfl rfl rfl fun a F => ?_
 refine dv F (y_le rfl rfl rfl) rfl rfl rfl fun a F => ?_
 refine dv F (y_mv rfl rfl) rfl rfl rfl fun a F => ?_
 refine gsp F 9 rfl (fun h1 => ?_) (fun h1 => ?_)
 ·have g1 := h1
  try simp only [zi1, zi2, zi3, zi4, zi5, zi6, zi7, zi8] at g1
  refine gv F rfl rfl rfl h1 (y_mv rfl rfl) rfl rfl fun a F => ?_
  refine gc F rfl rfl rfl h1 (c_f rfl rfl rfl Tryz.call101) rfl rfl (c_ContainsFuncS (xs := parts p) _ (fun s => !gpart s) 179 [] Tryz.call179 (fun x hx W hb => c_ngpart x (by have := parts_size hx; omega) W ((G.st S).below hb (Nat.le_refl _))) (S.ows (i := 0) rfl lenS (by decide)) (by show (parts p).length ≤ _; omega)) fun a v w' hr F => ?_
  obtain ⟨rfl, hb⟩ := hr
  replace S := S.call hb
  refine gv F rfl rfl rfl h1 (y_nt rfl rfl) rfl rfl fun a F => ?_
  refine dv F (y_pkt h1 rfl rfl rfl) rfl rfl rfl fun a F => ?_
  refine dv F (y_as rfl rfl) rfl rfl rfl fun a F => ?_
  refine dn ?_
  refine tn <| hK3 _ _ ?_
  refine wp_ret ?_
  refine ?_
  exact rt1 F rfl rfl ⟨by simp [gMay, parts, g1], S.bel⟩
 ·have g1 := h1
  try simp only [zi1, zi2, zi3, zi4, zi5, zi6, zi7, zi8] at g1
  refine gs F rfl rfl rfl h1 rfl rfl fun a F => ?_
  refine gs F rfl rfl rfl h1 rfl rfl fun a F => ?_
  refine gs F rfl rfl rfl h1 rfl rfl fun a F => ?_
  refine dv F (y_pkf h1 rfl rfl rfl) rfl rfl rfl fun a F => ?_
  refine dv F (y_as rfl rfl) rfl rfl rfl fun a F => ?_
  refine dn ?_
  refine tn <| hK3 _ _ ?_
  refine wp_ret ?_
  refine ?_
  exact rt1 F rfl rfl ⟨by simp [gMay, parts, g1], S.bel⟩
end Go.Proofs.YtgcmddaibnimjaaGreatDoor
namespace Go.Eng
open Go.RowKit
abbrev Pr := Int × Int
def prV (p : Pr) : Value := .agg ([p.1, p.2].map (Value.int .i64)).toArray
def PrKeys (es : List MapEntry) (ks : List Pr) : Prop := es.map (·.key) = ks.map prV
def fndA (p : Pr) : List Pr → List MapEntry → Nat → Option (Nat × Value)
 | q :: ks, e :: es, i => if p = q then some (i, e.val) else fndA p ks es (i + 1)
 | _, _, _ => none
theorem fndA_push (p q : Pr) (e : MapEntry) : ∀ (ks : List Pr) (es : List MapEntry) (i : Nat), ks.length = es.length → (fndA p (ks ++ [q]) (es ++ [e]) i).map Prod.snd = ((fndA p ks es i).map Prod.snd).or (if p = q then some e.val else none)
 | [], [], i, _ => by simp only [List.nil_append, fndA]; split <;> rfl
 | r :: ks, x :: es, i, h => by
  simp only [List.cons_append, fndA]
  split
  ·rfl
  ·exact fndA_push p q e ks es _ (by simpa using h)
 | [], x :: es, i, h => by simp at h
 | r :: ks, [], i, h => by simp at h
theorem fndA_at (p : Pr) : ∀ (ks : List Pr) (es : List MapEntry) (i j : Nat) (v : Value), fndA p ks es i = some (j, v) → i ≤ j ∧ ks[j - i]? = some p ∧ ∃ e, es[j - i]? = some e
 | [], es, i, j, v, h => by cases es <;> cases h
 | q :: ks, [], i, j, v, h => by cases h
 | q :: ks, e :: es, i, j, v, h => by
  simp only [fndA] at h
  split at h
  ·rename_i hk
   subst hk
   cases h
   exact ⟨Nat.le_refl _, by simp, e, by simp⟩
  ·obtain ⟨h1, h2, x, h3⟩ := fndA_at p ks es (i + 1) j v h
   refine ⟨by omega, ?_, x, ?_⟩
   ·rw [show j - i = (j - (i + 1)) + 1 by omega]; simpa using h2
   ·rw [show j - i = (j - (i + 1)) + 1 by omega]; simpa using h3
theorem fndA_mod (p t : Pr) (w : Value) (f : MapEntry → MapEntry) (hf : ∀ e, (f e).val = w) : ∀ (ks : List Pr) (es : List MapEntry) (i j : Nat) (v : Value), fndA p ks es i = some (j, v) →
  (fndA t ks (es.modify (j - i) f) i).map Prod.snd = if t = p then some w else (fndA t ks es i).map Prod.snd
 | [], es, i, j, v, h => by cases es <;> cases h
 | q :: ks, [], i, j, v, h => by cases h
 | q :: ks, e :: es, i, j, v, h => by
  have ha := fndA_at p (q :: ks) (e :: es) i j v h
  simp only [fndA] at h
  split at h
  ·rename_i hk
   subst hk
   cases h
   have e1 : (e :: es).modify (i - i) f = f e :: es := by simp [List.modify]
   rw [e1]
   simp only [fndA, hf]
   by_cases hts : t = p
   ·subst hts; simp
   ·simp [hts]
  ·rename_i hk
   obtain ⟨h1, _⟩ := fndA_at p ks es (i + 1) j v h
   have e1 : (e :: es).modify (j - i) f = e :: es.modify (j - (i + 1)) f := by
    rw [show j - i = (j - (i + 1)) + 1 by omega]; simp
   rw [e1]
   simp only [fndA]
   by_cases hts : t = p
   ·subst hts
    have ih := fndA_mod t t w f hf ks es (i + 1) j v h
    simp only [hk, if_true, if_false] at ih ⊢
    simpa using ih
   ·have ih := fndA_mod p t w f hf ks es (i + 1) j v h
    rw [if_neg hts] at ih ⊢
    split
    ·rfl
    ·exact ih
def MpaOk (w : World) (b : Nat) (f : Pr → Option Value) : Prop := ∃ es clock ks, w.heap[b]? = some (.map es clock) ∧ PrKeys es.toList ks ∧ ∀ p, (fndA p ks es.toList 0).map Prod.snd = f p
def mpa (b : Nat) (f : Pr → Option Value) : Res := ⟨fun k => k = b, fun w => MpaOk w b f, fun w w' h ⟨es, clock, ks, h1, h2⟩ => ⟨es, clock, ks, (h b rfl).trans h1, h2⟩⟩
structure PrTy (P : Program) (t kt et : Nat) : Prop where
 map : P.underlying t = some (.map kt et)
 eq : ∀ (p q : Pr) (w : World), (Op.equal kt (prV p) (prV q)).run P w = .ok (decide (p = q)) w
 ck : ∀ (e : Bool) (p : Pr) (w : World), (Instr.checkKey e 10000 kt (prV p)).run P w = .ok () w
 now : ∀ (w : World), ∃ d, (underlying kt).run P w = .ok d w ∧ ∀ x y : Pr, Instr.sameNow d (prV x) (prV y) = none
section
variable {P : Program} {w : World} {b t kt et : Nat} {f : Pr → Option Value}
theorem run_findAsk (T : PrTy P t kt et) (p : Pr) : ∀ (ks : List Pr) (es : List MapEntry) (i : Nat) (w : World), PrKeys es ks → (Instr.findAsking kt (prV p) es i).run P w = .ok (fndA p ks es i) w
 | [], [], i, w, _ => by simp [Instr.findAsking, fndA]
 | q :: ks, e :: es, i, w, h => by
  simp only [PrKeys, List.map_cons, List.cons.injEq] at h
  simp only [Instr.findAsking, Sem.run_bind, h.1, T.eq, Result.andThen_ok, fndA]
  by_cases hpq : p = q
  ·simp [hpq]
  ·simp only [hpq, decide_false, Bool.false_eq_true, if_false]
   exact run_findAsk T p ks es (i + 1) w h.2
 | [], e :: es, i, w, h => by simp [PrKeys] at h
 | q :: ks, [], i, w, h => by simp [PrKeys] at h
theorem run_findKeyA (T : PrTy P t kt et) (p : Pr) (ks : List Pr) (es : List MapEntry) (w : World) (h : PrKeys es ks) : (Instr.findKey kt (prV p) es).run P w = .ok (fndA p ks es 0) w := by
 obtain ⟨d, hd, hn⟩ := T.now w
 unfold Instr.findKey
 simp only [Sem.run_bind, hd, Result.andThen_ok]
 cases es with
 | nil =>
  cases ks with
  | nil => simp [Instr.findNow, fndA]
  | cons q ks => simp [PrKeys] at h
 | cons e es =>
  cases ks with
  | nil => simp [PrKeys] at h
  | cons q ks =>
   have h' := h
   simp only [PrKeys, List.map_cons, List.cons.injEq] at h'
   simp only [Instr.findNow, h'.1, hn]
   exact run_findAsk T p (q :: ks) (e :: es) 0 w h
theorem run_lkA (T : PrTy P t kt et) (h : MpaOk w b f) {z : Value} (p : Pr) (hz : ∀ w, (zeroValue et).run P w = .ok z w) : (Instr.lookup t (.map (some b)) (prV p) false).run P w = .ok ((f p).getD z) w := by
 obtain ⟨es, clock, ks, h1, h2, h3⟩ := h
 have hf := run_findKeyA T p ks es.toList w h2
 rw [← h3 p]
 simp only [Instr.lookup, Sem.run_bind, run_underlying T.map, Result.andThen_ok, MapKept.run_getObj_map h1, Sem.run_pure]
 rw [T.ck, Result.andThen_ok, hf, Result.andThen_ok]
 cases hfn : fndA p ks es.toList 0 with
 | none => simp [hz]
 | some x => simp
theorem run_muA (T : PrTy P t kt et) (h : MpaOk w b f) (p : Pr) (v : Value) :
  ∃ w', (Instr.mapUpdate t (.map (some b)) (prV p) v).run P w = .ok () w' ∧ Keeps (fun k => k = b) w w' ∧ MpaOk w' b fun t => if t = p then some v else f t := by
 obtain ⟨es, clock, ks, h1, h2, h3⟩ := h
 have hc := T.ck false p w
 have hf := run_findKeyA T p ks es.toList w h2
 have hb : b < w.heap.size := (Array.getElem?_eq_some_iff.1 h1).1
 have hlen : ks.length = es.toList.length := by have := congrArg List.length h2; simpa using this.symm
 have hK : ∀ o, Keeps (fun k => k = b) w { w with heap := w.heap.setIfInBounds b o } := fun o => ⟨rfl, rfl, rfl, by simp, fun k hk hn => by simp only; rw [Array.getElem?_setIfInBounds_ne (fun e => hn e.symm)]⟩
 have hat : ∀ o, ({ w with heap := w.heap.setIfInBounds b o } : World).heap[b]? = some o := fun o => by simp only; rw [Array.getElem?_setIfInBounds_self_of_lt hb]
 cases hfn : fndA p ks es.toList 0 with
 | none =>
  refine ⟨_, ?_, hK (.map (es.push { key := prV p, val := v, born := clock }) (clock + 1)), _, _, ks ++ [p], hat _, ?_, ?_⟩
  ·simp only [Instr.mapUpdate, Sem.run_bind, run_underlying T.map, Result.andThen_ok, MapKept.run_getObj_map h1, hc, hf, hfn, MapKept.run_setObj_map _ h1]
  ·rw [PrKeys, Array.toList_push, List.map_append, List.map_append, show es.toList.map (·.key) = ks.map prV from h2]; rfl
  ·intro t
   rw [Array.toList_push, fndA_push _ _ _ _ _ _ hlen, h3 t]
   by_cases hts : t = p
   ·subst hts
    have : f t = none := by rw [← h3 t, hfn]; rfl
    simp [this]
   ·simp [hts]
 | some x =>
  obtain ⟨j, old⟩ := x
  obtain ⟨_, hk0, e0, he0⟩ := fndA_at p ks es.toList 0 j old hfn
  rw [Nat.sub_zero] at he0 hk0
  have hek : e0.key = prV p := by
   have hj : (es.toList.map (·.key))[j]? = (ks.map prV)[j]? := by rw [show es.toList.map (·.key) = ks.map prV from h2]
   rw [List.getElem?_map, List.getElem?_map, he0, hk0] at hj
   simpa using hj
  have hst : ∀ w, (Instr.keyThatStays ((es[j]?.map (·.key)).getD (prV p)) (prV p)).run P w = .ok (prV p) w := by
   intro w
   have : es[j]? = some e0 := by simpa using he0
   rw [this]
   simp [Instr.keyThatStays, hek, prV, Instr.sameBits]
  refine ⟨_, ?_, hK (.map (es.modify j fun e => { e with key := prV p, val := v }) clock), _, _, ks, hat _, ?_, ?_⟩
  ·simp only [Instr.mapUpdate, Sem.run_bind, run_underlying T.map, Result.andThen_ok, MapKept.run_getObj_map h1, hc, hf, hfn, hst, MapKept.run_setObj_map _ h1]
  ·rw [PrKeys, Array.toList_modify, ← show es.toList.map (·.key) = ks.map prV from h2]
   refine List.ext_getElem? fun i => ?_
   rw [List.getElem?_map, List.getElem?_map, List.getElem?_modify]
   by_cases hij : j = i
   ·subst hij; rw [he0]; simp [hek]
   ·cases hei : es.toList[i]? <;> simp [hij, hei]
  ·intro t
   rw [Array.toList_modify]
   have := fndA_mod p t v (fun e => { e with key := prV p, val := v }) (fun e => rfl) ks es.toList 0 j old hfn
   rw [Nat.sub_zero] at this
   rw [this, h3 t]
end
section
variable {P : Program} {Q : Exit → Act → World → Prop} {w w0 : World} {n : Nat} {l : List (Nat × Value)} {o : Oper} {rest : List Oper} {ops : Array Oper} {a : Act} {hs : List Res} {t kt et b : Nat} {f : Pr → Option Value}
theorem y_lkA (T : PrTy P t kt et) {x ix : Operand} {p : Pr} {z : Value} (ho : o.op = .lookup t x ix false) (hx : evl l x = some (.map (some b))) (hi : evl l ix = some (prV p)) (M : MpaOk w b f) (hz : ∀ w, (zeroValue et).run P w = .ok z w) : Yl P o l w ((f p).getD z) w := fun n a F => by
 simp [execOp, ho, F.ev hx, F.ev hi, run_lkA T M p hz]
theorem dmmA (F : Fr n a l) (S : St w0 w hs) {t : Nat} (ho : o.op = .makeMap t none) (hg : o.guard = none) {d : Nat} (hd : o.dst = some d) (hn : Nat.blt d n = true)
  (k : ∀ a w' b, Fr n a ((d, .map (some b)) :: l) → St w0 w' (hs ++ [mpa b fun _ => none]) → wpList P ops Q rest a w') : wpList P ops Q (o :: rest) a w := by
 refine dv (v := .map (some w.heap.size)) (w' := w.alloc (.map #[] 0)) F (fun n a F => ?_) hg hd hn fun a F => k a _ _ F ?_
 ·simp [execOp, ho, run_makeMap_plain]
 ·refine S.callAdd ((Below.refl _ _).alloc (Nat.le_refl _) _) _ ⟨#[], 0, [], ?_, rfl, fun s => rfl⟩ fun k hk => ?_
  ·show (w.heap.push _)[w.heap.size]? = _
   simp
  ·have : k = w.heap.size := hk
   subst this
   show _ ∧ _ < (w.heap.push _).size
   simp
theorem dmuA (T : PrTy P t kt et) (F : Fr n a l) (S : St w0 w hs) {x ix vx : Operand} {p : Pr} {v : Value} (ho : o.op = .mapUpdate t x ix vx) (hx : evl l x = some (.map (some b))) (hi : evl l ix = some (prV p)) (hv : evl l vx = some v)
  {i : Nat} (hr : nth hs i = some (mpa b f)) (hg : o.guard = none) (hd : o.dst = none)
  (k : ∀ a w', Fr n a l → St w0 w' (upd hs i (mpa b fun t => if t = p then some v else f t)) → wpList P ops Q rest a w') : wpList P ops Q (o :: rest) a w := by
 obtain ⟨w', h1, h2, h3⟩ := run_muA T (S.ok hr) p v
 refine dk (w' := w') F (fun n a F => ?_) hg hd fun a F => k a w' F (S.turn hr h2 _ h3 fun j hj => ?_)
 ·simp [execOp, ho, F.ev hx, F.ev hi, F.ev hv, h1]
 ·have : j = b := hj
  subst this
  refine ⟨.inl rfl, ?_⟩
  obtain ⟨es, clock, ks, h4, _⟩ := h3
  exact (Array.getElem?_eq_some_iff.1 h4).1
end
end Go.Eng
namespace Go.Proofs.YtgcmddaibnimjaaGreatDoor
open Go.RowKit Go.Eng
def dstar : ByteArray := ⟨#[42, 42]⟩
def dl : List ByteArray → List ByteArray → Bool
 | [], ns => ns.isEmpty
 | p :: ps, [] => decide (p = dstar) && !ps.isEmpty && dl ps []
 | p :: ps, n :: ns => if p = dstar then ps.isEmpty || dl ps (n :: ns) || dl (p :: ps) ns else one p n && dl ps ns
termination_by ps ns => ps.length + ns.length
def gMatch (p s : ByteArray) : Bool := gMay p && pMay s && dl (parts p) (parts s)
def Memo (ps ns : List ByteArray) (f : Pr → Option Value) : Prop := ∀ (i k : Nat) (v : Value), f ((i : Int), (k : Int)) = some v → v = .bool (!dl (ps.drop i) (ns.drop k))
theorem Memo.look {ps ns : List ByteArray} {f : Pr → Option Value} (h : Memo ps ns f) (i k : Nat) : ∃ nb, (f ((i : Int), (k : Int))).getD (.bool false) = .bool nb ∧ (nb = true → dl (ps.drop i) (ns.drop k) = false) := by
 cases hf : f ((i : Int), (k : Int)) with
 | none => exact ⟨false, rfl, fun h => by cases h⟩
 | some v => exact ⟨_, by rw [h i k v hf]; rfl, fun h => by simpa using h⟩
theorem Memo.put {ps ns : List ByteArray} {f : Pr → Option Value} (h : Memo ps ns f) {i k : Nat} {b : Bool} (hb : b = dl (ps.drop i) (ns.drop k)) : Memo ps ns fun t => if t = ((i : Int), (k : Int)) then some (.bool (!b)) else f t := by
 intro i' k' v hv
 dsimp only at hv
 split at hv
 ·rename_i he
  injection he with e1 e2
  obtain rfl : i' = i := by omega
  obtain rfl : k' = k := by omega
  cases hv
  rw [hb]
 ·exact h i' k' v hv
theorem dl_end {ps ns : List ByteArray} {i k : Nat} (hi : i = ps.length) (hk : k ≤ ns.length) : dl (ps.drop i) (ns.drop k) = decide ((k : Int) = ns.length) := by
 subst hi
 rw [List.drop_length, dl]
 rcases Nat.lt_or_ge k ns.length with h | h
 ·rw [List.drop_eq_getElem_cons h]
  exact (decide_eq_false (by omega)).symm
 ·rw [List.drop_eq_nil_of_le h]
  exact (decide_eq_true (by omega)).symm
theorem dl_hit {ps ns : List ByteArray} {i k : Nat} (hi : i < ps.length) (hn : ¬ ps[i] = dstar) (hk : k < ns.length) : dl (ps.drop i) (ns.drop k) = (one ps[i] ns[k] && dl (ps.drop (i + 1)) (ns.drop (k + 1))) := by
 rw [List.drop_eq_getElem_cons hi, List.drop_eq_getElem_cons hk, dl, if_neg hn]
theorem dl_miss {ps ns : List ByteArray} {i k : Nat} (hi : i < ps.length) (hn : ¬ ps[i] = dstar) (hk : ns.length ≤ k) : dl (ps.drop i) (ns.drop k) = false := by
 rw [List.drop_eq_getElem_cons hi, List.drop_eq_nil_of_le hk, dl, decide_eq_false hn]; rfl
theorem dl_last {ps ns : List ByteArray} {i k : Nat} (hi : i < ps.length) (hn : ps[i] = dstar) (hl : i + 1 = ps.length) : dl (ps.drop i) (ns.drop k) = decide ((k : Int) < ns.length) := by
 have h1 : ps.drop (i + 1) = [] := List.drop_eq_nil_of_le (by omega)
 rw [List.drop_eq_getElem_cons hi, h1]
 rcases Nat.lt_or_ge k ns.length with h | h
 ·rw [List.drop_eq_getElem_cons h, dl, if_pos hn, decide_eq_true (by omega)]; rfl
 ·rw [List.drop_eq_nil_of_le h, dl, decide_eq_false (show ¬ (k : Int) < ns.length by omega)]; simp
theorem dl_more {ps ns : List ByteArray} {i k : Nat} (hi : i < ps.length) (hn : ps[i] = dstar) (hl : i + 1 < ps.length) (hk : k < ns.length) : dl (ps.drop i) (ns.drop k) = (dl (ps.drop (i + 1)) (ns.drop k) || dl (ps.drop i) (ns.drop (k + 1))) := by
 have h1 : (ps.drop (i + 1)).isEmpty = false := by rw [List.drop_eq_getElem_cons hl]; rfl
 rw [List.drop_eq_getElem_cons hi, List.drop_eq_getElem_cons hk, dl, if_pos hn, h1, Bool.false_or]
theorem dl_more0 {ps ns : List ByteArray} {i k : Nat} (hi : i < ps.length) (hn : ps[i] = dstar) (hl : i + 1 < ps.length) (hk : ns.length ≤ k) : dl (ps.drop i) (ns.drop k) = dl (ps.drop (i + 1)) (ns.drop k) := by
 have h1 : (ps.drop (i + 1)).isEmpty = false := by rw [List.drop_eq_getElem_cons hl]; rfl
 rw [List.drop_eq_getElem_cons hi, List.drop_eq_nil_of_le hk, dl, h1, decide_eq_true hn]; rfl
theorem dl_gen {ps ns : List ByteArray} {i k : Nat} (hi : i < ps.length) (hn : ps[i] = dstar) (hl : i + 1 < ps.length) : dl (ps.drop i) (ns.drop k) = (dl (ps.drop (i + 1)) (ns.drop k) || (decide ((k : Int) < ns.length) && dl (ps.drop i) (ns.drop (k + 1)))) := by
 rcases Nat.lt_or_ge k ns.length with h | h
 ·rw [dl_more hi hn hl h, decide_eq_true (show (k : Int) < ns.length by omega), Bool.true_and]
 ·rw [dl_more0 hi hn hl h, decide_eq_false (show ¬ (k : Int) < ns.length by omega), Bool.false_and, Bool.or_false]
theorem bd211 {i k : Int} (w : World) : (Instr.build 211 [(0, .int .i64 i), (1, .int .i64 k)].toArray).run Tryz.prog w = .ok (prV (i, k)) w := by kernel_rfl
theorem info3s : (Tryz.prog.info? 3).isSome = true := by kernel_rfl
theorem info3 : ∃ i, Tryz.prog.info? 3 = some i := Option.isSome_iff_exists.1 info3s
theorem cellsOf3 : Tryz.prog.cellsOf 3 = 1 := by kernel_rfl
theorem prT : PrTy Tryz.prog 209 211 4 where
 map := Tryz.underlying209
 eq := fun p q w => by
  obtain ⟨i, hi⟩ := info3
  have := eqArr (P := Tryz.prog) Tryz.underlying211 hi cellsOf3 Tryz.isAgg3 Tryz.underlying3 [p.1, p.2] [q.1, q.2] rfl rfl 9998 w
  show (Op.equalIn Op.maxDepth 211 (.agg ([p.1, p.2].map (Value.int .i64)).toArray) (.agg ([q.1, q.2].map (Value.int .i64)).toArray)).run Tryz.prog w = _
  rw [show Op.maxDepth = 9998 + 2 by simp [Op.maxDepth], this]
  refine congrArg (fun b => Result.ok b w) (decide_eq_decide.2 ⟨fun h => ?_, fun h => by rw [h]⟩)
  exact Prod.ext (List.cons.inj h).1 (List.cons.inj (List.cons.inj h).2).1
 ck := fun e p w => by kernel_rfl
 now := fun w => ⟨_, run_underlying Tryz.underlying211 w, fun x y => rfl⟩
theorem zb4 (w : World) : (zeroValue 4).run Tryz.prog w = .ok (.bool false) w := by kernel_rfl
theorem y_no {P : Program} {o : Oper} {l : List (Nat × Value)} {w : World} {u : Value} {b : Bool} (h : u = .bool b) (y : Yl P o l w u w) : Yl P o l w (.bool b) w := h ▸ y
theorem _root_.Go.Eng.St.owc {w0 w : World} {hs : List Res} {i e b o c z n : Nat} {α : Type} {enc : α → List Value} {ys : List α} (S : St w0 w hs) (h : nth hs i = some (ow e z (.slice (some ⟨b, o, none⟩) n c) n (ys.flatMap enc))) (hz : ∀ x, (enc x).length = z) {j : Nat} (hj : j < ys.length) {u : Value} (hu : (enc ys[j])[0]? = some u) (hzp : 0 < z) : w.cell? ⟨b, o + j * z, none⟩ = some u := by
 obtain ⟨b', o', he, _, hc⟩ := (S.ows h hz hzp).at_ hj
 injection he with he
 injection he with e1 e2
 subst e1 e2
 exact hc 0 u hu
def DealC (ps ns : List ByteArray) (w0 : World) (A1 : Option Addr) (c1 b5 : Nat) (A2 : Option Addr) (c2 b6 mb b7 b8 : Nat) (m : Nat) : Prop := ∀ (f : Pr → Option Value) (i k : Nat) (W : World), (ps.length - i) + (ns.length - k) < m → i ≤ ps.length → k ≤ ns.length → Memo ps ns f → St w0 W [ow 9 1 (.slice A1 ps.length c1) ps.length (ps.flatMap encS), bk b5 25 [.slice A1 ps.length c1], ow 9 1 (.slice A2 ns.length c2) ns.length (ns.flatMap encS), bk b6 25 [.slice A2 ns.length c2], mpa mb f, bk b7 209 [.map (some mb)], bk b8 210 [.func (.func 144) #[] [Value.pointer (some ⟨b5, 0, none⟩), .pointer (some ⟨b6, 0, none⟩), .pointer (some ⟨b7, 0, none⟩), .pointer (some ⟨b8, 0, none⟩)].toArray]] → Calls Tryz.prog 144 [.int .i64 (i : Int), .int .i64 (k : Int), .pointer (some ⟨b5, 0, none⟩), .pointer (some ⟨b6, 0, none⟩), .pointer (some ⟨b7, 0, none⟩), .pointer (some ⟨b8, 0, none⟩)].toArray W (Ret fun v w' => v = .bool (dl (ps.drop i) (ns.drop k)) ∧ ∃ f, Memo ps ns f ∧ St w0 w' [ow 9 1 (.slice A1 ps.length c1) ps.length (ps.flatMap encS), bk b5 25 [.slice A1 ps.length c1], ow 9 1 (.slice A2 ns.length c2) ns.length (ns.flatMap encS), bk b6 25 [.slice A2 ns.length c2], mpa mb f, bk b7 209 [.map (some mb)], bk b8 210 [.func (.func 144) #[] [Value.pointer (some ⟨b5, 0, none⟩), .pointer (some ⟨b6, 0, none⟩), .pointer (some ⟨b7, 0, none⟩), .pointer (some ⟨b8, 0, none⟩)].toArray]])
theorem c_deal1 {ps ns : List ByteArray} {w0 : World} {A1 : Option Addr} {c1 b5 : Nat} {A2 : Option Addr} {c2 b6 mb b7 b8 : Nat} (hps : ps.length ≤ 2000000) (hns : ns.length ≤ 2000000) (hzp : ∀ x ∈ ps, x.size ≤ 1000000) (hzn : ∀ x ∈ ns, x.size ≤ 1000000) (m : Nat) (ih : DealC ps ns w0 A1 c1 b5 A2 c2 b6 mb b7 b8 m) (f : Pr → Option Value) (i k : Nat) (W : World) (hm : (ps.length - i) + (ns.length - k) < m + 1) (hi : i ≤ ps.length) (hk : k ≤ ns.length) (hf : Memo ps ns f) (S : St w0 W [ow 9 1 (.slice A1 ps.length c1) ps.length (ps.flatMap encS), bk b5 25 [.slice A1 ps.length c1], ow 9 1 (.slice A2 ns.length c2) ns.length (ns.flatMap encS), bk b6 25 [.slice A2 ns.length c2], mpa mb f, bk b7 209 [.map (some mb)], bk b8 210 [.func (.func 144) #[] [Value.pointer (some ⟨b5, 0, none⟩), .pointer (some ⟨b6, 0, none⟩), .pointer (some ⟨b7, 0, none⟩), .pointer (some ⟨b8, 0, none⟩)].toArray]]) : Calls Tryz.prog 144 [.int .i64 (i : Int), .int .i64 (k : Int), .pointer (some ⟨b5, 0, none⟩), .pointer (some ⟨b6, 0, none⟩), .pointer (some ⟨b7, 0, none⟩), .pointer (some ⟨b8, 0, none⟩)].toArray W (Ret fun v w' => v = .bool (dl (ps.drop i) (ns.drop k)) ∧ ∃ f, Memo ps ns f ∧ St w0 w' [ow 9 1 (.slice A1 ps.length c1) ps.length (ps.flatMap encS), bk b5 25 [.slice A1 ps.length c1], ow 9 1 (.slice A2 ns.length c2) ns.length (ns.flatMap encS), bk b6 25 [.slice A2 ns.length c2], mpa mb f, bk b7 209 [.map (some mb)], bk b8 210 [.func (.func 144) #[] [Value.pointer (some ⟨b5, 0, none⟩), .pointer (some ⟨b6, 0, none⟩), .pointer (some ⟨b7, 0, none⟩), .pointer (some ⟨b8, 0, none⟩)].toArray]]) := by
 refine ent Tryz.func144 Tryz.ntmps144 rfl rfl ?_
 intro a F
 refine sq fun K1 hK1 => ?_
 refine rg ?_
 refine dv F (y_as rfl rfl) rfl rfl rfl fun a F => ?_
 refine dn ?_
 refine tn <| hK1 _ _ ?_
 refine sq fun K2 hK2 => ?_
 refine bl ?_
 refine sq fun K3 hK3 => ?_
 refine rg ?_
 refine dv F (y_mv rfl rfl) rfl rfl rfl fun a F => ?_
 refine dv F (y_ld rfl rfl (S.ld (i := 1) rfl rfl Tryz.isAgg25)) rfl rfl rfl fun a F => ?_
 refine dv F (y_ln rfl rfl Tryz.underlying25) rfl rfl rfl fun a F => ?_
 refine dv F (y_ie rfl rfl rfl) rfl rfl rfl fun a F => ?_
 refine dv F (y_as rfl rfl) rfl rfl rfl fun a F => ?_
 refine dn ?_
 refine tn <| hK3 _ _ ?_
 refine cb F rfl (fun h1 => ?_) (fun h1 => ?_)
 ·have g1 := h1
  try simp only [zi1, zi2, zi3, zi4, zi5, zi6, zi7, zi8] at g1
  refine sq fun K4 hK4 => ?_
  refine rg ?_
  refine dv F (y_mv rfl rfl) rfl rfl rfl fun a F => ?_
  refine dv F (y_ld rfl rfl (S.ld (i := 3) rfl rfl Tryz.isAgg25)) rfl rfl rfl fun a F => ?_
  refine dv F (y_ln rfl rfl Tryz.underlying25) rfl rfl rfl fun a F => ?_
  refine dv F (y_ie rfl rfl rfl) rfl rfl rfl fun a F => ?_
  refine dv F (y_as rfl rfl) rfl rfl rfl fun a F => ?_
  refine dn ?_
  refine tn <| hK4 _ _ ?_
  refine wp_ret ?_
  refine br <| tr <| ?_
  exact rt1 F rfl rfl ⟨by rw [dl_end (by omega) hk], f, hf, S⟩
 ·have g1 := h1
  try simp only [zi1, zi2, zi3, zi4, zi5, zi6, zi7, zi8] at g1
  refine sq fun K5 hK5 => ?_
  obtain ⟨nb, hnb, hno⟩ := hf.look i k
  refine rg ?_
  refine dv F (y_ld rfl rfl (S.ld (i := 5) rfl rfl Tryz.isAgg209)) rfl rfl rfl fun a F => ?_
  refine dv F (y_mv rfl rfl) rfl rfl rfl fun a F => ?_
  refine dv F (y_mv rfl rfl) rfl rfl rfl fun a F => ?_
  refine dv F (y_bd rfl rfl (bd211)) rfl rfl rfl fun a F => ?_
  refine dv F (y_no hnb (y_lkA prT rfl rfl rfl (S.ok (i := 4) rfl) zb4)) rfl rfl rfl fun a F => ?_
  refine dv F (y_as rfl rfl) rfl rfl rfl fun a F => ?_
  refine dn ?_
  refine tn <| hK5 _ _ ?_
  refine cb F rfl (fun h2 => ?_) (fun h2 => ?_)
  ·have g2 := h2
   try simp only [zi1, zi2, zi3, zi4, zi5, zi6, zi7, zi8] at g2
   refine sq fun K6 hK6 => ?_
   refine rg ?_
   refine dv F (y_as rfl rfl) rfl rfl rfl fun a F => ?_
   refine dn ?_
   refine tn <| hK6 _ _ ?_
   refine wp_ret ?_
   refine br <| tr <| ?_
   exact rt1 F rfl rfl ⟨by rw [hno (by simpa using g2)], f, hf, S⟩
  ·have g2 := h2
   try simp only [zi1, zi2, zi3, zi4, zi5, zi6, zi7, zi8] at g2
   refine sq fun K7 hK7 => ?_
   have hlt : i < ps.length := by omega
   obtain ⟨ab, ao, rfl, hab, hcell⟩ := (S.ows (i := 0) rfl lenS (by decide)).at_ hlt
   refine rg ?_
   refine dv F (y_ld rfl rfl (S.ld (i := 1) rfl rfl Tryz.isAgg25)) rfl rfl rfl fun a F => ?_
   refine dv F (y_mv rfl rfl) rfl rfl rfl fun a F => ?_
   refine dv F (y_ia rfl rfl rfl rfl Tryz.underlying25 Tryz.sizeOf9 i rfl hlt) rfl rfl rfl fun a F => ?_
   refine dv F (y_ld rfl rfl (ld1 Tryz.isAgg9 (hcell 0 _ rfl))) rfl rfl rfl fun a F => ?_
   refine dv F (y_sn rfl rfl rfl) rfl rfl rfl fun a F => ?_
   refine dv F (y_as rfl rfl) rfl rfl rfl fun a F => ?_
   refine dn ?_
   refine tn <| hK7 _ _ ?_
   refine cb F rfl (fun h3 => ?_) (fun h3 => ?_)
   ·have g3 := h3
    try simp only [zi1, zi2, zi3, zi4, zi5, zi6, zi7, zi8] at g3
    refine sq fun K8 hK8 => ?_
    refine rq (C := fun w => ∃ f, Memo ps ns f ∧ St w0 w ([ow 9 1 (.slice (some ⟨ab, ao, none⟩) ps.length c1) ps.length (ps.flatMap encS), bk b5 25 [.slice (some ⟨ab, ao, none⟩) ps.length c1], ow 9 1 (.slice A2 ns.length c2) ns.length (ns.flatMap encS), bk b6 25 [.slice A2 ns.length c2], mpa mb f, bk b7 209 [.map (some mb)], bk b8 210 [.func (.func 144) #[] [Value.pointer (some ⟨b5, 0, none⟩), .pointer (some ⟨b6, 0, none⟩), .pointer (some ⟨b7, 0, none⟩), .pointer (some ⟨b8, 0, none⟩)].toArray]])) Tryz.mixed (by kernel_rfl) ⟨f, hf, S.drewN 1⟩ ?_
    refine qv F (fun w ⟨f, hf, S⟩ => y_mv rfl rfl) rfl rfl rfl fun a F => ?_
    refine qv F (fun w ⟨f, hf, S⟩ => y_ld rfl rfl (S.ld (i := 3) rfl rfl Tryz.isAgg25)) rfl rfl rfl fun a F => ?_
    refine qv F (fun w ⟨f, hf, S⟩ => y_ln rfl rfl Tryz.underlying25) rfl rfl rfl fun a F => ?_
    refine qv F (fun w ⟨f, hf, S⟩ => y_lt rfl rfl rfl) rfl rfl rfl fun a F => ?_
    refine qv F (fun w ⟨f, hf, S⟩ => y_mv rfl rfl) rfl rfl rfl fun a F => ?_
    refine gsp F 35 rfl (fun h4 => ?_) (fun h4 => ?_)
    ·have g4 := h4
     try simp only [zi1, zi2, zi3, zi4, zi5, zi6, zi7, zi8] at g4
     refine qgv F rfl rfl rfl h4 (fun w ⟨f, hf, S⟩ => y_ld rfl rfl (S.ld (i := 1) rfl rfl Tryz.isAgg25)) rfl rfl fun a F => ?_
     refine qgv F rfl rfl rfl h4 (fun w ⟨f, hf, S⟩ => y_mv rfl rfl) rfl rfl fun a F => ?_
     refine qgv F rfl rfl rfl h4 (fun w ⟨f, hf, S⟩ => y_ia rfl rfl rfl rfl Tryz.underlying25 Tryz.sizeOf9 i rfl hlt) rfl rfl fun a F => ?_
     refine qgv F rfl rfl rfl h4 (fun w ⟨f, hf, S⟩ => y_ld rfl rfl (ld1 Tryz.isAgg9 (S.owc (i := 0) rfl lenS hlt rfl (by decide)))) rfl rfl fun a F => ?_
     refine qgv F rfl rfl rfl h4 (fun w ⟨f, hf, S⟩ => y_ld rfl rfl (S.ld (i := 3) rfl rfl Tryz.isAgg25)) rfl rfl fun a F => ?_
     refine qgv F rfl rfl rfl h4 (fun w ⟨f, hf, S⟩ => y_mv rfl rfl) rfl rfl fun a F => ?_
     have hkt : k < ns.length := by omega
     obtain ⟨ab2, ao2, rfl, hab2, hcell2⟩ := (S.ows (i := 2) rfl lenS (by decide)).at_ hkt
     refine qgv F rfl rfl rfl h4 (fun w ⟨f, hf, S⟩ => y_ia rfl rfl rfl rfl Tryz.underlying25 Tryz.sizeOf9 k rfl hkt) rfl rfl fun a F => ?_
     refine qgv F rfl rfl rfl h4 (fun w ⟨f, hf, S⟩ => y_ld rfl rfl (ld1 Tryz.isAgg9 (S.owc (i := 2) rfl lenS hkt rfl (by decide)))) rfl rfl fun a F => ?_
     refine qgc F rfl rfl rfl h4 (.bool (one ps[i] ns[k])) (fun w ⟨f, hf, S⟩ => (c_f rfl rfl rfl Tryz.call145)) rfl rfl (fun w ⟨f, hf, S⟩ => (c_one _ _ _ (hzp _ (List.getElem_mem hlt)) (hzn _ (List.getElem_mem hkt))).mono (Ret.mono fun v w' h => ⟨h.1, ⟨f, hf, S.call h.2⟩⟩)) fun a F => ?_
     refine qv F (fun w ⟨f, hf, S⟩ => y_pkt h4 rfl rfl rfl) rfl rfl rfl fun a F => ?_
     refine qv F (fun w ⟨f, hf, S⟩ => y_mv rfl rfl) rfl rfl rfl fun a F => ?_
     refine gsp F 46 rfl (fun h5 => ?_) (fun h5 => ?_)
     ·have g5 := h5
      try simp only [zi1, zi2, zi3, zi4, zi5, zi6, zi7, zi8] at g5
      refine qgv F rfl rfl rfl h5 (fun w ⟨f, hf, S⟩ => y_ld rfl rfl (S.ld (i := 6) rfl rfl Tryz.isAgg210)) rfl rfl fun a F => ?_
      refine qgv F rfl rfl rfl h5 (fun w ⟨f, hf, S⟩ => y_mv rfl rfl) rfl rfl fun a F => ?_
      refine qgv F rfl rfl rfl h5 (fun w ⟨f, hf, S⟩ => y_add rfl rfl rfl (by omega)) rfl rfl fun a F => ?_
      refine qgv F rfl rfl rfl h5 (fun w ⟨f, hf, S⟩ => y_mv rfl rfl) rfl rfl fun a F => ?_
      refine qgv F rfl rfl rfl h5 (fun w ⟨f, hf, S⟩ => y_add rfl rfl rfl (by omega)) rfl rfl fun a F => ?_
      refine qgc F rfl rfl rfl h5 (.bool (dl (ps.drop (i + 1)) (ns.drop (k + 1)))) (fun w ⟨f, hf, S⟩ => (c_f rfl rfl rfl Tryz.call144)) rfl rfl (fun w ⟨f, hf, S⟩ => (ih f (i + 1) (k + 1) _ (by omega) (by omega) (by omega) hf S).mono (Ret.mono fun v w' h => h)) fun a F => ?_
      refine qv F (fun w ⟨f, hf, S⟩ => y_pkt h5 rfl rfl rfl) rfl rfl rfl fun a F => ?_
      refine qv F (fun w ⟨f, hf, S⟩ => y_as rfl rfl) rfl rfl rfl fun a F => ?_
      refine qn fun w ⟨f, hf, S⟩ => ?_
      refine tn <| hK8 _ _ ?_
      refine wp_ret ?_
      refine br <| tr <| ?_
      exact rt1 F rfl rfl ⟨by rw [dl_hit hlt g3 hkt]; try simp [g1, g2, g3, g4, g5], f, hf, S⟩
     ·have g5 := h5
      try simp only [zi1, zi2, zi3, zi4, zi5, zi6, zi7, zi8] at g5
      refine qgs F rfl rfl rfl h5 rfl rfl fun a F => ?_
      refine qgs F rfl rfl rfl h5 rfl rfl fun a F => ?_
      refine qgs F rfl rfl rfl h5 rfl rfl fun a F => ?_
      refine qgs F rfl rfl rfl h5 rfl rfl fun a F => ?_
      refine qgs F rfl rfl rfl h5 rfl rfl fun a F => ?_
      refine qgs F rfl rfl rfl h5 rfl rfl fun a F => ?_
      refine qv F (fun w ⟨f, hf, S⟩ => y_pkf h5 rfl rfl rfl) rfl rfl rfl fun a F => ?_
      refine qv F (fun w ⟨f, hf, S⟩ => y_as rfl rfl) rfl rfl rfl fun a F => ?_
      refine qn fun w ⟨f, hf, S⟩ => ?_
      refine tn <| hK8 _ _ ?_
      refine wp_ret ?_
      refine br <| tr <| ?_
      exact rt1 F rfl rfl ⟨by rw [dl_hit hlt g3 hkt]; try simp [g1, g2, g3, g4, g5], f, hf, S⟩
    ·have g4 := h4
     try simp only [zi1, zi2, zi3, zi4, zi5, zi6, zi7, zi8] at g4
     refine qgs F rfl rfl rfl h4 rfl rfl fun a F => ?_
     refine qgs F rfl rfl rfl h4 rfl rfl fun a F => ?_
     refine qgs F rfl rfl rfl h4 rfl rfl fun a F => ?_
     refine qgs F rfl rfl rfl h4 rfl rfl fun a F => ?_
     refine qgs F rfl rfl rfl h4 rfl rfl fun a F => ?_
     refine qgs F rfl rfl rfl h4 rfl rfl fun a F => ?_
     refine qgs F rfl rfl rfl h4 rfl rfl fun a F => ?_
     refine qgs F rfl rfl rfl h4 rfl rfl fun a F => ?_
     refine qgs F rfl rfl rfl h4 rfl rfl fun a F => ?_
     refine qv F (fun w ⟨f, hf, S⟩ => y_pkf h4 rfl rfl rfl) rfl rfl rfl fun a F => ?_
     refine qv F (fun w ⟨f, hf, S⟩ => y_mv rfl rfl) rfl rfl rfl fun a F => ?_
     refine qgs F rfl rfl rfl rfl rfl rfl fun a F => ?_
     refine qgs F rfl rfl rfl rfl rfl rfl fun a F => ?_
     refine qgs F rfl rfl rfl rfl rfl rfl fun a F => ?_
     refine qgs F rfl rfl rfl rfl rfl rfl fun a F => ?_
     refine qgs F rfl rfl rfl rfl rfl rfl fun a F => ?_
     refine qgs F rfl rfl rfl rfl rfl rfl fun a F => ?_
     refine qv F (fun w ⟨f, hf, S⟩ => y_pkf rfl rfl rfl rfl) rfl rfl rfl fun a F => ?_
     refine qv F (fun w ⟨f, hf, S⟩ => y_as rfl rfl) rfl rfl rfl fun a F => ?_
     refine qn fun w ⟨f, hf, S⟩ => ?_
     refine tn <| hK8 _ _ ?_
     refine wp_ret ?_
     refine br <| tr <| ?_
     exact rt1 F rfl rfl ⟨by rw [dl_miss hlt g3 (by omega)]; try simp [g1, g2, g3, g4], f, hf, S⟩
   ·have g3 := h3
    try simp only [zi1, zi2, zi3, zi4, zi5, zi6, zi7, zi8] at g3
    refine sq fun K9 hK9 => ?_
    refine rg ?_
    refine dv F (y_mv rfl rfl) rfl rfl rfl fun a F => ?_
    refine dv F (y_ld rfl rfl (S.ld (i := 1) rfl rfl Tryz.isAgg25)) rfl rfl rfl fun a F => ?_
    refine dv F (y_ln rfl rfl Tryz.underlying25) rfl rfl rfl fun a F => ?_
    refine dv F (y_sub rfl rfl rfl (by omega)) rfl rfl rfl fun a F => ?_
    refine dv F (y_ie rfl rfl rfl) rfl rfl rfl fun a F => ?_
    refine dv F (y_as rfl rfl) rfl rfl rfl fun a F => ?_
    refine dn ?_
    refine tn <| hK9 _ _ ?_
    refine cb F rfl (fun h6 => ?_) (fun h6 => ?_)
    ·have g6 := h6
     try simp only [zi1, zi2, zi3, zi4, zi5, zi6, zi7, zi8] at g6
     refine sq fun K10 hK10 => ?_
     refine rg ?_
     refine dv F (y_mv rfl rfl) rfl rfl rfl fun a F => ?_
     refine dv F (y_ld rfl rfl (S.ld (i := 3) rfl rfl Tryz.isAgg25)) rfl rfl rfl fun a F => ?_
     refine dv F (y_ln rfl rfl Tryz.underlying25) rfl rfl rfl fun a F => ?_
     refine dv F (y_lt rfl rfl rfl) rfl rfl rfl fun a F => ?_
     refine dv F (y_as rfl rfl) rfl rfl rfl fun a F => ?_
     refine dn ?_
     refine tn <| hK10 _ _ ?_
     refine wp_ret ?_
     refine br <| tr <| ?_
     exact rt1 F rfl rfl ⟨by rw [dl_last hlt g3 (by omega)], f, hf, S⟩
    ·have g6 := h6
     try simp only [zi1, zi2, zi3, zi4, zi5, zi6, zi7, zi8] at g6
     refine wp_skip ?_
     refine bn <| tn <| hK2 _ _ ?_
     refine sq fun K11 hK11 => ?_
     refine rg ?_
     refine dv F (y_ld rfl rfl (S.ld (i := 6) rfl rfl Tryz.isAgg210)) rfl rfl rfl fun a F => ?_
     refine dv F (y_mv rfl rfl) rfl rfl rfl fun a F => ?_
     refine dv F (y_add rfl rfl rfl (by omega)) rfl rfl rfl fun a F => ?_
     refine dv F (y_mv rfl rfl) rfl rfl rfl fun a F => ?_
     refine dc F (c_f rfl rfl rfl Tryz.call144) rfl rfl rfl (ih f (i + 1) (k) _ (by omega) (by omega) (by omega) hf S) fun a v w' hr F => ?_
     obtain ⟨rfl, f, hf, S⟩ := hr
     refine dv F (y_mv rfl rfl) rfl rfl rfl fun a F => ?_
     refine gsp F 69 rfl (fun h7 => ?_) (fun h7 => ?_)
     ·have g7 := h7
      try simp only [zi1, zi2, zi3, zi4, zi5, zi6, zi7, zi8] at g7
      refine gs F rfl rfl rfl h7 rfl rfl fun a F => ?_
      refine gs F rfl rfl rfl h7 rfl rfl fun a F => ?_
      refine gs F rfl rfl rfl h7 rfl rfl fun a F => ?_
      refine gs F rfl rfl rfl h7 rfl rfl fun a F => ?_
      refine gs F rfl rfl rfl h7 rfl rfl fun a F => ?_
      refine gu F rfl rfl rfl rfl rfl fun a F => ?_
      refine gu F rfl rfl rfl rfl rfl fun a F => ?_
      refine gu F rfl rfl rfl rfl rfl fun a F => ?_
      refine gu F rfl rfl rfl rfl rfl fun a F => ?_
      refine gu F rfl rfl rfl rfl rfl fun a F => ?_
      refine gs F rfl rfl rfl h7 rfl rfl fun a F => ?_
      refine dv F (y_pkt h7 rfl rfl rfl) rfl rfl rfl fun a F => ?_
      refine dv F (y_as rfl rfl) rfl rfl rfl fun a F => ?_
      refine dn ?_
      refine tn <| hK11 _ _ ?_
      refine sq fun K12 hK12 => ?_
      refine rg ?_
      refine dv F (y_ld rfl rfl (S.ld (i := 5) rfl rfl Tryz.isAgg209)) rfl rfl rfl fun a F => ?_
      refine dv F (y_mv rfl rfl) rfl rfl rfl fun a F => ?_
      refine dv F (y_mv rfl rfl) rfl rfl rfl fun a F => ?_
      refine dv F (y_bd rfl rfl (bd211)) rfl rfl rfl fun a F => ?_
      refine dv F (y_mv rfl rfl) rfl rfl rfl fun a F => ?_
      refine dv F (y_nt rfl rfl) rfl rfl rfl fun a F => ?_
      refine dmuA prT F S rfl rfl rfl rfl (i := 4) rfl rfl rfl fun a w F S => ?_
      refine dn ?_
      refine tn <| hK12 _ _ ?_
      refine sq fun K13 hK13 => ?_
      refine rg ?_
      refine dv F (y_mv rfl rfl) rfl rfl rfl fun a F => ?_
      refine dv F (y_as rfl rfl) rfl rfl rfl fun a F => ?_
      refine dn ?_
      refine tn <| hK13 _ _ ?_
      refine wp_ret ?_
      refine ?_
      exact rt1 F rfl rfl ⟨congrArg _ (by rw [dl_gen (k := k) hlt g3 (by omega)]; simp [g1, g2, g3, g6, g7]), _, hf.put (by rw [dl_gen (k := k) hlt g3 (by omega)]; simp [g1, g2, g3, g6, g7]), S⟩
     ·have g7 := h7
      try simp only [zi1, zi2, zi3, zi4, zi5, zi6, zi7, zi8] at g7
      refine gv F rfl rfl rfl h7 (y_mv rfl rfl) rfl rfl fun a F => ?_
      refine gv F rfl rfl rfl h7 (y_ld rfl rfl (S.ld (i := 3) rfl rfl Tryz.isAgg25)) rfl rfl fun a F => ?_
      refine gv F rfl rfl rfl h7 (y_ln rfl rfl Tryz.underlying25) rfl rfl fun a F => ?_
      refine gv F rfl rfl rfl h7 (y_lt rfl rfl rfl) rfl rfl fun a F => ?_
      refine gv F rfl rfl rfl h7 (y_mv rfl rfl) rfl rfl fun a F => ?_
      refine gsp F 74 rfl (fun h8 => ?_) (fun h8 => ?_)
      ·have g8 := h8
       try simp only [zi1, zi2, zi3, zi4, zi5, zi6, zi7, zi8] at g8
       refine gv F rfl rfl rfl h8 (y_ld rfl rfl (S.ld (i := 6) rfl rfl Tryz.isAgg210)) rfl rfl fun a F => ?_
       refine gv F rfl rfl rfl h8 (y_mv rfl rfl) rfl rfl fun a F => ?_
       refine gv F rfl rfl rfl h8 (y_mv rfl rfl) rfl rfl fun a F => ?_
       refine gv F rfl rfl rfl h8 (y_add rfl rfl rfl (by omega)) rfl rfl fun a F => ?_
       refine gc F rfl rfl rfl h8 (c_f rfl rfl rfl Tryz.call144) rfl rfl (ih f (i) (k + 1) _ (by omega) (by omega) (by omega) hf S) fun a v w' hr F => ?_
       obtain ⟨rfl, f, hf, S⟩ := hr
       refine gv F rfl rfl rfl h7 (y_pkt h8 rfl rfl rfl) rfl rfl fun a F => ?_
       refine dv F (y_pkf h7 rfl rfl rfl) rfl rfl rfl fun a F => ?_
       refine dv F (y_as rfl rfl) rfl rfl rfl fun a F => ?_
       refine dn ?_
       refine tn <| hK11 _ _ ?_
       refine sq fun K14 hK14 => ?_
       refine rg ?_
       refine dv F (y_ld rfl rfl (S.ld (i := 5) rfl rfl Tryz.isAgg209)) rfl rfl rfl fun a F => ?_
       refine dv F (y_mv rfl rfl) rfl rfl rfl fun a F => ?_
       refine dv F (y_mv rfl rfl) rfl rfl rfl fun a F => ?_
       refine dv F (y_bd rfl rfl (bd211)) rfl rfl rfl fun a F => ?_
       refine dv F (y_mv rfl rfl) rfl rfl rfl fun a F => ?_
       refine dv F (y_nt rfl rfl) rfl rfl rfl fun a F => ?_
       refine dmuA prT F S rfl rfl rfl rfl (i := 4) rfl rfl rfl fun a w F S => ?_
       refine dn ?_
       refine tn <| hK14 _ _ ?_
       refine sq fun K15 hK15 => ?_
       refine rg ?_
       refine dv F (y_mv rfl rfl) rfl rfl rfl fun a F => ?_
       refine dv F (y_as rfl rfl) rfl rfl rfl fun a F => ?_
       refine dn ?_
       refine tn <| hK15 _ _ ?_
       refine wp_ret ?_
       refine ?_
       exact rt1 F rfl rfl ⟨congrArg _ (by rw [dl_gen (k := k) hlt g3 (by omega)]; simp [g1, g2, g3, g6, g7, g8]), _, hf.put (by rw [dl_gen (k := k) hlt g3 (by omega)]; simp [g1, g2, g3, g6, g7, g8]), S⟩
      ·have g8 := h8
       try simp only [zi1, zi2, zi3, zi4, zi5, zi6, zi7, zi8] at g8
       refine gs F rfl rfl rfl h8 rfl rfl fun a F => ?_
       refine gs F rfl rfl rfl h8 rfl rfl fun a F => ?_
       refine gs F rfl rfl rfl h8 rfl rfl fun a F => ?_
       refine gs F rfl rfl rfl h8 rfl rfl fun a F => ?_
       refine gs F rfl rfl rfl h8 rfl rfl fun a F => ?_
       refine gv F rfl rfl rfl h7 (y_pkf h8 rfl rfl rfl) rfl rfl fun a F => ?_
       refine dv F (y_pkf h7 rfl rfl rfl) rfl rfl rfl fun a F => ?_
       refine dv F (y_as rfl rfl) rfl rfl rfl fun a F => ?_
       refine dn ?_
       refine tn <| hK11 _ _ ?_
       refine sq fun K16 hK16 => ?_
       refine rg ?_
       refine dv F (y_ld rfl rfl (S.ld (i := 5) rfl rfl Tryz.isAgg209)) rfl rfl rfl fun a F => ?_
       refine dv F (y_mv rfl rfl) rfl rfl rfl fun a F => ?_
       refine dv F (y_mv rfl rfl) rfl rfl rfl fun a F => ?_
       refine dv F (y_bd rfl rfl (bd211)) rfl rfl rfl fun a F => ?_
       refine dv F (y_mv rfl rfl) rfl rfl rfl fun a F => ?_
       refine dv F (y_nt rfl rfl) rfl rfl rfl fun a F => ?_
       refine dmuA prT F S rfl rfl rfl rfl (i := 4) rfl rfl rfl fun a w F S => ?_
       refine dn ?_
       refine tn <| hK16 _ _ ?_
       refine sq fun K17 hK17 => ?_
       refine rg ?_
       refine dv F (y_mv rfl rfl) rfl rfl rfl fun a F => ?_
       refine dv F (y_as rfl rfl) rfl rfl rfl fun a F => ?_
       refine dn ?_
       refine tn <| hK17 _ _ ?_
       refine wp_ret ?_
       refine ?_
       exact rt1 F rfl rfl ⟨congrArg _ (by rw [dl_gen (k := k) hlt g3 (by omega)]; simp [g1, g2, g3, g6, g7, g8]), _, hf.put (by rw [dl_gen (k := k) hlt g3 (by omega)]; simp [g1, g2, g3, g6, g7, g8]), S⟩
theorem c_deal {ps ns : List ByteArray} {w0 : World} {A1 : Option Addr} {c1 b5 : Nat} {A2 : Option Addr} {c2 b6 mb b7 b8 : Nat} (hps : ps.length ≤ 2000000) (hns : ns.length ≤ 2000000) (hzp : ∀ x ∈ ps, x.size ≤ 1000000) (hzn : ∀ x ∈ ns, x.size ≤ 1000000) : ∀ m, DealC ps ns w0 A1 c1 b5 A2 c2 b6 mb b7 b8 m
 | 0 => fun f i k W hm => absurd hm (Nat.not_lt_zero _)
 | m + 1 => c_deal1 hps hns hzp hzn m (c_deal hps hns hzp hzn m)
theorem c_Match (p s : ByteArray) (hp : p.size ≤ 1000000) (hs : s.size ≤ 1000000) (w0 : World) (G : Gl w0) : Calls Tryz.prog 103 [.string p, .string s].toArray w0 (Ret fun v w' => v = .bool (gMatch p s) ∧ Below w0.heap.size w0 w') := by
 refine ent Tryz.func103 Tryz.ntmps103 rfl rfl ?_
 intro a F
 have S := St.refl w0
 refine sq fun K1 hK1 => ?_
 refine rg ?_
 refine dv F (y_as rfl rfl) rfl rfl rfl fun a F => ?_
 refine dn ?_
 refine tn <| hK1 _ _ ?_
 refine sq fun K2 hK2 => ?_
 refine sq fun K3 hK3 => ?_
 refine rg ?_
 refine dv F (y_mv rfl rfl) rfl rfl rfl fun a F => ?_
 refine dc F (c_f rfl rfl rfl Tryz.call141) rfl rfl rfl (c_gMay p hp _ (G.st S)) fun a v w' hr F => ?_
 obtain ⟨rfl, hb⟩ := hr
 replace S := S.call hb
 refine dv F (y_nt rfl rfl) rfl rfl rfl fun a F => ?_
 refine dv F (y_mv rfl rfl) rfl rfl rfl fun a F => ?_
 refine gsp F 12 rfl (fun h1 => ?_) (fun h1 => ?_)
 ·have g1 := h1
  try simp only [zi1, zi2, zi3, zi4, zi5, zi6, zi7, zi8] at g1
  refine gs F rfl rfl rfl h1 rfl rfl fun a F => ?_
  refine gs F rfl rfl rfl h1 rfl rfl fun a F => ?_
  refine gs F rfl rfl rfl h1 rfl rfl fun a F => ?_
  refine dv F (y_pkt h1 rfl rfl rfl) rfl rfl rfl fun a F => ?_
  refine dn ?_
  refine tn <| hK3 _ _ ?_
  refine ct F rfl rfl ?_
  refine sq fun K4 hK4 => ?_
  refine rg ?_
  refine dv F (y_as rfl rfl) rfl rfl rfl fun a F => ?_
  refine dn ?_
  refine tn <| hK4 _ _ ?_
  refine wp_ret ?_
  refine tr <| ?_
  exact rt1 F rfl rfl ⟨by simp [gMatch, g1], S.bel⟩
 ·have g1 := h1
  try simp only [zi1, zi2, zi3, zi4, zi5, zi6, zi7, zi8] at g1
  refine gv F rfl rfl rfl h1 (y_mv rfl rfl) rfl rfl fun a F => ?_
  refine gc F rfl rfl rfl h1 (c_f rfl rfl rfl Tryz.call142) rfl rfl (c_May s _ (G.st S) hs) fun a v w' hr F => ?_
  obtain ⟨rfl, hb⟩ := hr
  replace S := S.call hb
  refine gv F rfl rfl rfl h1 (y_nt rfl rfl) rfl rfl fun a F => ?_
  refine dv F (y_pkf h1 rfl rfl rfl) rfl rfl rfl fun a F => ?_
  refine dn ?_
  refine tn <| hK3 _ _ ?_
  refine cb F rfl (fun h2 => ?_) (fun h2 => ?_)
  ·have g2 := h2
   try simp only [zi1, zi2, zi3, zi4, zi5, zi6, zi7, zi8] at g2
   refine sq fun K5 hK5 => ?_
   refine rg ?_
   refine dv F (y_as rfl rfl) rfl rfl rfl fun a F => ?_
   refine dn ?_
   refine tn <| hK5 _ _ ?_
   refine wp_ret ?_
   refine tr <| ?_
   exact rt1 F rfl rfl ⟨by simp [gMatch, g1, g2], S.bel⟩
  ·have g2 := h2
   try simp only [zi1, zi2, zi3, zi4, zi5, zi6, zi7, zi8] at g2
   refine wp_skip ?_
   refine tn <| hK2 _ _ ?_
   refine sq fun K6 hK6 => ?_
   refine rg ?_
   refine dv F (y_mv rfl rfl) rfl rfl rfl fun a F => ?_
   refine dc F (c_f rfl rfl rfl Tryz.call143) rfl rfl rfl (split_c (G.st S) p slB hp (by decide)) fun a v w' hr F => ?_
   obtain ⟨⟨A_p, c_p, rfl, hO, hlo⟩, hb⟩ := hr
   replace S := S.addOw hb rfl hO hlo
   refine dal F S rfl Tryz.zeroValue25 rfl rfl rfl rfl fun a w b5 F S => ?_
   refine dsw F S rfl rfl rfl Tryz.sizeOf25 (i := 1) rfl rfl rfl rfl one1 rfl rfl fun a w F S => ?_
   refine dn ?_
   refine tn <| hK6 _ _ ?_
   refine sq fun K7 hK7 => ?_
   refine rg ?_
   refine dv F (y_mv rfl rfl) rfl rfl rfl fun a F => ?_
   refine dc F (c_f rfl rfl rfl Tryz.call143) rfl rfl rfl (split_c (G.st S) s slB hs (by decide)) fun a v w' hr F => ?_
   obtain ⟨⟨A_s, c_s, rfl, hO, hlo⟩, hb⟩ := hr
   replace S := S.addOw hb rfl hO hlo
   refine dal F S rfl Tryz.zeroValue25 rfl rfl rfl rfl fun a w b6 F S => ?_
   refine dsw F S rfl rfl rfl Tryz.sizeOf25 (i := 3) rfl rfl rfl rfl one1 rfl rfl fun a w F S => ?_
   refine dn ?_
   refine tn <| hK7 _ _ ?_
   refine sq fun K8 hK8 => ?_
   refine rg ?_
   refine dmmA F S rfl rfl rfl rfl fun a w mb F S => ?_
   refine dal F S rfl Tryz.zeroValue209 rfl rfl rfl rfl fun a w b7 F S => ?_
   refine dsw F S rfl rfl rfl Tryz.sizeOf209 (i := 5) rfl rfl rfl rfl one1 rfl rfl fun a w F S => ?_
   refine dn ?_
   refine tn <| hK8 _ _ ?_
   refine sq fun K9 hK9 => ?_
   refine rg ?_
   refine dal F S rfl Tryz.zeroValue210 rfl rfl rfl rfl fun a w b8 F S => ?_
   refine dn ?_
   refine tn <| hK9 _ _ ?_
   refine sq fun K10 hK10 => ?_
   refine rg ?_
   refine dv F (y_mf rfl rfl) rfl rfl rfl fun a F => ?_
   refine dsw F S rfl rfl rfl Tryz.sizeOf210 (i := 6) rfl rfl rfl rfl one1 rfl rfl fun a w F S => ?_
   refine dn ?_
   refine tn <| hK10 _ _ ?_
   refine sq fun K11 hK11 => ?_
   refine rg ?_
   refine dv F (y_ld rfl rfl (S.ld (i := 6) rfl rfl Tryz.isAgg210)) rfl rfl rfl fun a F => ?_
   refine dc F (c_f rfl rfl rfl Tryz.call144) rfl rfl rfl (c_deal (by have := parts_le p; omega) (by have := parts_le s; omega) (fun x hx => Nat.le_trans (parts_size hx) hp) (fun x hx => Nat.le_trans (parts_size hx) hs) _ (fun _ => none) 0 0 _ (Nat.lt_succ_self _) (Nat.zero_le _) (Nat.zero_le _) (fun _ _ _ h => by cases h) S) fun a v w' hr F => ?_
   obtain ⟨rfl, f, hf, S⟩ := hr
   refine dv F (y_as rfl rfl) rfl rfl rfl fun a F => ?_
   refine dn ?_
   refine tn <| hK11 _ _ ?_
   refine wp_ret ?_
   refine ?_
   exact rt1 F rfl rfl ⟨by simp [gMatch, g1, g1, g2, List.drop], S.bel⟩
end Go.Proofs.YtgcmddaibnimjaaGreatDoor
namespace Go.Proofs.YtgcmddaibnimjaaGreatDoor
open Go.RowKit Go.Eng
abbrev pt (b : Nat) : Value := .pointer (some ⟨b, 0, none⟩)
theorem cell_at {w : World} {b t j : Nat} {cs : List Value} {u : Value} (hb : w.heap[b]? = some (.cells cs.toArray t (0, 0))) (hj : cs[j]? = some u) : w.cell? ⟨b, j, none⟩ = some u := by simp [World.cell?, hb, hj]
theorem shape_at {w : World} {b t : Nat} {cs : List Value} (hb : w.heap[b]? = some (.cells cs.toArray t (0, 0))) : w.shape? b = some (t, cs.length) := by simp [World.shape?, hb]
theorem pt236 : Tryz.prog.underlying 236 = some (.pointer (Tryz.prog.pointee 236)) := by kernel_rfl
theorem info238s : (Tryz.prog.info? 238).any (fun i => i.size == 2) = true := by kernel_rfl
theorem info238 : ∃ i, Tryz.prog.info? 238 = some i ∧ i.size ≠ 0 := by
 have h := info238s
 cases hi : Tryz.prog.info? 238 with
 | none => rw [hi] at h; cases h
 | some i => rw [hi] at h; simp at h; exact ⟨i, rfl, by omega⟩
theorem info5p : ∃ i, Tryz.prog.info? 5 = some i ∧ i.zero = some (.int .u8 0) ∧ i.size = 1 ∧ i.bytes = 1 := by
 have h : (Tryz.prog.info? 5).any (fun i => (match i.zero with | some (.int .u8 n) => decide (n = 0) | _ => false) && (i.size == 1 && i.bytes == 1)) = true := by kernel_rfl
 cases hi : Tryz.prog.info? 5 with
 | none => rw [hi] at h; cases h
 | some i =>
  rw [hi] at h
  simp only [Option.any_some, Bool.and_eq_true, beq_iff_eq] at h
  refine ⟨i, rfl, ?_, h.2.1, h.2.2⟩
  have h1 := h.1
  split at h1
  ·rename_i n hz
   rw [hz]; simp at h1; rw [h1]
  ·cases h1
section
variable {P : Program} {Q : Exit → Act → World → Prop} {w : World} {n : Nat} {l : List (Nat × Value)} {o : Oper} {rest : List Oper} {ops : Array Oper} {a : Act}
theorem y_pz {s : Nat} {x y : Operand} (ho : o.op = .binOp .eql 236 x y s) (hx : evl l x = some (.pointer none)) (hy : evl l y = some (.pointer none)) : Yl Tryz.prog o l w (.bool true) w := fun n a F => by
 have h : ∀ w, (binOp .eql 236 (.pointer none) (.pointer none)).run Tryz.prog w = .ok (.bool true) w := fun w => by kernel_rfl
 simp [execOp, ho, F.ev hx, F.ev hy, eqGuard, h]
theorem y_pns {s b : Nat} {x y : Operand} (ho : o.op = .binOp .neq 236 x y s) (hx : evl l x = some (pt b)) (hy : evl l y = some (pt b)) : Yl Tryz.prog o l w (.bool false) w := fun n a F => by
 obtain ⟨i, hi, _⟩ := info238
 have h := Lib.run_neq_ptr_same (P := Tryz.prog) w ⟨b, 0, none⟩ Tryz.underlying236 hi
 simp [execOp, ho, F.ev hx, F.ev hy, eqGuard, h]
theorem y_tu {b e c : Nat} {x : Operand} (ho : o.op = .convert 236 293 x) (hx : evl l x = some (pt b)) (hs : w.shape? b = some (e, c)) (h0 : 0 < c) : Yl Tryz.prog o l w (pt b) w := fun n a F => by
 obtain ⟨i, hi, h2⟩ := info238
 have h := Lib.run_to_unsafe (P := Tryz.prog) w ⟨b, 0, none⟩ Tryz.underlying236 Tryz.underlying293 hi h2 hs h0
 simp [execOp, ho, F.ev hx, h]
theorem y_fu {b : Nat} {x : Operand} (ho : o.op = .convert 293 236 x) (hx : evl l x = some (pt b)) (hs : w.shape? b = some (238, 2)) : Yl Tryz.prog o l w (pt b) w := fun n a F => by
 obtain ⟨i, hi, h2⟩ := info238
 have h := Lib.run_from_unsafe (P := Tryz.prog) w ⟨b, 0, none⟩ Tryz.underlying293 Tryz.underlying236 hi hs (by kernel_rfl)
 simp [execOp, ho, F.ev hx, h]
theorem noesc (v : Value) (w : World) : (callFunc 246 #[v]).run Tryz.prog w = .ok (.value v) w := by
 rw [run_callFunc_extern Tryz.func246 (by kernel_rfl) (by kernel_rfl) (by kernel_rfl) (e := Extern.AbiNoEscape.same) (by kernel_rfl)]
 rfl
theorem y_noesc {x : Operand} {v : Value} {ats : Array Nat} (ho : o.op = .call { callee := .value (.func 246), args := #[x], argTypes := ats }) (hx : evl l x = some v) : Yl Tryz.prog o l w v w := fun n a F => by
 have hf : evl l (.func 246) = some (.func (.func 246) #[] #[]) := rfl
 simp [execOp, ho, resolve, F.ev hf, Deferred.ofValue, invoke, F.ev hx, noesc]
theorem dstB (F : Fr n a l) {t z : Nat} {p x : Operand} {b off : Nat} {v : Value} (ho : o.op = .store t p x) (hp : evl l p = some (.pointer (some ⟨b, off, none⟩))) (hx : evl l x = some v)
  (hz : ∀ w, (Go.sizeOf t).run P w = .ok z w) {e : Nat} {cs : List Value} (hb : w.heap[b]? = some (.cells cs.toArray e (0, 0))) (hlv : (cellsOf v).length = z) (hl : off + z ≤ cs.length) (h1 : ∀ u ∈ cellsOf v, u.oneCell' = true) (hg : o.guard = none) (hd : o.dst = none)
  (k : ∀ a w', Fr n a l → Keeps (fun k => k = b) w w' → w'.heap[b]? = some (.cells (putl cs off (cellsOf v)).toArray e (0, 0)) → wpList P ops Q rest a w') : wpList P ops Q (o :: rest) a w := by
 obtain ⟨w', h2, h3, h4⟩ := run_storeCells (P := P) (cellsOf v) cs off 0 w hb (by omega) h1
 refine dk (w' := w') F (fun n a F => ?_) hg hd fun a F => k a w' F h4 (by rw [Nat.add_zero] at h3; exact h3)
 have hsz : v.cells.size = z := by rw [← Array.length_toList, cellsOf_eq]; exact hlv
 simp [execOp, ho, F.ev hp, F.ev hx, Instr.storeAt, Instr.sureAddr, storeVar, hz, hsz, cellsOf_eq, h2]
theorem dasB (F : Fr n a l) {t u e B m : Nat} {x y : Operand} {v : Value} {s : ByteArray} {xs : List Value} (ho : o.op = .call { callee := .builtin .append, args := #[x, y], argTypes := #[t, u] }) (hx : evl l x = some v) (hy : evl l y = some (.string s)) (hown : w.ownsRow B e 1 v m xs)
  (ht : P.underlying t = some (.slice e)) (hu : P.underlying u = some .string) (hI : ∃ i, P.info? e = some i ∧ i.zero = some (.int .u8 0) ∧ i.size = 1 ∧ i.bytes = 1) (hb : m + s.size ≤ 140737488355328) (hB : B ≤ w.heap.size)
  (hg : o.guard = none) {d : Nat} (hd : o.dst = some d) (hn : Nat.blt d n = true)
  (k : ∀ a w' v', Fr n a ((d, v') :: l) → w'.ownsRow B e 1 v' (m + s.size) (xs ++ Lib.strCells s) → w.grownBy w' v.ownBlock → wpList P ops Q rest a w') : wpList P ops Q (o :: rest) a w := by
 obtain ⟨i, hi, h1, h2, h3⟩ := hI
 obtain ⟨v', w', hr, ho', hgr, _⟩ := Lib.run_append_own_string (P := P) w B t u o.type e i ht hu hi h1 h2 h3 v m xs hown s (by unfold maxLen; omega) hb hB
 refine dv (v := v') (w' := w') F (fun n a F => ?_) hg hd hn fun a F => k a w' v' F ho' hgr
 simp [execOp, ho, F.ev hx, F.ev hy, resolve, invoke, builtin, hr]
end
theorem own_slice {w : World} {B e z n : Nat} {v : Value} {xs : List Value} (h : w.ownsRow B e z v n xs) : ∃ A n c, v = .slice A n c := by
 rcases h.2 with ⟨rfl, _⟩ | ⟨g, cap, cur, rfl, _⟩
 ·exact ⟨_, _, _, rfl⟩
 ·exact ⟨_, _, _, rfl⟩
theorem own_keep {w w' : World} {B e n b : Nat} {v : Value} {xs : List Value} (h : w.ownsRow B e 1 v n xs) (hne : v.ownBlock ≠ some b) (hk : Keeps (fun k => k = b) w w') : w'.ownsRow B e 1 v n xs := by
 refine ⟨h.1, ?_⟩
 rcases h.2 with h2 | ⟨g, cap, cur, rfl, h3, h4, h5⟩
 ·exact .inl h2
 ·exact .inr ⟨g, cap, cur, rfl, h3, (hk.block g (Array.getElem?_eq_some_iff.1 h4).1 fun e => hne (by rw [← e]; rfl)).trans h4, h5⟩
theorem keeps_b {w w' : World} {B b : Nat} (h : B ≤ b) (hlt : b < w.heap.size) (hk : Keeps (fun k => k = b) w w') : Below B w w' :=
 ⟨hk.os, hk.tape, hk.output, hk.size, fun k hk' => hk.block k (by omega) (by omega)⟩
theorem own_grown {w w' : World} {b t : Nat} {cs : List Value} {v : Value} (hb : w.heap[b]? = some (.cells cs.toArray t (0, 0))) (hg : w.grownBy w' v.ownBlock) (hne : v.ownBlock ≠ some b) : w'.heap[b]? = some (.cells cs.toArray t (0, 0)) :=
 (hg.block b (Array.getElem?_eq_some_iff.1 hb).1 (fun e => hne e.symm)).trans hb
theorem bat_put {w2 w3 : World} {B b : Nat} {u v' : Value} {bs : List Value} {s : ByteArray} (hB : B ≤ b) (hb2 : w2.heap[b]? = some (.cells [pt b, u].toArray 238 (0, 0))) (hb3 : w3.heap[b]? = some (.cells [pt b, v'].toArray 238 (0, 0))) (hown2 : w2.ownsRow B 5 1 v' (bs.length + s.size) (bs ++ Lib.strCells s)) (hk : Keeps (fun k => k = b) w2 w3) : Lib.BuilderAt 238 5 B b (pt b) (bs ++ Lib.strCells s) w3 := by
 have hne : v'.ownBlock ≠ some b := Lib.ownBlock_ne hown2 hb2 (by decide)
 refine ⟨hB, v', hb3, ?_, hne⟩
 rw [List.length_append, Lib.strCells_length]
 exact own_keep hown2 hne hk
theorem fi238_0 : FieldIs Tryz.prog 238 0 0 := fieldIs (z := 0) Tryz.underlying238 rfl rfl rfl Tryz.sizeOf236
theorem fi238_1 : FieldIs Tryz.prog 238 1 1 := fieldIs (z := 0) Tryz.underlying238 rfl rfl rfl Tryz.sizeOf61
theorem c_copyF {b : Nat} {v : Value} (w0 : World) (hb : w0.heap[b]? = some (.cells [Value.pointer none, v].toArray 238 (0, 0))) : Calls Tryz.prog 214 [pt b].toArray w0 (Ret fun _ w' => w'.heap[b]? = some (.cells [pt b, v].toArray 238 (0, 0)) ∧ Keeps (fun k => k = b) w0 w') := by
 refine ent Tryz.func214 Tryz.ntmps214 rfl rfl ?_
 intro a F
 refine sq fun K1 hK1 => ?_
 refine rg ?_
 refine dv F (y_mv rfl rfl) rfl rfl rfl fun a F => ?_
 refine dv F (y_nc rfl rfl) rfl rfl rfl fun a F => ?_
 refine dv F (y_fa rfl rfl fi238_0) rfl rfl rfl fun a F => ?_
 refine dv F (y_ld rfl rfl (ld1 Tryz.isAgg236 (cell_at hb rfl))) rfl rfl rfl fun a F => ?_
 refine dv F (y_pz rfl rfl rfl) rfl rfl rfl fun a F => ?_
 refine dn ?_
 refine tn <| hK1 _ _ ?_
 refine ct F rfl rfl ?_
 refine rg ?_
 refine dv F (y_mv rfl rfl) rfl rfl rfl fun a F => ?_
 refine dv F (y_mv rfl rfl) rfl rfl rfl fun a F => ?_
 refine dv F (y_tu rfl rfl (shape_at hb) (Nat.zero_lt_succ _)) rfl rfl rfl fun a F => ?_
 refine dv F (y_noesc rfl rfl) rfl rfl rfl fun a F => ?_
 refine dv F (y_fu rfl rfl (shape_at hb)) rfl rfl rfl fun a F => ?_
 refine dv F (y_nc rfl rfl) rfl rfl rfl fun a F => ?_
 refine dv F (y_fa rfl rfl fi238_0) rfl rfl rfl fun a F => ?_
 refine dstB F rfl rfl rfl Tryz.sizeOf236 hb rfl (Nat.le_of_ble_eq_true rfl) one1 rfl rfl fun a w F hk hb => ?_
 refine dn ?_
 refine ?_
 exact rn0 F rfl ⟨hb, hk⟩
theorem c_copyU {b : Nat} {v : Value} (w0 : World) (hb : w0.heap[b]? = some (.cells [pt b, v].toArray 238 (0, 0))) : Calls Tryz.prog 214 [pt b].toArray w0 (Ret fun _ w' => w'.heap[b]? = some (.cells [pt b, v].toArray 238 (0, 0)) ∧ Keeps (fun k => k = b) w0 w') := by
 refine ent Tryz.func214 Tryz.ntmps214 rfl rfl ?_
 intro a F
 refine sq fun K1 hK1 => ?_
 refine rg ?_
 refine dv F (y_mv rfl rfl) rfl rfl rfl fun a F => ?_
 refine dv F (y_nc rfl rfl) rfl rfl rfl fun a F => ?_
 refine dv F (y_fa rfl rfl fi238_0) rfl rfl rfl fun a F => ?_
 refine dv F (y_ld rfl rfl (ld1 Tryz.isAgg236 (cell_at hb rfl))) rfl rfl rfl fun a F => ?_
 refine dv F (y_pn rfl rfl rfl pt236) rfl rfl rfl fun a F => ?_
 refine dn ?_
 refine tn <| hK1 _ _ ?_
 refine cf F rfl rfl ?_
 refine sq fun K2 hK2 => ?_
 refine rg ?_
 refine dv F (y_mv rfl rfl) rfl rfl rfl fun a F => ?_
 refine dv F (y_nc rfl rfl) rfl rfl rfl fun a F => ?_
 refine dv F (y_fa rfl rfl fi238_0) rfl rfl rfl fun a F => ?_
 refine dv F (y_ld rfl rfl (ld1 Tryz.isAgg236 (cell_at hb rfl))) rfl rfl rfl fun a F => ?_
 refine dv F (y_mv rfl rfl) rfl rfl rfl fun a F => ?_
 refine dv F (y_pns rfl rfl rfl) rfl rfl rfl fun a F => ?_
 refine dn ?_
 refine tn <| hK2 _ _ ?_
 refine cf F rfl rfl ?_
 refine wp_skip ?_
 refine ?_
 exact rn0 F rfl ⟨hb, Keeps.refl _ _⟩
theorem c_copyAny {B b : Nat} {bs : List Value} (w0 : World) (h : Lib.IsBuilder 238 5 B b bs w0) : Calls Tryz.prog 214 [pt b].toArray w0 (Ret fun _ w' => ∃ v, B ≤ b ∧ w'.heap[b]? = some (.cells [pt b, v].toArray 238 (0, 0)) ∧ w'.ownsRow B 5 1 v bs.length bs ∧ v.ownBlock ≠ some b ∧ Below B w0 w') := by
 rcases h with h | h <;> obtain ⟨h1, v, h2, h3, h4⟩ := h
 ·exact (c_copyF w0 h2).mono (Ret.mono fun _ w' h => ⟨v, h1, h.1, own_keep h3 h4 h.2, h4, keeps_b h1 (Array.getElem?_eq_some_iff.1 h2).1 h.2⟩)
 ·exact (c_copyU w0 h2).mono (Ret.mono fun _ w' h => ⟨v, h1, h.1, own_keep h3 h4 h.2, h4, keeps_b h1 (Array.getElem?_eq_some_iff.1 h2).1 h.2⟩)
theorem c_bws {B b : Nat} {bs : List Value} {s : ByteArray} {w0 : World} (h : Lib.IsBuilder 238 5 B b bs w0) (hlen : bs.length + s.size ≤ 140737488355328) (hBw : B ≤ w0.heap.size) : Calls Tryz.prog 173 [pt b, .string s].toArray w0 (Ret fun v w' => Lib.IsBuilder 238 5 B b (bs ++ Lib.strCells s) w' ∧ Below B w0 w') := by
 refine ent Tryz.func173 Tryz.ntmps173 rfl rfl ?_
 intro a F
 refine sq fun K1 hK1 => ?_
 refine rg ?_
 refine dv F (y_as rfl rfl) rfl rfl rfl fun a F => ?_
 refine dv F (y_as rfl rfl) rfl rfl rfl fun a F => ?_
 refine dn ?_
 refine tn <| hK1 _ _ ?_
 refine sq fun K2 hK2 => ?_
 refine rg ?_
 refine dv F (y_mv rfl rfl) rfl rfl rfl fun a F => ?_
 refine dc F (c_f rfl rfl rfl Tryz.call214) rfl rfl rfl (c_copyAny _ h) fun a v w' hr F => ?_
 obtain ⟨v, hBb, hb, hown, hne, hbel⟩ := hr
 obtain ⟨A, n, c, rfl⟩ := own_slice hown
 refine dn ?_
 refine tn <| hK2 _ _ ?_
 refine sq fun K3 hK3 => ?_
 refine rg ?_
 refine dv F (y_mv rfl rfl) rfl rfl rfl fun a F => ?_
 refine dv F (y_mv rfl rfl) rfl rfl rfl fun a F => ?_
 refine dv F (y_nc rfl rfl) rfl rfl rfl fun a F => ?_
 refine dv F (y_fa rfl rfl fi238_1) rfl rfl rfl fun a F => ?_
 refine dv F (y_ld rfl rfl (ld1 Tryz.isAgg61 (cell_at hb rfl))) rfl rfl rfl fun a F => ?_
 refine dv F (y_mv rfl rfl) rfl rfl rfl fun a F => ?_
 refine dasB F rfl rfl rfl hown Tryz.underlying61 Tryz.underlying9 info5p hlen (by have := hbel.size; omega) rfl rfl rfl fun a w2 v' F hown2 hgr => ?_
 obtain ⟨A', n', c', rfl⟩ := own_slice hown2
 have hb2 := own_grown hb hgr hne
 refine dv F (y_nc rfl rfl) rfl rfl rfl fun a F => ?_
 refine dv F (y_fa rfl rfl fi238_1) rfl rfl rfl fun a F => ?_
 refine dstB F rfl rfl rfl Tryz.sizeOf61 hb2 rfl (Nat.le_of_ble_eq_true rfl) one1 rfl rfl fun a w3 F hk hb3 => ?_
 refine dn ?_
 refine tn <| hK3 _ _ ?_
 refine sq fun K4 hK4 => ?_
 refine rg ?_
 refine dv F (y_mv rfl rfl) rfl rfl rfl fun a F => ?_
 refine dv F (y_ls rfl rfl Tryz.underlying9) rfl rfl rfl fun a F => ?_
 refine dv F (y_as rfl rfl) rfl rfl rfl fun a F => ?_
 refine dv F (y_as rfl rfl) rfl rfl rfl fun a F => ?_
 refine dn ?_
 refine tn <| hK4 _ _ ?_
 refine wp_ret ?_
 refine ?_
 exact rt2 F rfl rfl rfl ⟨.inr (bat_put hBb hb2 hb3 hown2 hk), (hbel.grown hgr (by have := hbel.size; omega) (fun k hk => (hown.lt k hk).1)).trans (keeps_b hBb (Array.getElem?_eq_some_iff.1 hb2).1 hk)⟩
end Go.Proofs.YtgcmddaibnimjaaGreatDoor
namespace Go.Proofs.YtgcmddaibnimjaaGreatDoor
open Go.RowKit Go.Eng
theorem fi52_2 : FieldIs Tryz.prog 52 2 2 := fieldIs (z := 31) Tryz.underlying52 rfl rfl rfl Tryz.sizeOf50
theorem fi55_0 : FieldIs Tryz.prog 55 0 0 := fieldIs (z := 0) Tryz.underlying55 rfl rfl rfl Tryz.sizeOf9
theorem fi55_1 : FieldIs Tryz.prog 55 1 1 := fieldIs (z := 0) Tryz.underlying55 rfl rfl rfl Tryz.sizeOf4
theorem fi55_2 : FieldIs Tryz.prog 55 2 2 := fieldIs (z := 0) Tryz.underlying55 rfl rfl rfl Tryz.sizeOf9
open Sha
structure Kn where
 path : ByteArray
 is : Bool
 data : ByteArray
def encK (k : Kn) : List Value := [.string k.path, .bool k.is, .string k.data]
def cat (ps : List ByteArray) : List Int := ps.flatMap bI
theorem cat_one (p : ByteArray) : cat [p] = bI p := by simp [cat]
theorem cat_succ {ps : List ByteArray} {i : Nat} (h : i < ps.length) : cat (ps.take (i + 1)) = cat (ps.take i) ++ bI ps[i] := by
 simp only [cat]
 rw [List.take_succ_eq_append_getElem h, List.flatMap_append]; simp
theorem cat_le {ps : List ByteArray} {i : Nat} (h : i < ps.length) {n : Nat} (hs : (cat ps).length ≤ n) : (cat (ps.take i)).length + ps[i].size ≤ n ∧ n ≤ n := by
 have e : cat ps = cat (ps.take (i + 1)) ++ cat (ps.drop (i + 1)) := by simp only [cat]; rw [← List.flatMap_append, List.take_append_drop]
 rw [e, cat_succ h] at hs
 simp only [List.length_append, bI_len] at hs
 omega
theorem cat_u64 {X : List Int} {p : ByteArray} {n : Nat} (h : X.length + p.size ≤ 1000000) (_ : n ≤ n) : IntKind.u64.wrap ((X.length : Int) + IntKind.u64.wrap (p.size : Int)) = ((X ++ bI p).length : Int) := by
 rw [IntWalk.u64_in (p.size : Int) (by omega), IntWalk.u64_in _ (by omega), List.length_append, bI_len]; omega
def sAt (X : List Int) : S8 := absorb S0 X (X.length / 64)
def bAt (X : List Int) : List Int := X.drop (64 * (X.length / 64))
theorem sAt_nil : sAt [] = S0 := by simp [sAt, absorb]
theorem bAt_nil : bAt [] = [] := by simp [bAt]
theorem bAt_len (X : List Int) : (bAt X).length < 64 := by rw [bAt, List.length_drop]; omega
theorem bAt_full (X : List Int) : (bAt X).length = X.length - 64 * (X.length / 64) := by rw [bAt, List.length_drop]
theorem absorb_take (X : List Int) {q : Nat} (h : 64 * q ≤ X.length) : absorb S0 X q = absorb S0 (X.take (64 * q)) q := by
 have := absorb_append S0 (X.take (64 * q)) (X.drop (64 * q)) q (by rw [List.length_take]; omega) 0
 rw [List.take_append_drop] at this
 exact this
theorem absorb_more (X Y : List Int) (r : Nat) : absorb S0 (X ++ Y) (X.length / 64 + r) = absorb (sAt X) (bAt X ++ Y) r := by
 have e : X ++ Y = X.take (64 * (X.length / 64)) ++ (bAt X ++ Y) := by rw [bAt, ← List.append_assoc, List.take_append_drop]
 rw [e, absorb_append S0 _ _ _ (by rw [List.length_take]; omega), sAt, absorb_take X (q := X.length / 64) (by omega)]
theorem div_more (X Y : List Int) : (X ++ Y).length / 64 = X.length / 64 + (bAt X ++ Y).length / 64 := by
 rw [List.length_append, List.length_append, bAt_full]; omega
theorem sAt_app (X Y : List Int) : sAt (X ++ Y) = absorb (sAt X) (bAt X ++ Y) ((bAt X ++ Y).length / 64) := by
 rw [← absorb_more, sAt, div_more]
theorem bAt_app (X Y : List Int) : bAt (X ++ Y) = (bAt X ++ Y).drop (64 * ((bAt X ++ Y).length / 64)) := by
 have e : X ++ Y = X.take (64 * (X.length / 64)) ++ (bAt X ++ Y) := by rw [bAt, ← List.append_assoc, List.take_append_drop]
 have h1 := div_more X Y
 rw [bAt, h1]
 conv => lhs; rw [e]
 rw [List.drop_append, List.drop_eq_nil_of_le (by rw [List.length_take]; omega), List.nil_append]
 congr 1
 rw [List.length_take]; omega
theorem cat_range (ps : List ByteArray) : ∀ b ∈ cat ps, 0 ≤ b ∧ b < 256 := by
 intro b hb
 obtain ⟨p, _, h⟩ := List.mem_flatMap.1 hb
 exact bI_range p b h
theorem bAt_range (ps : List ByteArray) : ∀ b ∈ bAt (cat ps), 0 ≤ b ∧ b < 256 := fun b hb => cat_range ps b (List.mem_of_mem_drop hb)
theorem digest_len (X : List Int) : (digest X).length = 32 := outB_len _
def dgst (X : List Int) : Dig := ⟨digest X, digest_len X⟩
theorem zpad_mod (a b : Nat) (h : a % 64 = b % 64) : zpad a = zpad b := by simp only [zpad]; omega
theorem tail_eq {X : List Int} (h : X.length ≤ 1000000) : tailOf (bAt X) (X.length : Int) = bAt X ++ (128 :: List.replicate (zpad X.length) 0 ++ (List.range 8).map fun j => lb (nbits X.length) (7 - j)) := by
 rw [tailOf, zpad_mod (bAt X).length X.length (by rw [bAt_full]; omega), nbits, IntWalk.u64_in (X.length : Int) (by omega), Int.mul_comm 8, List.append_assoc, List.cons_append]
theorem digest_end {X : List Int} (h : X.length ≤ 1000000) : (Value.agg ((outB (absorb (sAt X) (tailOf (bAt X) (X.length : Int)) ((tailOf (bAt X) (X.length : Int)).length / 64))).map (Value.int .u8)).toArray) = .agg (encD (dgst X)).toArray := by
 show _ = Value.agg ((outB (absorb S0 (padded X) ((padded X).length / 64))).map (Value.int .u8)).toArray
 have key : ∀ Y, outB (absorb (sAt X) (bAt X ++ Y) ((bAt X ++ Y).length / 64)) = outB (absorb S0 (X ++ Y) ((X ++ Y).length / 64)) := fun Y => by rw [div_more X Y, absorb_more X Y]
 rw [tail_eq h, key, padded, List.append_assoc]
def sumRd (k : Kn) : Rd := ⟨k.path, k.is, if k.is = true then dgst (bI k.data) else dig0⟩
theorem bdK2 {p : ByteArray} {b : Bool} (w : World) : (Instr.build 52 [(0, .string p), (1, .bool b)].toArray).run Tryz.prog w = .ok (.agg (encRd ⟨p, b, dig0⟩).toArray) w := by kernel_rfl
theorem bsS1 {p : ByteArray} (w : World) : (Instr.buildSlice 25 1 [(0, .string p)].toArray).run Tryz.prog w = .ok (.slice (some ⟨w.heap.size, 0, none⟩) 1 1) (w.alloc (.cells (encS p).toArray 9)) := by kernel_rfl
theorem putl_app (a b c : List Value) (h : b.length = c.length) : putl (a ++ b) a.length c = a ++ c := by
 rcases putl_whole c a b with h1 | h1
 ·rw [h1, List.drop_eq_nil_of_le (by omega), List.append_nil]
 ·omega
theorem putl_sum (r : Rd) (d : Dig) : putl (cellsOf (.agg (encRd r).toArray)) (0 + 2) (cellsOf (.agg (encD d).toArray)) = encRd ⟨r.path, r.is, d⟩ := by
 have := putl_app [.string r.path, .bool r.is] (encD r.sum) (encD d) (by rw [len32, len32])
 simpa [encRd, cellsOf] using this
theorem f39_c {A : Option Addr} {c : Nat} (ps : List ByteArray) (w0 : World) (hA : Sl w0 1 encS A ps) (hs : (cat ps).length ≤ 1000000) (hpn : ps.length ≤ 1000000) :
  Calls Tryz.prog 39 [.slice A ps.length c].toArray w0 (Ret fun v w' => v = .agg (encD (dgst (cat ps))).toArray ∧ Below w0.heap.size w0 w') := by
 refine ent Tryz.func39 Tryz.ntmps39 rfl rfl ?_
 intro a F
 have S := St.refl w0
 refine sq fun K1 hK1 => ?_
 refine rg ?_
 refine dal F S rfl Tryz.zeroValue50 rfl rfl rfl rfl fun a w b2 F S => ?_
 refine dn ?_
 refine tn <| hK1 _ _ ?_
 refine sq fun K2 hK2 => ?_
 refine rg ?_
 refine dc F (c_f rfl rfl rfl Tryz.call89) rfl rfl rfl (f89_c _) fun a v w' hr F => ?_
 obtain ⟨⟨b6, rfl, hb1, hlo1⟩, hb2⟩ := hr
 replace S := S.callRow hb2 hb1 hlo1
 rw [← S0_l] at S
 replace S := ow_nil S 5 1
 refine dv F (y_as rfl rfl) rfl rfl rfl fun a F => ?_
 refine dn ?_
 refine tn <| hK2 _ _ ?_
 refine sq fun K3 hK3 => ?_
 refine sq fun K4 hK4 => ?_
 refine rg ?_
 refine dv F (y_mv rfl rfl) rfl rfl rfl fun a F => ?_
 refine dv F (y_ln rfl rfl Tryz.underlying25) rfl rfl rfl fun a F => ?_
 refine dv F (y_mv rfl rfl) rfl rfl rfl fun a F => ?_
 refine dn ?_
 refine tn <| hK4 _ _ ?_
 refine bl ?_
 replace S : St w0 w' [bk b2 50 (encD dig0), bk b6 196 ((sAt (cat (ps.take 0))).l.flatMap encU32 ++ [Value.slice none (bAt (cat (ps.take 0))).length 0, Value.int .u64 ((cat (ps.take 0)).length : Int)]), ow 5 1 (.slice none (bAt (cat (ps.take 0))).length 0) (bAt (cat (ps.take 0))).length ((bAt (cat (ps.take 0))).flatMap encU8)] := by rw [show cat (ps.take 0) = [] from rfl, sAt_nil, bAt_nil]; exact S
 refine lp (fun m a w => ∃ (i : Nat) (A3 : Option Addr) (c3 : Nat), m = ps.length - i ∧ (i ≤ ps.length) ∧ Fr 19 a [(2, .pointer (some ⟨b2, 0, none⟩)), (3, .pointer (some ⟨b6, 0, none⟩)), (7, .slice A ps.length c), (8, .int .i64 (ps.length : Int)), (9, .int .i64 (i : Int))] ∧ St w0 w [bk b6 196 ((sAt (cat (ps.take i))).l.flatMap encU32 ++ [Value.slice A3 (bAt (cat (ps.take i))).length c3, Value.int .u64 ((cat (ps.take i)).length : Int)]), ow 5 1 (.slice A3 (bAt (cat (ps.take i))).length c3) (bAt (cat (ps.take i))).length ((bAt (cat (ps.take i))).flatMap encU8), bk b2 50 (encD dig0)]) (ps.length) ?_ ?_
 ·exact ⟨0, _, _, rfl, Nat.zero_le _, F.sub _ ⟨rfl, rfl, rfl, rfl, rfl, trivial⟩, S.pick [1, 2, 0] _ ⟨rfl, rfl, rfl, trivial⟩ rfl⟩
 ·rintro m a w ⟨i, A3, c3, hm, hi, F, S⟩
  refine sq fun K5 hK5 => ?_
  refine rg ?_
  refine dv F (y_lt rfl rfl rfl) rfl rfl rfl fun a F => ?_
  refine dn ?_
  refine tn <| hK5 _ _ ?_
  refine sq fun K6 hK6 => ?_
  refine cd F rfl (fun h1 => ?_) (fun h1 => ?_)
  ·refine wp_skip ?_
   refine tn <| hK6 _ _ ?_
   refine sq fun K7 hK7 => ?_
   refine bl ?_
   refine sq fun K8 hK8 => ?_
   have hlt : i < ps.length := by omega
   obtain ⟨ab, ao, rfl, hab, hcell⟩ := (hA.st S).at_ hlt
   have hle := cat_le hlt hs
   refine rg ?_
   refine dv F (y_ia rfl rfl rfl rfl Tryz.underlying25 Tryz.sizeOf9 i rfl hlt) rfl rfl rfl fun a F => ?_
   refine dv F (y_ld rfl rfl (ld1 Tryz.isAgg9 (hcell 0 _ rfl))) rfl rfl rfl fun a F => ?_
   refine dv F (y_as rfl rfl) rfl rfl rfl fun a F => ?_
   refine dn ?_
   refine tn <| hK8 _ _ ?_
   refine rg ?_
   refine dv F (y_mv rfl rfl) rfl rfl rfl fun a F => ?_
   refine dv F (y_mv rfl rfl) rfl rfl rfl fun a F => ?_
   refine dc F (c_f rfl rfl rfl Tryz.call90) rfl rfl rfl (f90_c (sAt (cat (ps.take i))) (bAt (cat (ps.take i))) ps[i] S (bAt_range _) (by have := bAt_len (cat (ps.take i)); omega) (by omega)) fun a v w' hr F => ?_
   obtain ⟨A4, c4, S4⟩ := hr
   rw [← sAt_app, ← bAt_app, cat_u64 hle.1 hle.2, ← cat_succ hlt] at S4
   replace S := S4
   refine dn ?_
   refine bn <| tn <| hK7 _ _ ?_
   refine rg ?_
   refine dv F (y_add rfl rfl rfl (by omega)) rfl rfl rfl fun a F => ?_
   refine dv F (y_mv rfl rfl) rfl rfl rfl fun a F => ?_
   refine dn ?_
   exact ln (by omega) ⟨i + 1, _, _, rfl, by omega, F.sub _ ⟨rfl, rfl, rfl, rfl, rfl, trivial⟩, S.pick [0, 1, 2] _ ⟨rfl, rfl, rfl, trivial⟩ rfl⟩
  ·refine wp_exit ?_
   refine tx <| lx <| bh <| tn <| hK3 _ _ ?_
   refine sq fun K9 hK9 => ?_
   obtain rfl : i = ps.length := by omega
   rw [List.take_length] at S
   refine rg ?_
   refine dv F (y_mv rfl rfl) rfl rfl rfl fun a F => ?_
   refine dc F (c_f rfl rfl rfl Tryz.call91) rfl rfl rfl (f91_c (sAt (cat ps)) (bAt (cat ps)) S (bAt_range _) (bAt_len _)) fun a v w' hr F => ?_
   obtain ⟨rfl, S4⟩ := hr
   replace S := S4
   rw [digest_end hs] at F
   refine dsw F S rfl rfl rfl Tryz.sizeOf50 (i := 2) rfl rfl (len32 _) rfl (one32 _) rfl rfl fun a w F S => ?_
   refine dn ?_
   refine tn <| hK9 _ _ ?_
   refine wp_ret ?_
   refine ?_
   exact rc1 F rfl rfl (S.lda (i := 2) rfl Tryz.isAgg50 Tryz.sizeOf50 (len32 _)) ⟨by simp [cellsOf], S.bel⟩
end Go.Proofs.YtgcmddaibnimjaaGreatDoor
namespace Go.Eng
open Go.RowKit
def lf (m k f : Nat) : Array Bool := (Array.replicate m true ++ Array.replicate k false).setIfInBounds f false
theorem lf_size {m k f : Nat} : (lf m k f).size = m + k := by simp [lf]
theorem lf_f {m k f : Nat} (h : f < m) : (lf m k f)[f]? = some false := by
 simp only [lf]; rw [Array.getElem?_setIfInBounds_self_of_lt (by simp; omega)]
theorem lf_t {m k f i : Nat} (h : i < m) (hf : i ≠ f) : (lf m k f)[i]? = some true := by
 simp only [lf]; rw [Array.getElem?_setIfInBounds_ne (Ne.symm hf), Array.getElem?_append_left (by simpa using h)]; simp [h]
theorem lf_n {m k f i : Nat} (h : m ≤ i) (hf : i ≠ f) (hk : i < m + k) : (lf m k f)[i]? = some false := by
 simp only [lf]; rw [Array.getElem?_setIfInBounds_ne (Ne.symm hf), Array.getElem?_append_right (by simpa using h)]
 have : i - m < k := by omega
 simp [this]
theorem filter_one {m f : Nat} {listed : Array Bool} (hf : f < m) (hu : listed.getD f true = false) (hall : ∀ k, k < m → k ≠ f → listed.getD k true = true) : ((List.range m).filter fun k => listed.getD k true == false) = [f] := by
 have e : ((List.range m).filter fun k => listed.getD k true == false) = (List.range m).filter fun k => k == f := by
  refine List.filter_congr fun k hk => ?_
  have hk := List.mem_range.1 hk
  by_cases h : k = f
  ·subst h; simp [hu]
  ·rw [hall k hk h]; simp [h]
 rw [e]
 have : ∀ m, f < m → (List.range m).filter (fun k => k == f) = [f] := by
  intro m
  induction m with
  | zero => intro h; omega
  | succ m ih =>
   intro h
   rw [List.range_succ, List.filter_append]
   by_cases hm : f = m
   ·subst hm
    have : (List.range f).filter (fun k => k == f) = [] := by
     rw [List.filter_eq_nil_iff]; intro a ha; have := List.mem_range.1 ha; simp; omega
    rw [this]; simp
   ·rw [ih (by omega)]
    have : ¬ m = f := fun h => hm h.symm
    simp [this]
 exact this m hf
def sinkF (ops : Array Oper) (n f : Nat) : Bool :=
 (List.range n).all fun i => i == f || (List.range (n + 1)).any fun j => decide (i < j) && !(j == f) && Region.waitsFor .any ops j i
def seqF (l' : List Oper) (m f : Nat) : Bool :=
 decide (Region.ready .any l'.toArray ((lf m (l'.length - m) f).setIfInBounds m true) = [f]) && Region.seqB .any l'.toArray (l'.drop (m + 1)).length (m + 1) (((lf m (l'.length - m) f).setIfInBounds m true).setIfInBounds f true)
theorem tail_chain {ops : Array Oper} {n : Nat} {listed : Array Bool} (hc : Region.chainB .any ops n = true) (inv : HeadInv .any ops n listed) (t : Nat) (ht : n < t) : t ∉ Region.ready .any ops listed := by
 intro hr
 obtain ⟨_, ot, hot, hall⟩ := mem_ready.1 hr
 have htlt : t < ops.size := (Array.getElem?_eq_some_iff.1 hot).1
 have h1 := List.all_eq_true.1 hc t (List.mem_range.2 htlt)
 simp only [Bool.or_eq_true, decide_eq_true_eq] at h1
 rcases h1 with h1 | h1
 ·omega
 ·obtain ⟨o', ho', e, he, hb, hon⟩ := Region.waitsFor_spec h1
  have : o' = ot := Option.some.inj (ho'.symm.trans hot)
  subst this
  have h2 := hall e he hb
  rw [hon, getD_both (inv.tail (t - 1) (by omega) (by omega))] at h2
  cases h2
theorem tail_waitsF {ops : Array Oper} {n f : Nat} {listed : Array Bool} (hs : sinkF ops n f = true) (hc : Region.chainB .any ops n = true) (hn : n < ops.size) (inv : HeadInv .any ops n listed) :
  ∀ (d i : Nat), n - i = d → i < n → i ≠ f → listed.getD i true = false → ∀ t, n ≤ t → t ∉ Region.ready .any ops listed := by
 intro d
 induction d using Nat.strongRecOn with
 | _ d ih =>
  intro i hd hi hif hun t ht hr
  obtain ⟨_, ot, hot, hall⟩ := mem_ready.1 hr
  by_cases htn : t = n
  ·subst htn
   have h1 := List.all_eq_true.1 hs i (List.mem_range.2 hi)
   simp only [Bool.or_eq_true, beq_iff_eq] at h1
   rcases h1 with h1 | h1
   ·exact absurd h1 hif
   obtain ⟨j, hj, hj2⟩ := List.any_eq_true.1 h1
   simp only [Bool.and_eq_true, decide_eq_true_eq, Bool.not_eq_true', beq_eq_false_iff_ne] at hj2
   obtain ⟨oj, hoj, e, he, hb, hon⟩ := Region.waitsFor_spec hj2.2
   have hjle : j ≤ t := by have := List.mem_range.1 hj; omega
   by_cases hjt : j = t
   ·subst hjt
    have : oj = ot := Option.some.inj (hoj.symm.trans hot)
    subst this
    have h2 := hall e he hb
    rw [hon, getD_both hun] at h2
    cases h2
   ·cases hl : listed.getD j false with
    | true =>
     have h2 := inv.closed j oj hoj hl e he hb
     rw [hon, getD_both hun] at h2
     cases h2
    | false =>
     have hjs : j < listed.size := by rw [inv.size]; omega
     exact ih (t - j) (by omega) j rfl (by omega) hj2.1.2 (getD_in hjs hl) t (Nat.le_refl _) hr
  ·exact tail_chain hc inv t (by omega) hr
section
variable {P : Program} {Q : Exit → Act → World → Prop} {w : World} {n : Nat} {l0 : List (Nat × Value)} {l' : List Oper} {m : Nat} {cl supp : List (List Nat)} {H : Nat → HOp}
theorem parF (m f : Nat) (cl supp : List (List Nat)) (l0 : List (Nat × Value)) (H : Nat → HOp) {a : Act} (F : Fr n a l0) (hm : P.follows .mixedOrders = true)
  (hB : parB l' m n cl supp (l0.map Prod.fst) = true)
  (hml1 : m < l'.length) (hfm : f < m) (hT1 : sinkF l'.toArray m f = true) (hT2 : Region.chainB .any l'.toArray m = true) (hS2 : seqF l' m f = true)
  (hS : Region.seqB .any l'.toArray (l'.drop m).length m ((Array.replicate m true) ++ Array.replicate (l'.length - m) false) = true)
  (hper : ∀ i, i < m → ∀ a w1 w2, Below w1.heap.size w1 w2 → (H i).asn a w1 → (H i).asn a w2)
  (hsup : ∀ i, i < m → ∀ a w d v, d ∉ supp.getD i [] → (H i).asn a w → (H i).asn (a.put (some d) v) w)
  (hrun : ∀ i, i < m → ∀ o, l'[i]? = some o → ∀ a w1, Below w.heap.size w w1 → Fr n a l0 → (∀ j ∈ cl.getD i [], (H j).asn a w1) →
   o.wp P a w1 (fun a' w2 => ∃ v, a' = a.put o.dst v ∧ Below w1.heap.size w1 w2 ∧ (H i).asn a' w2 ∧ ∀ b ∈ (H i).own v, w1.heap.size ≤ b ∧ b < w2.heap.size) Q)
  (hend : ∀ a w1, PJ P w n l0 l' m H (Array.replicate m true ++ Array.replicate (l'.length - m) false) a w1 → wpList P l'.toArray Q (l'.drop m) a w1)
  (hend2 : ∀ a w1 om of_, l'[m]? = some om → l'[f]? = some of_ → PJ P w n l0 l' m H (lf m (l'.length - m) f) a w1 → wpList P l'.toArray Q (om :: of_ :: l'.drop (m + 1)) a w1) : wpAny P .any l'.toArray Q l'.toArray.size (Array.replicate l'.toArray.size false) a { w with drawn := w.drawn + 1 } := by
 have hml : m ≤ l'.length := by omega
 have key : ∀ (c : Nat) (listed : Array Bool) (a : Act) (w1 : World), ((List.range m).filter fun i => listed.getD i true == false).length = c → PJ P w n l0 l' m H listed a w1 → wpAny P .any l'.toArray Q (c + (l'.length - m)) listed a w1 := by
  intro c
  induction c with
  | zero =>
   intro listed a w1 hc J
   have hall : ∀ i, i < m → listed.getD i true = true := by
    intro i hi
    have := List.filter_eq_nil_iff.1 (List.eq_nil_of_length_eq_zero hc) i (List.mem_range.2 hi)
    simpa using this
   have hl : listed = Array.replicate m true ++ Array.replicate (l'.length - m) false := by
    refine Array.ext_getElem? fun i => ?_
    have hsz : listed.size = l'.length := by simpa using J.inv.size
    rcases Nat.lt_or_ge i m with h | h
    ·have h1 := hall i h
     have hi : i < listed.size := by omega
     simp only [Array.getD_eq_getD_getElem?, Array.getElem?_eq_getElem hi] at h1 ⊢
     simp at h1
     rw [Array.getElem?_append_left (by simpa using h)]
     simp [h, h1]
    ·rcases Nat.lt_or_ge i l'.length with h' | h'
     ·have h1 := J.inv.tail i h (by simpa using h')
      have hi : i < listed.size := by omega
      simp only [Array.getD_eq_getD_getElem?, Array.getElem?_eq_getElem hi] at h1 ⊢
      simp at h1
      rw [Array.getElem?_append_right (by simpa using h)]
      have hlt : i - m < l'.length - m := by omega
      simp [h1, hlt]
     ·rw [Array.getElem?_eq_none (by omega), Array.getElem?_eq_none (by simp; omega)]
   subst hl
   have hd := hend a w1 J
   rw [Nat.zero_add, show l'.length - m = (l'.drop m).length by simp]
   exact wpAny_of_seq (l'.drop m) m _ a w1 (fun j => by simp) (by simpa using hS) hd
  | succ c ih =>
   intro listed a w1 hc J
   have hsz : listed.size = l'.length := by simpa using J.inv.size
   -- there is an unlisted head operation
   have hex : ∃ i, i < m ∧ listed.getD i true = false := by
    have : 0 < ((List.range m).filter fun i => listed.getD i true == false).length := by omega
    obtain ⟨i, hi⟩ := List.exists_mem_of_length_pos this
    simp at hi
    exact ⟨i, hi.1, by simpa using hi.2⟩
   have hready : ∀ i, i ∈ Region.ready .any l'.toArray listed → i < m ∨ (i = m ∧ ∀ k, k < m → k ≠ f → listed.getD k true = true) := by
    intro i hi
    rcases Nat.lt_or_ge i m with h | h
    ·exact .inl h
    ·refine .inr ?_
     have hk : ∀ k, k < m → k ≠ f → listed.getD k true = true := fun k hk hkf => by
      cases hu : listed.getD k true with
      | true => rfl
      | false => exact absurd hi (tail_waitsF hT1 hT2 (by simpa using hml1) J.inv (m - k) k rfl hk hkf hu i h)
     refine ⟨?_, hk⟩
     rcases Nat.lt_or_ge m i with h' | h'
     ·exact absurd hi (tail_chain hT2 J.inv i h')
     ·omega
   have hne : Region.ready .any l'.toArray listed ≠ [] := by
    obtain ⟨i, hi, hu⟩ := hex
    -- the least one
    have : ∃ i, (i < m ∧ listed.getD i true = false) ∧ ∀ j, j < i → listed.getD j true = true := by
     induction i using Nat.strongRecOn with
     | _ i ihi =>
      by_cases hj : ∃ j, j < i ∧ listed.getD j true = false
      ·obtain ⟨j, hji, hju⟩ := hj
       exact ihi j hji (by omega) hju
      ·refine ⟨i, ⟨hi, hu⟩, fun j hji => ?_⟩
       cases hb : listed.getD j true with
       | true => rfl
       | false => exact absurd ⟨j, hji, hb⟩ hj
    obtain ⟨i, ⟨hi, hu⟩, hmin⟩ := this
    obtain ⟨o, d, ho, _, _, _, _, h5, _⟩ := parB_spec hB hi
    intro hnil
    have hmem : i ∈ Region.ready .any l'.toArray listed := by
     refine mem_ready.2 ⟨hu, o, by simpa using ho, fun e he hb => ?_⟩
     have hlt := h5 e he hb
     have := hmin e.on hlt
     have hi' : e.on < listed.size := by omega
     simp only [Array.getD_eq_getD_getElem?, Array.getElem?_eq_getElem hi'] at this ⊢
     simpa using this
    rw [hnil] at hmem; cases hmem
   rw [show c + 1 + (l'.length - m) = (c + (l'.length - m)) + 1 by omega]
   refine ⟨fun h => absurd h hne, fun i hi => ?_⟩
   rcases hready i hi with him | ⟨him, hall⟩
   rotate_left
   ·subst him
    have hfu : listed.getD f true = false := by
     obtain ⟨k, hk, hku⟩ := hex
     by_cases hkf : k = f
     ·rw [← hkf]; exact hku
     ·rw [hall k hk hkf] at hku; cases hku
    have hl : listed = lf i (l'.length - i) f := by
     refine Array.ext_getElem? fun k => ?_
     rcases Nat.lt_or_ge k l'.length with h' | h'
     ·have e1 : listed[k]? = some (listed.getD k true) := by
       have hk' : k < listed.size := by omega
       simp [Array.getD_eq_getD_getElem?, Array.getElem?_eq_getElem hk']
      rw [e1]
      by_cases hkf : k = f
      ·subst hkf; rw [hfu, lf_f hfm]
      ·rcases Nat.lt_or_ge k i with h | h
       ·rw [hall k h hkf, lf_t h hkf]
       ·rw [J.inv.tail k h (by simpa using h'), lf_n h hkf (by omega)]
     ·rw [Array.getElem?_eq_none (by omega), Array.getElem?_eq_none (by rw [lf_size]; omega)]
    have hc0 : c = 0 := by
     have h1 : ((List.range i).filter fun k => listed.getD k true == false) = [f] := filter_one hfm hfu hall
     rw [h1] at hc
     simpa using hc.symm
    subst hc0
    rw [hl] at J ⊢
    obtain ⟨om, hom⟩ : ∃ om, l'[i]? = some om := ⟨_, List.getElem?_eq_getElem hml1⟩
    obtain ⟨of_, hof⟩ : ∃ o, l'[f]? = some o := ⟨_, List.getElem?_eq_getElem (by omega)⟩
    have hd := hend2 a w1 om of_ hom hof J
    simp only [seqF, Bool.and_eq_true, decide_eq_true_eq] at hS2
    have hw : wpOp P l'.toArray Q i (wpList P l'.toArray Q (of_ :: l'.drop (i + 1))) a w1 := by
     unfold wpOp; simp only [show l'.toArray[i]? = some om by simpa using hom]; exact hd
    refine wpOp_mono (fun a' w' h' => ?_) hw
    rw [show 0 + (l'.length - i) = (l'.drop (i + 1)).length + 1 by simp; omega]
    refine ⟨fun h1 => (by rw [hS2.1] at h1; cases h1), fun k hk => ?_⟩
    rw [hS2.1] at hk
    obtain rfl : k = f := by simpa using hk
    have hw2 : wpOp P l'.toArray Q k (wpList P l'.toArray Q (l'.drop (i + 1))) a' w' := by
     unfold wpOp; simp only [show l'.toArray[k]? = some of_ by simpa using hof]; exact h'
    exact wpOp_mono (fun a2 w2 h2 => wpAny_of_seq (l'.drop (i + 1)) (i + 1) _ a2 w2 (fun j => by simp) hS2.2 h2) hw2
   obtain ⟨hun, oi, hoi, hdeps⟩ := mem_ready.1 hi
   obtain ⟨o, d, ho, hg, hd, ⟨hl0, hdn⟩, hoth, h5, h6⟩ := parB_spec hB him
   have hoo : oi = o := by
    have : l'[i]? = some oi := by simpa using hoi
    rw [ho] at this; exact (Option.some.inj this).symm
   subst hoo
   have hcl := cl_listed hB J.inv i him (fun o' ho' e he hb => by
    rw [ho] at ho'; cases ho'
    exact hdeps e he hb)
   have hclm : ∀ j ∈ cl.getD i [], j < m := by
    have : ∀ i, i < m → ∀ j ∈ cl.getD i [], j < m := by
     intro i
     induction i using Nat.strongRecOn with
     | _ i ihi =>
      intro hi j hj
      obtain ⟨o, d, ho, _, _, _, _, h5, h6⟩ := parB_spec hB hi
      rcases h6 j hj with ⟨e, he, hb, rfl⟩ | ⟨e, he, hb, hjk⟩
      ·have := h5 e he hb; omega
      ·have := h5 e he hb
       exact ihi e.on this (by omega) j hjk
    exact this i him
   have hw := hrun i him oi ho a w1 J.bel J.fr (fun j hj => J.asn j (hclm j hj) (hcl j hj))
   have hunF : listed.getD i false = false := getD_both hun
   have hstep : oi.wp P a w1 (wpAny P .any l'.toArray Q (c + (l'.length - m)) (listed.setIfInBounds i true)) Q := by
    refine Oper.wp_mono (fun a' w2 hh => ?_) hw
    obtain ⟨v, rfl, hb, hasn, hown⟩ := hh
    rw [hd] at hasn ⊢
    have hset : ∀ j, j ≠ i → (listed.setIfInBounds i true).getD j false = listed.getD j false := fun j hj => getD_set_ne false (Ne.symm hj)
    -- slots of the others
    have hslot : ∀ j, j < m → j ≠ i → (a.put (some d) v).tmps.getD (dsl l' j) undef = a.tmps.getD (dsl l' j) undef := by
     intro j hj hji
     obtain ⟨oj, hoj, hdj, _⟩ := hoth j hj (Ne.symm hji)
     obtain ⟨oj', dj, hoj', _, hdj', _⟩ := parB_spec hB hj
     rw [hoj] at hoj'; cases hoj'
     have hne' : d ≠ dj := by rintro rfl; exact hdj hdj'
     have hdsl : dsl l' j = dj := by simp [dsl, hoj, hdj']
     rw [hdsl]
     simp only [Act.put, Array.getD_eq_getD_getElem?]
     rw [Array.getElem?_setIfInBounds_ne hne']
    have hdsl : dsl l' i = d := by simp [dsl, ho, hd]
    have hslotI : ∀ x, x ∈ (H i).own ((a.put (some d) v).tmps.getD (dsl l' i) undef) → w1.heap.size ≤ x ∧ x < w2.heap.size := by
     intro x hx
     rw [hdsl] at hx
     simp only [Act.put, Array.getD_eq_getD_getElem?] at hx
     rw [Array.getElem?_setIfInBounds_self_of_lt (by rw [J.fr.size]; exact hdn)] at hx
     exact hown x hx
    have hcount : ((List.range m).filter fun k => (listed.setIfInBounds i true).getD k true == false).length = c := by
     have hsz' : i < listed.size := by omega
     have e : ∀ k, ((listed.setIfInBounds i true).getD k true == false) = ((listed.getD k true == false) && !(k == i)) := by
      intro k
      by_cases hk : k = i
      ·subst hk; simp [hsz']
      ·rw [getD_set_ne true (Ne.symm hk)]; simp [hk]
     have e2 : ((List.range m).filter fun k => (listed.setIfInBounds i true).getD k true == false) = ((List.range m).filter fun k => listed.getD k true == false).filter fun k => !(k == i) := by
      rw [List.filter_filter]
      congr 1
      funext k
      rw [e k, Bool.and_comm]
     rw [e2]
     have hmem : i ∈ (List.range m).filter fun k => listed.getD k true == false := List.mem_filter.2 ⟨List.mem_range.2 him, by rw [hun]; rfl⟩
     have hnd : ((List.range m).filter fun k => listed.getD k true == false).Nodup := List.Pairwise.filter _ List.nodup_range
     have h1 : (((List.range m).filter fun k => listed.getD k true == false).filter fun k => !(k == i)) = ((List.range m).filter fun k => listed.getD k true == false).erase i := by
      rw [hnd.erase_eq_filter]; rfl
     rw [h1, List.length_erase_of_mem hmem]; omega
    refine ih _ _ _ hcount ⟨J.inv.set hi him, J.bel.trans (hb.mono J.bel.size), J.fr.put_out hl0 v, ?_, ?_, ?_⟩
    ·intro j hj hjl
     by_cases hji : j = i
     ·subst hji; exact hasn
     ·rw [hset j hji] at hjl
      refine hsup j hj _ _ d v ?_ (hper j hj _ _ _ hb (J.asn j hj hjl))
      intro hds
      obtain ⟨oj, hoj, _, hcj⟩ := hoth j hj (Ne.symm hji)
      have := cl_listed hB J.inv j hj (fun o' ho' e he hb' => J.inv.closed j o' (by simpa using ho') hjl e he hb') i (hcj hds)
      rw [hunF] at this; cases this
    ·intro j hj hjl b hbm
     by_cases hji : j = i
     ·subst hji
      have := hslotI b hbm
      exact ⟨Nat.le_trans J.bel.size this.1, this.2⟩
     ·rw [hset j hji] at hjl
      rw [hslot j hj hji] at hbm
      have := J.own j hj hjl b hbm
      exact ⟨this.1, Nat.lt_of_lt_of_le this.2 hb.size⟩
    ·intro j k hj hk hjl hkl hne' b hbj hbk
     by_cases hji : j = i
     ·subst hji
      have h1 := hslotI b hbj
      rw [hset k (Ne.symm hne')] at hkl
      rw [hslot k hk (Ne.symm hne')] at hbk
      have := J.own k hk hkl b hbk
      omega
     ·rw [hset j hji] at hjl
      rw [hslot j hj hji] at hbj
      by_cases hki : k = i
      ·subst hki
       have h1 := hslotI b hbk
       have := J.own j hj hjl b hbj
       omega
      ·rw [hset k hki] at hkl
       rw [hslot k hk hki] at hbk
       exact J.sep j k hj hk hjl hkl hne' b hbj hbk
   unfold wpOp
   simp only [hoi, wanted_none hg, if_true]
   exact .inl hstep
 have h0 := key m (Array.replicate l'.length false) a w.drew (by
  rw [List.filter_eq_self.2]
  ·simp
  ·intro i hi
   have : i < l'.length := by have := List.mem_range.1 hi; omega
   simp [this]) ⟨⟨by simp, fun j oj hj hl => (by rw [getD_replicate_false] at hl; cases hl), fun t _ ht => getD_in (by simpa using ht) (getD_replicate_false _ _)⟩, (Below.refl _ _).drew, F, fun i _ h => (by rw [getD_replicate_false] at h; cases h), fun i _ h => (by rw [getD_replicate_false] at h; cases h), fun i j _ _ h => (by rw [getD_replicate_false] at h; cases h)⟩
 rw [show m + (l'.length - m) = l'.length by omega] at h0
 simpa using h0
end
section
variable {P : Program} {Q : Exit → Act → World → Prop} {w : World} {n : Nat} {l0 : List (Nat × Value)} {l' : List Oper}
theorem rpFA (ks : List HK) (m f : Nat) (cl : List (List Nat)) (l0 : List (Nat × Value)) {a : Act} {l : List (Nat × Value)} (F : Fr n a l) (hl : Eng.sub l l0) (hm : P.follows .mixedOrders = true)
  (hB : parB l' m n cl ((List.zipWith (hsOf P) l' ks).map HS.supp) (l0.map Prod.fst) = true) (hlen : (List.zipWith (hsOf P) l' ks).length = m)
  (hml1 : m < l'.length) (hfm : f < m) (hT1 : sinkF l'.toArray m f = true) (hT2 : Region.chainB .any l'.toArray m = true) (hS2 : seqF l' m f = true)
  (hS : Region.seqB .any l'.toArray (l'.drop m).length m ((Array.replicate m true) ++ Array.replicate (l'.length - m) false) = true)
  (hrun : RunAll P Q w n l0 (List.zipWith (hsOf P) l' ks) cl l' ks)
  (hend : ∀ a w1, PJ P w n l0 l' m (fun i => ((List.zipWith (hsOf P) l' ks).getD i hs0).h) (Array.replicate m true ++ Array.replicate (l'.length - m) false) a w1 → wpList P l'.toArray Q (l'.drop m) a w1)
  (hend2 : ∀ a w1 om of_, l'[m]? = some om → l'[f]? = some of_ → PJ P w n l0 l' m (fun i => ((List.zipWith (hsOf P) l' ks).getD i hs0).h) (lf m (l'.length - m) f) a w1 → wpList P l'.toArray Q (om :: of_ :: l'.drop (m + 1)) a w1) : wpAny P .any l'.toArray Q l'.toArray.size (Array.replicate l'.toArray.size false) a { w with drawn := w.drawn + 1 } := by
 have hg : ∀ i, i < m → ∃ h, (List.zipWith (hsOf P) l' ks)[i]? = some h ∧ (List.zipWith (hsOf P) l' ks).getD i hs0 = h ∧ ((List.zipWith (hsOf P) l' ks).map HS.supp).getD i [] = h.supp := fun i hi => by
  have hi' : i < (List.zipWith (hsOf P) l' ks).length := by omega
  exact ⟨(List.zipWith (hsOf P) l' ks)[i], List.getElem?_eq_getElem hi', by rw [List.getD_eq_getElem?_getD, List.getElem?_eq_getElem hi']; rfl, by rw [List.getD_eq_getElem?_getD, List.getElem?_map, List.getElem?_eq_getElem hi']; rfl⟩
 refine parF m f cl ((List.zipWith (hsOf P) l' ks).map HS.supp) l0 (fun i => ((List.zipWith (hsOf P) l' ks).getD i hs0).h) (F.sub l0 hl) hm hB hml1 hfm hT1 hT2 hS2 hS (fun i hi a w1 w2 hb h => ?_) (fun i hi a w d v hd h => ?_) (fun i hi o ho a w1 hb Fa hA => ?_) hend hend2
 ·exact ((List.zipWith (hsOf P) l' ks).getD i hs0).per a w1 w2 hb h
 ·obtain ⟨h', _, h2, h3⟩ := hg i hi
  rw [h3] at hd
  refine ((List.zipWith (hsOf P) l' ks).getD i hs0).sup a w d v ?_ h
  rw [h2]; exact hd
 ·obtain ⟨h', h1, h2, _⟩ := hg i hi
  have := runAll_get hrun i o h' ho h1 a w1 hb Fa hA
  simp only [HS.h, h2]
  exact this
theorem rpF {id : Nat} (ks : List HK) (m f : Nat) (cl : List (List Nat)) (l0 : List (Nat × Value)) {a : Act} {l : List (Nat × Value)} (F : Fr n a l) (hl : Eng.sub l l0) (hm : P.follows .mixedOrders = true)
  (hB : parB l' m n cl ((List.zipWith (hsOf P) l' ks).map HS.supp) (l0.map Prod.fst) = true) (hlen : (List.zipWith (hsOf P) l' ks).length = m)
  (hml1 : m < l'.length) (hfm : f < m) (hT1 : sinkF l'.toArray m f = true) (hT2 : Region.chainB .any l'.toArray m = true) (hS2 : seqF l' m f = true)
  (hS : Region.seqB .any l'.toArray (l'.drop m).length m ((Array.replicate m true) ++ Array.replicate (l'.length - m) false) = true)
  (hrun : RunAll P Q w n l0 (List.zipWith (hsOf P) l' ks) cl l' ks)
  (hend : ∀ a w1, PJ P w n l0 l' m (fun i => ((List.zipWith (hsOf P) l' ks).getD i hs0).h) (Array.replicate m true ++ Array.replicate (l'.length - m) false) a w1 → wpList P l'.toArray Q (l'.drop m) a w1)
  (hend2 : ∀ a w1 om of_, l'[m]? = some om → l'[f]? = some of_ → PJ P w n l0 l' m (fun i => ((List.zipWith (hsOf P) l' ks).getD i hs0).h) (lf m (l'.length - m) f) a w1 → wpList P l'.toArray Q (om :: of_ :: l'.drop (m + 1)) a w1) : (Code.region id l'.toArray true).wp P Q a w :=
 wp_region_any hm (rpFA ks m f cl l0 F hl hm hB hlen hml1 hfm hT1 hT2 hS2 hS hrun hend hend2)
end
theorem lf_get {m k f i : Nat} (h : i < m) (hf : i ≠ f) : (lf m k f).getD i false = true := by
 rw [Array.getD_eq_getD_getElem?, lf_t h hf]; rfl
theorem EX.addF {P : Program} {n m f : Nat} {l0 : List (Nat × Value)} {w0 w w1 : World} {l' : List Oper} {H : Nat → HOp} {a : Act} {ds : List Nat} {hs : List Res} (J : PJ P w n l0 l' m H (lf m (l'.length - m) f) a w1) (hw : w0.heap.size ≤ w.heap.size) (E : EX w0 w w1 l' H a ds hs) (i : Nat) (hi : i < m) (hif : i ≠ f) (hds : (ds.all fun j => !Nat.beq j i && Nat.blt j m && !Nat.beq j f) = true) (r : Res) (hr : r.ok w1)
  (hf : ∀ k, r.fp k → k ∈ (H i).own (a.tmps.getD (dsl l' i) undef)) : EX w0 w w1 l' H a (i :: ds) (hs ++ [r]) := by
 have hb : ∀ k, r.fp k → w.heap.size ≤ k ∧ k < w1.heap.size := fun k hk => J.own i hi (lf_get hi hif) k (hf k hk)
 refine ⟨E.st.add r hr (fun k hk => ⟨Nat.le_trans hw (hb k hk).1, (hb k hk).2⟩) fun i' s hs' k hk hks => ?_, fun i' s hs' k hk => ?_⟩
 ·rcases E.of i' s hs' k hks with h | ⟨j, hj, hkj⟩
  ·have := (hb k hk).1; omega
  ·have := List.all_eq_true.1 hds j hj
   simp only [Bool.and_eq_true, Bool.not_eq_true', Nat.blt_eq] at this
   have hne : i ≠ j := by
    rintro rfl
    have h1 := this.1.1
    rw [Nat.beq_refl] at h1; cases h1
   have hnf : j ≠ f := by
    rintro rfl
    have h1 := this.2
    rw [Nat.beq_refl] at h1; cases h1
   exact J.sep i j hi this.1.2 (lf_get hi hif) (lf_get this.1.2 hnf) hne k (hf k hk) hkj
 ·rcases nth_snoc _ _ _ _ hs' with h | ⟨_, rfl⟩
  ·rcases E.of i' s h k hk with h' | ⟨j, hj, hkj⟩
   ·exact .inl h'
   ·exact .inr ⟨j, List.mem_cons_of_mem _ hj, hkj⟩
  ·exact .inr ⟨i, List.mem_cons_self .., hf k hk⟩
section
variable {P : Program} {n m f : Nat} {l0 : List (Nat × Value)} {w0 w w1 : World} {l' : List Oper} {L : List HS} {a : Act} {hs : List Res}
theorem PJ.atF (J : PJ P w n l0 l' m (fun i => (L.getD i hs0).h) (lf m (l'.length - m) f) a w1) (i : Nat) (hi : (Nat.blt i m && !Nat.beq i f) = true) : (L.getD i hs0).asn a w1 := by
 simp only [Bool.and_eq_true, Bool.not_eq_true', Nat.blt_eq] at hi
 exact J.asn i hi.1 (lf_get hi.1 (by rintro rfl; have := hi.2; rw [Nat.beq_refl] at this; cases this))
theorem EX.rowF {ds : List Nat} (J : PJ P w n l0 l' m (fun i => (L.getD i hs0).h) (lf m (l'.length - m) f) a w1) (hw : w0.heap.size ≤ w.heap.size) (E : EX w0 w w1 l' (fun i => (L.getD i hs0).h) a ds hs) (i : Nat) (hi : (Nat.blt i m && !Nat.beq i f) = true) (hds : (ds.all fun j => !Nat.beq j i && Nat.blt j m && !Nat.beq j f) = true) {b e d : Nat} {cs : List Value}
  (hd : dsl l' i = d) (hb : w1.heap[b]? = some (.cells cs.toArray e (0, 0))) (ho : (L.getD i hs0).own (a.tmps.getD d undef) = [b]) : EX w0 w w1 l' (fun i => (L.getD i hs0).h) a (i :: ds) (hs ++ [bk b e cs]) := by
 simp only [Bool.and_eq_true, Bool.not_eq_true', Nat.blt_eq] at hi
 refine EX.addF J hw E i hi.1 (by rintro rfl; have := hi.2; rw [Nat.beq_refl] at this; cases this) hds (bk b e cs) hb fun k hk => ?_
 have : k = b := hk
 subst this
 rw [hd]
 show k ∈ (L.getD i hs0).own _
 rw [ho]; simp
end
end Go.Eng
