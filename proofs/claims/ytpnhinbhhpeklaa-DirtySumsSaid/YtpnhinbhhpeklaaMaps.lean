/- A map with string keys as a resource; make of a slice. -/
import Derived.Test.YtpnhinbhhpeklaaApp
import Derived.MapKept
import Derived.WideMake
import Derived.Laws.MakeOwn
set_option linter.unusedVariables false
set_option linter.unusedSimpArgs false
namespace Go.Eng
open Go.RowKit

theorem ba_beq (a b : ByteArray) : (a == b) = decide (a = b) := by
  show (a.data == b.data) = _
  by_cases h : a = b
  · subst h; simp
  · have : a.data ≠ b.data := fun e => h (by cases a; cases b; simpa using e)
    simp [h, this]
def keyIs (s : ByteArray) : Value → Bool
  | .string b => decide (s = b)
  | _ => false
theorem keyIs_str (s b : ByteArray) : keyIs s (.string b) = decide (s = b) := rfl
theorem keyIs_inv {s : ByteArray} {v : Value} (h : keyIs s v = true) : v = .string s := by
  cases v <;> simp [keyIs] at h
  rw [h]
def fnd (s : ByteArray) : List MapEntry → Nat → Option (Nat × Value)
  | [], _ => none
  | e :: es, i => if keyIs s e.key then some (i, e.val) else fnd s es (i + 1)
def StrKeys (es : List MapEntry) : Prop := ∀ e ∈ es, ∃ a, e.key = .string a

theorem findNow_str (s : ByteArray) : ∀ (es : List MapEntry) (i : Nat), StrKeys es → Instr.findNow .string (.string s) es i = some (fnd s es i)
  | [], i, _ => rfl
  | e :: es, i, h => by
    obtain ⟨a, ha⟩ := h e (List.mem_cons_self ..)
    have ih := findNow_str s es (i + 1) fun x hx => h x (List.mem_cons_of_mem _ hx)
    simp only [Instr.findNow, fnd, ha, Instr.sameNow, keyIs, ba_beq]
    by_cases h : s = a <;> simp [ih, h]
theorem fnd_snd (s : ByteArray) : ∀ (es : List MapEntry) (i j : Nat), (fnd s es i).map Prod.snd = (fnd s es j).map Prod.snd
  | [], _, _ => rfl
  | e :: es, i, j => by
    simp only [fnd]
    split
    · rfl
    · exact fnd_snd s es _ _
theorem fnd_push (s : ByteArray) (e : MapEntry) : ∀ (es : List MapEntry) (i : Nat), (fnd s (es ++ [e]) i).map Prod.snd = ((fnd s es i).map Prod.snd).or (if keyIs s e.key then some e.val else none)
  | [], i => by simp only [List.nil_append, fnd]; split <;> rfl
  | x :: es, i => by
    simp only [List.cons_append, fnd]
    split
    · rfl
    · exact fnd_push s e es _
theorem fnd_at (s : ByteArray) : ∀ (es : List MapEntry) (i j : Nat) (v : Value), fnd s es i = some (j, v) → i ≤ j ∧ ∃ e, es[j - i]? = some e ∧ keyIs s e.key = true
  | [], i, j, v, h => by cases h
  | e :: es, i, j, v, h => by
    simp only [fnd] at h
    split at h
    · rename_i hk
      cases h
      exact ⟨Nat.le_refl _, e, by simp, hk⟩
    · obtain ⟨h1, x, h2, h3⟩ := fnd_at s es (i + 1) j v h
      refine ⟨by omega, x, ?_, h3⟩
      rw [show j - i = (j - (i + 1)) + 1 by omega]
      simpa using h2
theorem fnd_mod (s t : ByteArray) (w : Value) (f : MapEntry → MapEntry) (hf : ∀ e, keyIs s e.key = true → (f e).key = .string s ∧ (f e).val = w) : ∀ (es : List MapEntry) (i j : Nat) (v : Value), fnd s es i = some (j, v) →
    (fnd t (es.modify (j - i) f) i).map Prod.snd = if t = s then some w else (fnd t es i).map Prod.snd
  | [], i, j, v, h => by cases h
  | e :: es, i, j, v, h => by
    have ha := fnd_at s (e :: es) i j v h
    simp only [fnd] at h
    split at h
    · rename_i hk
      cases h
      obtain ⟨h1, h2⟩ := hf e hk
      have e1 : (e :: es).modify (i - i) f = f e :: es := by simp [List.modify]
      rw [e1]
      simp only [fnd, h1, h2, keyIs_str]
      by_cases hts : t = s
      · subst hts; simp
      · have h3 : keyIs t e.key = false := by
          rw [keyIs_inv hk, keyIs_str]; simp [hts]
        simp [hts, h3]
    · rename_i hk
      obtain ⟨h1, _⟩ := fnd_at s es (i + 1) j v h
      have e1 : (e :: es).modify (j - i) f = e :: es.modify (j - (i + 1)) f := by
        rw [show j - i = (j - (i + 1)) + 1 by omega]; simp
      rw [e1]
      simp only [fnd]
      by_cases hts : t = s
      · subst hts
        have ih := fnd_mod t t w f hf es (i + 1) j v h
        simp only [hk, if_true] at ih ⊢
        simpa using ih
      · have ih := fnd_mod s t w f hf es (i + 1) j v h
        rw [if_neg hts] at ih ⊢
        split
        · rfl
        · exact ih

/-- the map in block b answers f -/
def MpOk (w : World) (b : Nat) (f : ByteArray → Option Value) : Prop := ∃ es clock, w.heap[b]? = some (.map es clock) ∧ StrKeys es.toList ∧ ∀ s, (fnd s es.toList 0).map Prod.snd = f s
def mp (b : Nat) (f : ByteArray → Option Value) : Res := ⟨fun k => k = b, fun w => MpOk w b f, fun w w' h ⟨es, clock, h1, h2⟩ => ⟨es, clock, (h b rfl).trans h1, h2⟩⟩
theorem MpOk.below {w w' : World} {b : Nat} {f : ByteArray → Option Value} (h : MpOk w b f) (hb : Below w.heap.size w w') : MpOk w' b f := by
  obtain ⟨es, clock, h1, h2⟩ := h
  exact ⟨es, clock, (hb.block b (Array.getElem?_eq_some_iff.1 h1).1).trans h1, h2⟩

section
variable {P : Program} {w : World} {b : Nat} {f : ByteArray → Option Value}
theorem run_lk (h : MpOk w b f) {t kt et : Nat} {z : Value} {s : ByteArray} (ht : P.underlying t = some (.map kt et)) (hk : P.underlying kt = some .string) (hz : ∀ w, (zeroValue et).run P w = .ok z w) :
    (Instr.lookup t (.map (some b)) (.string s) false).run P w = .ok ((f s).getD z) w := by
  obtain ⟨es, clock, h1, h2, h3⟩ := h
  have hc : ∀ e, (Instr.checkKey e 10000 kt (.string s)).run P w = .ok () w := fun e => MapKept.run_checkKey (k := .string s) hk (by simp [MapKept.IsKey]) e 9999
  have hf := MapKept.run_findKey (P := P) (w := w) (kt := kt) (k := .string s) (l := es.toList) hk (findNow_str s es.toList 0 h2)
  rw [← h3 s]
  simp only [Instr.lookup, Sem.run_bind, run_underlying ht, Result.andThen_ok, MapKept.run_getObj_map h1, Sem.run_pure]
  rw [hc, Result.andThen_ok, hf, Result.andThen_ok]
  cases hfn : fnd s es.toList 0 with
  | none => simp [hz]
  | some x => simp
theorem run_mu (h : MpOk w b f) {t kt et : Nat} {s : ByteArray} {v : Value} (ht : P.underlying t = some (.map kt et)) (hk : P.underlying kt = some .string) :
    ∃ w', (Instr.mapUpdate t (.map (some b)) (.string s) v).run P w = .ok () w' ∧ Keeps (fun k => k = b) w w' ∧ MpOk w' b fun t => if t = s then some v else f t := by
  obtain ⟨es, clock, h1, h2, h3⟩ := h
  have hc : (Instr.checkKey false 10000 kt (.string s)).run P w = .ok () w := MapKept.run_checkKey (k := .string s) hk (by simp [MapKept.IsKey]) false 9999
  have hf := MapKept.run_findKey (P := P) (w := w) (kt := kt) (k := .string s) (l := es.toList) hk (findNow_str s es.toList 0 h2)
  have hb : b < w.heap.size := (Array.getElem?_eq_some_iff.1 h1).1
  have hK : ∀ o, Keeps (fun k => k = b) w { w with heap := w.heap.setIfInBounds b o } := fun o => ⟨rfl, rfl, rfl, by simp, fun k hk hn => by simp only; rw [Array.getElem?_setIfInBounds_ne (fun e => hn e.symm)]⟩
  have hat : ∀ o, ({ w with heap := w.heap.setIfInBounds b o } : World).heap[b]? = some o := fun o => by simp only; rw [Array.getElem?_setIfInBounds_self_of_lt hb]
  cases hfn : fnd s es.toList 0 with
  | none =>
    refine ⟨_, ?_, hK (.map (es.push { key := .string s, val := v, born := clock }) (clock + 1)), _, _, hat _, ?_, ?_⟩
    · simp only [Instr.mapUpdate, Sem.run_bind, run_underlying ht, Result.andThen_ok, MapKept.run_getObj_map h1, hc, hf, hfn, MapKept.run_setObj_map _ h1]
    · intro e he
      rw [Array.toList_push, List.mem_append] at he
      rcases he with he | he
      · exact h2 e he
      · simp at he; exact ⟨s, by rw [he]⟩
    · intro t
      rw [Array.toList_push, fnd_push, h3 t]
      by_cases hts : t = s
      · subst hts
        have : f t = none := by rw [← h3 t, hfn]; rfl
        simp [this, keyIs_str]
      · simp [hts, keyIs_str]
  | some x =>
    obtain ⟨j, old⟩ := x
    obtain ⟨_, e0, he0, hk0⟩ := fnd_at s es.toList 0 j old hfn
    rw [Nat.sub_zero] at he0
    have hek : e0.key = .string s := keyIs_inv hk0
    have hst : ∀ w, (Instr.keyThatStays ((es[j]?.map (·.key)).getD (.string s)) (.string s)).run P w = .ok (.string s) w := by
      intro w
      have : es[j]? = some e0 := by simpa using he0
      rw [this]
      simp [Instr.keyThatStays, hek, Instr.sameBits, ba_beq]
    refine ⟨_, ?_, hK (.map (es.modify j fun e => { e with key := .string s, val := v }) clock), _, _, hat _, ?_, ?_⟩
    · simp only [Instr.mapUpdate, Sem.run_bind, run_underlying ht, Result.andThen_ok, MapKept.run_getObj_map h1, hc, hf, hfn, hst, MapKept.run_setObj_map _ h1]
    · intro e he
      rw [Array.toList_modify] at he
      obtain ⟨i, hi⟩ := List.mem_iff_getElem?.1 he
      rw [List.getElem?_modify] at hi
      cases hei : es.toList[i]? with
      | none => simp [hei] at hi
      | some y =>
        simp [hei] at hi
        have hy := h2 y (List.mem_of_getElem? hei)
        by_cases hij : j = i
        · simp [hij] at hi; exact ⟨s, by rw [← hi]⟩
        · simp [hij] at hi; rw [← hi]; exact hy
    · intro t
      rw [Array.toList_modify]
      have := fnd_mod s t v (fun e => { e with key := .string s, val := v }) (fun e _ => ⟨rfl, rfl⟩) es.toList 0 j old hfn
      rw [Nat.sub_zero] at this
      rw [this, h3 t]
end

section
variable {P : Program} {Q : Exit → Act → World → Prop} {w w0 : World} {n : Nat} {l : List (Nat × Value)} {o : Oper} {rest : List Oper} {ops : Array Oper} {a : Act} {hs : List Res}
theorem y_lk {t kt et b : Nat} {x ix : Operand} {s : ByteArray} {z : Value} {f : ByteArray → Option Value} (ho : o.op = .lookup t x ix false) (hx : evl l x = some (.map (some b))) (hi : evl l ix = some (.string s)) (M : MpOk w b f)
    (ht : P.underlying t = some (.map kt et)) (hk : P.underlying kt = some .string) (hz : ∀ w, (zeroValue et).run P w = .ok z w) : Yl P o l w ((f s).getD z) w := fun n a F => by
  simp [execOp, ho, F.ev hx, F.ev hi, run_lk M ht hk hz]
theorem dmm (F : Fr n a l) (S : St w0 w hs) {t : Nat} (ho : o.op = .makeMap t none) (hg : o.guard = none) {d : Nat} (hd : o.dst = some d) (hn : Nat.blt d n = true)
    (k : ∀ a w' b, Fr n a ((d, .map (some b)) :: l) → St w0 w' (hs ++ [mp b fun _ => none]) → wpList P ops Q rest a w') : wpList P ops Q (o :: rest) a w := by
  refine dv (v := .map (some w.heap.size)) (w' := w.alloc (.map #[] 0)) F (fun n a F => ?_) hg hd hn fun a F => k a _ _ F ?_
  · simp [execOp, ho, run_makeMap_plain]
  · refine S.callAdd ((Below.refl _ _).alloc (Nat.le_refl _) _) _ ⟨#[], 0, ?_, fun e he => (by cases he), fun s => rfl⟩ fun k hk => ?_
    · show (w.heap.push _)[w.heap.size]? = _
      simp
    · have : k = w.heap.size := hk
      subst this
      show _ ∧ _ < (w.heap.push _).size
      simp
theorem dmu (F : Fr n a l) (S : St w0 w hs) {t kt et b : Nat} {x ix vx : Operand} {s : ByteArray} {v : Value} {f : ByteArray → Option Value} (ho : o.op = .mapUpdate t x ix vx) (hx : evl l x = some (.map (some b))) (hi : evl l ix = some (.string s)) (hv : evl l vx = some v)
    {i : Nat} (hr : nth hs i = some (mp b f)) (ht : P.underlying t = some (.map kt et)) (hk : P.underlying kt = some .string) (hg : o.guard = none) (hd : o.dst = none)
    (k : ∀ a w', Fr n a l → St w0 w' (upd hs i (mp b fun t => if t = s then some v else f t)) → wpList P ops Q rest a w') : wpList P ops Q (o :: rest) a w := by
  obtain ⟨w', h1, h2, h3⟩ := run_mu (P := P) (s := s) (v := v) (S.ok hr) ht hk
  refine dk (w' := w') F (fun n a F => ?_) hg hd fun a F => k a w' F (S.turn hr h2 _ h3 fun j hj => ?_)
  · simp [execOp, ho, F.ev hx, F.ev hi, F.ev hv, h1]
  · have : j = b := hj
    subst this
    refine ⟨.inl rfl, ?_⟩
    obtain ⟨es, clock, h4, _⟩ := h3
    exact (Array.getElem?_eq_some_iff.1 h4).1

/-- make([]T, n), an element one cell -/
theorem dms (F : Fr n a l) (S : St w0 w hs) {t e by_ : Nat} {x y : Operand} {m : Nat} {z : Value} {k1 k2 : IntKind} (ho : o.op = .makeSlice t x y) (hx : evl l x = some (.int k1 (m : Int))) (hy : evl l y = some (.int k2 (m : Int)))
    (ht : P.underlying t = some (.slice e)) (hI : ∃ i, P.info? e = some i ∧ i.zero = some z ∧ i.size = 1 ∧ i.bytes = by_) (hz : z.cells = #[z]) (hb : by_ * m ≤ 281474976710656) (h63 : m ≤ 9223372036854775807)
    (hg : o.guard = none) {d : Nat} (hd : o.dst = some d) (hn : Nat.blt d n = true)
    (k : ∀ a w' b, Fr n a ((d, .slice (some ⟨b, 0, none⟩) m m) :: l) → St w0 w' (hs ++ [bk b e (List.replicate m z)]) → wpList P ops Q rest a w') : wpList P ops Q (o :: rest) a w := by
  obtain ⟨i, h1, h2, h3, h4⟩ := hI
  have h5 : ((by_ * m : Nat) : Int) ≤ 281474976710656 := by omega
  rw [Int.natCast_mul] at h5
  have hr := run_make (P := P) w t e i z ht h1 h2 k1 k2 (m : Int) (m : Int) (by omega) (Int.le_refl _) (by rw [h4]; exact h5) (by omega)
  have hc : madeCells z.cells ((m : Int).toNat * i.size) = (List.replicate m z).toArray := by
    rw [hz, h3]
    refine Array.ext_getElem? fun j => ?_
    simp [madeCells]
    by_cases hj : j < m
    · simp [hj, Nat.mod_one]
    · simp [hj]
  rw [hc] at hr
  refine dv (v := .slice (some ⟨w.heap.size, 0, none⟩) m m) (w' := w.alloc (.cells (List.replicate m z).toArray e)) F (fun n a F => ?_) hg hd hn fun a F => k a _ _ F (S.row e _)
  simp [execOp, ho, F.ev hx, F.ev hy, hr]
end
end Go.Eng
