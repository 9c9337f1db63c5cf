/- Walks of layer 27, first part. -/
import Derived.Test.YtpnhinbhhpeklaaEncT
set_option linter.unusedVariables false
set_option linter.unusedSimpArgs false
namespace Go.Proofs.Ytpnhinbhhpeklaa
open Go.RowKit Go.Eng DirtyPlain

/-- the first place at which p holds, or -1 -/
def idx {α : Type} (p : α → Bool) (xs : List α) : Int := match xs.findIdx? p with | some i => (i : Int) | none => -1
theorem idx_hit {α : Type} (p : α → Bool) (xs : List α) (i : Nat) (hi : i < xs.length) (h : p xs[i] = true) (hno : ∀ (j : Nat) (hj : j < xs.length), j < i → p xs[j] = false) : idx p xs = (i : Int) := by
  have : xs.findIdx? p = some i := by
    rw [List.findIdx?_eq_some_iff_getElem]
    exact ⟨hi, h, fun j hj => by simp [hno j (by omega) hj]⟩
  simp [idx, this]
theorem idx_miss {α : Type} (p : α → Bool) (xs : List α) (hno : ∀ (j : Nat) (hj : j < xs.length), p xs[j] = false) : idx p xs = -1 := by
  have : xs.findIdx? p = none := by
    rw [List.findIdx?_eq_none_iff]
    intro x hx
    obtain ⟨j, hj, rfl⟩ := List.getElem_of_mem hx
    exact hno j hj
  simp [idx, this]
theorem idx_any {α : Type} (p : α → Bool) (xs : List α) : decide (0 ≤ idx p xs) = xs.any p := by
  unfold idx
  cases h : xs.findIdx? p with
  | none =>
    rw [List.findIdx?_eq_none_iff] at h
    simp only [show ¬ ((0 : Int) ≤ -1) by omega, decide_false]
    symm
    rw [List.any_eq_false]
    intro x hx; simp [h x hx]
  | some i =>
    rw [List.findIdx?_eq_some_iff_getElem] at h
    obtain ⟨hi, h, _⟩ := h
    have : xs.any p = true := List.any_eq_true.2 ⟨xs[i], List.getElem_mem hi, h⟩
    simp [this]
theorem any_hit {α : Type} (p : α → Bool) (xs : List α) (i : Nat) (hi : i < xs.length) (h : p xs[i] = true) : xs.any p = true := List.any_eq_true.2 ⟨xs[i], List.getElem_mem hi, h⟩
theorem any_miss {α : Type} (p : α → Bool) (xs : List α) (hno : ∀ (j : Nat) (hj : j < xs.length), p xs[j] = false) : xs.any p = false := by
  rw [List.any_eq_false]
  intro x hx
  obtain ⟨j, hj, rfl⟩ := List.getElem_of_mem hx
  simp [hno j hj]
theorem fi37_0 : FieldIs Try.prog 37 0 0 := fieldIs (z := 0) Try.underlying37 rfl rfl rfl Try.sizeOf9
/-- slices.IndexFunc over reads, for a predicate that lays memory at most. -/
theorem f21_c {A : Option Addr} {c : Nat} {xs : List Rd} (w0 : World) (p : Rd → Bool) (g : Nat) (cap : List Value) (he : ∀ (args : Array Value) (w : World), (callFunc g args).run Try.prog w = .ok (.enter g args) w)
    (hp : ∀ (x : Rd) (W : World), Below w0.heap.size w0 W → Calls Try.prog g ([Value.agg (encRd x).toArray] ++ cap).toArray W (Ret fun v w' => v = .bool (p x) ∧ Below W.heap.size W w')) (hA : Sl w0 34 encRd A xs) (hn : xs.length ≤ 140737488351232) :
    Calls Try.prog 21 [.slice A xs.length c, .func (.func g) #[] cap.toArray].toArray w0 (Ret fun v w' => v = .int .i64 (idx p xs) ∧ Below w0.heap.size w0 w') := by
  refine ent Try.func21 Try.ntmps21 rfl rfl ?_
  intro a F
  have S := St.refl w0
  refine sq fun K1 hK1 => ?_
  refine rg ?_
  refine dv F (y_as rfl rfl) rfl rfl rfl fun a F => ?_
  refine dn ?_
  refine tn <| hK1 _ _ ?_
  refine sq fun K2 hK2 => ?_
  refine sq fun K3 hK3 => ?_
  refine rg ?_
  refine dv F (y_mv rfl rfl) rfl rfl rfl fun a F => ?_
  refine dv F (y_ln rfl rfl Try.underlying23) rfl rfl rfl fun a F => ?_
  refine dv F (y_mv rfl rfl) rfl rfl rfl fun a F => ?_
  refine dn ?_
  refine tn <| hK3 _ _ ?_
  refine bl ?_
  refine lp (fun m a w => ∃ i : Nat, m = xs.length - i ∧ (i ≤ xs.length) ∧ (∀ (j : Nat) (hj : j < xs.length), j < i → p xs[j] = false) ∧ Fr 19 a [(0, .slice A xs.length c), (1, .func (.func g) #[] cap.toArray), (7, .int .i64 (xs.length : Int)), (8, .int .i64 (i : Int))] ∧ St w0 w []) (xs.length) ?_ ?_
  · exact ⟨0, rfl, Nat.zero_le _, fun j _ h => absurd h (Nat.not_lt_zero j), F.sub _ ⟨rfl, rfl, rfl, rfl, trivial⟩, S.pick [] _ trivial rfl⟩
  · rintro m a w ⟨i, hm, hi, hno, F, S⟩
    refine sq fun K4 hK4 => ?_
    refine rg ?_
    refine dv F (y_lt rfl rfl rfl) rfl rfl rfl fun a F => ?_
    refine dn ?_
    refine tn <| hK4 _ _ ?_
    refine sq fun K5 hK5 => ?_
    refine cd F rfl (fun h1 => ?_) (fun h1 => ?_)
    · refine wp_skip ?_
      refine tn <| hK5 _ _ ?_
      refine sq fun K6 hK6 => ?_
      refine bl ?_
      refine sq fun K7 hK7 => ?_
      refine rg ?_
      refine dv F (y_mv rfl rfl) rfl rfl rfl fun a F => ?_
      refine dv F (y_as rfl rfl) rfl rfl rfl fun a F => ?_
      refine dn ?_
      refine tn <| hK7 _ _ ?_
      refine sq fun K8 hK8 => ?_
      refine rg ?_
      refine dv F (y_mv rfl rfl) rfl rfl rfl fun a F => ?_
      refine dv F (y_mv rfl rfl) rfl rfl rfl fun a F => ?_
      refine dv F (y_mv rfl rfl) rfl rfl rfl fun a F => ?_
      have hlt : i < xs.length := by omega
      obtain ⟨ab, ao, rfl, hab, hcell⟩ := (hA.st S).at_ hlt
      refine dv F (y_ia rfl rfl rfl rfl Try.underlying23 Try.sizeOf37 i rfl hlt) rfl rfl rfl fun a F => ?_
      refine dv F (y_ld rfl rfl (lda Try.isAgg37 Try.sizeOf37 (len37 _) hcell)) rfl rfl rfl fun a F => ?_
      refine dc F (c_f rfl rfl rfl he) rfl rfl rfl (hp _ _ S.bel) fun a v w' hr F => ?_
      obtain ⟨rfl, hb⟩ := hr
      replace S := S.call hb
      refine dn ?_
      refine tn <| hK8 _ _ ?_
      refine cb F rfl (fun h2 => ?_) (fun h2 => ?_)
      · refine sq fun K9 hK9 => ?_
        refine rg ?_
        refine dv F (y_mv rfl rfl) rfl rfl rfl fun a F => ?_
        refine dv F (y_as rfl rfl) rfl rfl rfl fun a F => ?_
        refine dn ?_
        refine tn <| hK9 _ _ ?_
        refine wp_ret ?_
        refine br <| tr <| lr <| br <| tr <| ?_
        exact rt1 F rfl rfl ⟨by rw [idx_hit p xs i hlt h2 hno], S.bel⟩
      · refine wp_skip ?_
        refine bn <| tn <| hK6 _ _ ?_
        refine rg ?_
        refine dv F (y_add rfl rfl rfl (by omega)) rfl rfl rfl fun a F => ?_
        refine dv F (y_mv rfl rfl) rfl rfl rfl fun a F => ?_
        refine dn ?_
        exact ln (by omega) ⟨i + 1, rfl, by omega, fun j hj h => by
              by_cases e : j = i
              · subst e; exact h2
              · exact hno j hj (by omega), F.sub _ ⟨rfl, rfl, rfl, rfl, trivial⟩, S.pick [] _ trivial rfl⟩
    · refine wp_exit ?_
      refine tx <| lx <| bh <| tn <| hK2 _ _ ?_
      refine sq fun K10 hK10 => ?_
      refine rg ?_
      refine dv F (y_as rfl rfl) rfl rfl rfl fun a F => ?_
      refine dn ?_
      refine tn <| hK10 _ _ ?_
      refine wp_ret ?_
      refine ?_
      exact rt1 F rfl rfl ⟨by rw [idx_miss p xs fun j hj => hno j hj (by omega)], S.bel⟩

theorem f22_c (k r : Rd) (b : Nat) (w0 : World) (hb : w0.heap[b]? = some (.cells (encRd r).toArray 37 (0, 0))) :
    Calls Try.prog 22 ([Value.agg (encRd k).toArray] ++ [Value.pointer (some ⟨b, 0, none⟩)]).toArray w0 (Ret fun v w' => v = .bool (decide (k.path = r.path)) ∧ Below w0.heap.size w0 w') := by
  have hr : w0.cell? ⟨b, 0, none⟩ = some (.string r.path) := by simp [World.cell?, hb, encRd]
  have hbl : b < w0.heap.size := (Array.getElem?_eq_some_iff.1 hb).1
  refine ent Try.func22 Try.ntmps22 rfl rfl ?_
  intro a F
  have S := St.refl w0
  refine sq fun K1 hK1 => ?_
  refine rg ?_
  refine dbx F S rfl rfl rfl rfl rfl rfl fun a w b2 F S => ?_
  refine dv F (y_as rfl rfl) rfl rfl rfl fun a F => ?_
  refine dn ?_
  refine tn <| hK1 _ _ ?_
  refine sq fun K2 hK2 => ?_
  refine rg ?_
  refine dv F (y_fa rfl rfl fi37_0) rfl rfl rfl fun a F => ?_
  refine dv F (y_ld rfl rfl (S.ld (i := 0) rfl rfl Try.isAgg9)) rfl rfl rfl fun a F => ?_
  refine dv F (y_fa rfl rfl fi37_0) rfl rfl rfl fun a F => ?_
  refine dv F (y_ld rfl rfl (ld1 Try.isAgg9 ((S.bel.cell (p := ⟨b, 0, none⟩) hbl).trans hr))) rfl rfl rfl fun a F => ?_
  refine dv F (y_se rfl rfl rfl) rfl rfl rfl fun a F => ?_
  refine dv F (y_as rfl rfl) rfl rfl rfl fun a F => ?_
  refine dn ?_
  refine tn <| hK2 _ _ ?_
  refine wp_ret ?_
  refine ?_
  exact rt1 F rfl rfl ⟨rfl, S.bel⟩

theorem f33_c {A : Option Addr} {c : Nat} {xs : List Dig} (w0 : World) (y : Dig) (hA : Sl w0 32 encD A xs) (hn : xs.length ≤ 140737488351232) :
    Calls Try.prog 33 [.slice A xs.length c, .agg (encD y).toArray].toArray w0 (Ret fun v w' => v = .int .i64 (idx (fun x => decide (y = x)) xs) ∧ Below w0.heap.size w0 w') := by
  refine ent Try.func33 Try.ntmps33 rfl rfl ?_
  intro a F
  have S := St.refl w0
  refine sq fun K1 hK1 => ?_
  refine rg ?_
  refine dbx F S rfl rfl rfl rfl rfl rfl fun a w b3 F S => ?_
  refine dv F (y_as rfl rfl) rfl rfl rfl fun a F => ?_
  refine dn ?_
  refine tn <| hK1 _ _ ?_
  refine sq fun K2 hK2 => ?_
  refine sq fun K3 hK3 => ?_
  refine rg ?_
  refine dv F (y_mv rfl rfl) rfl rfl rfl fun a F => ?_
  refine dv F (y_ln rfl rfl Try.underlying24) rfl rfl rfl fun a F => ?_
  refine dv F (y_mv rfl rfl) rfl rfl rfl fun a F => ?_
  refine dn ?_
  refine tn <| hK3 _ _ ?_
  refine bl ?_
  refine lp (fun m a w => ∃ i : Nat, m = xs.length - i ∧ (i ≤ xs.length) ∧ (∀ (j : Nat) (hj : j < xs.length), j < i → decide (y = xs[j]) = false) ∧ Fr 19 a [(0, .slice A xs.length c), (3, .pointer (some ⟨b3, 0, none⟩)), (7, .int .i64 (xs.length : Int)), (8, .int .i64 (i : Int))] ∧ St w0 w [bk b3 32 (encD y)]) (xs.length) ?_ ?_
  · exact ⟨0, rfl, Nat.zero_le _, fun j _ h => absurd h (Nat.not_lt_zero j), F.sub _ ⟨rfl, rfl, rfl, rfl, trivial⟩, S.pick [0] _ ⟨rfl, trivial⟩ rfl⟩
  · rintro m a w ⟨i, hm, hi, hno, F, S⟩
    refine sq fun K4 hK4 => ?_
    refine rg ?_
    refine dv F (y_lt rfl rfl rfl) rfl rfl rfl fun a F => ?_
    refine dn ?_
    refine tn <| hK4 _ _ ?_
    refine sq fun K5 hK5 => ?_
    refine cd F rfl (fun h1 => ?_) (fun h1 => ?_)
    · refine wp_skip ?_
      refine tn <| hK5 _ _ ?_
      refine sq fun K6 hK6 => ?_
      refine bl ?_
      refine sq fun K7 hK7 => ?_
      refine rg ?_
      refine dv F (y_mv rfl rfl) rfl rfl rfl fun a F => ?_
      refine dv F (y_as rfl rfl) rfl rfl rfl fun a F => ?_
      refine dn ?_
      refine tn <| hK7 _ _ ?_
      refine sq fun K8 hK8 => ?_
      have hlt : i < xs.length := by omega
      obtain ⟨ab, ao, rfl, hab, _⟩ := (hA.st S).at_ hlt
      refine rq (C := fun w => St _ w _) Try.mixed (by kernel_rfl) (S.drewN 1) ?_
      refine qv F (fun w S => y_ld rfl rfl (S.lda (i := 0) rfl Try.isAgg32 Try.sizeOf32 (len32 _))) rfl rfl rfl fun a F => ?_
      refine qv F (fun w S => y_mv rfl rfl) rfl rfl rfl fun a F => ?_
      refine qv F (fun w S => y_mv rfl rfl) rfl rfl rfl fun a F => ?_
      refine qv F (fun w S => y_ia rfl rfl rfl rfl Try.underlying24 Try.sizeOf32 i rfl hlt) rfl rfl rfl fun a F => ?_
      refine qv F (fun w S => y_ld rfl rfl (by
            obtain ⟨ab', ao', e, _, hcell⟩ := (hA.st S).at_ hlt
            cases e
            exact lda Try.isAgg32 Try.sizeOf32 (len32 _) hcell)) rfl rfl rfl fun a F => ?_
      refine qv F (fun w S => y_eq32 rfl rfl rfl) rfl rfl rfl fun a F => ?_
      refine qn fun w S => ?_
      refine tn <| hK8 _ _ ?_
      refine cd F rfl (fun h2 => ?_) (fun h2 => ?_)
      · refine sq fun K9 hK9 => ?_
        refine rg ?_
        refine dv F (y_mv rfl rfl) rfl rfl rfl fun a F => ?_
        refine dv F (y_as rfl rfl) rfl rfl rfl fun a F => ?_
        refine dn ?_
        refine tn <| hK9 _ _ ?_
        refine wp_ret ?_
        refine br <| tr <| lr <| br <| tr <| ?_
        exact rt1 F rfl rfl ⟨by rw [idx_hit _ xs i hlt (decide_eq_true h2) hno], S.bel⟩
      · refine wp_skip ?_
        refine bn <| tn <| hK6 _ _ ?_
        refine rg ?_
        refine dv F (y_add rfl rfl rfl (by omega)) rfl rfl rfl fun a F => ?_
        refine dv F (y_mv rfl rfl) rfl rfl rfl fun a F => ?_
        refine dn ?_
        exact ln (by omega) ⟨i + 1, rfl, by omega, fun j hj h => by
              by_cases e : j = i
              · subst e; exact decide_eq_false h2
              · exact hno j hj (by omega), F.sub _ ⟨rfl, rfl, rfl, rfl, trivial⟩, S.pick [0] _ ⟨rfl, trivial⟩ rfl⟩
    · refine wp_exit ?_
      refine tx <| lx <| bh <| tn <| hK2 _ _ ?_
      refine sq fun K10 hK10 => ?_
      refine rg ?_
      refine dv F (y_as rfl rfl) rfl rfl rfl fun a F => ?_
      refine dn ?_
      refine tn <| hK10 _ _ ?_
      refine wp_ret ?_
      refine ?_
      exact rt1 F rfl rfl ⟨by rw [idx_miss _ xs fun j hj => hno j hj (by omega)], S.bel⟩

theorem f23_c {A : Option Addr} {c : Nat} {xs : List Dig} (w0 : World) (y : Dig) (hA : Sl w0 32 encD A xs) (hn : xs.length ≤ 140737488351232) :
    Calls Try.prog 23 [.slice A xs.length c, .agg (encD y).toArray].toArray w0 (Ret fun v w' => v = .bool (xs.any fun x => decide (y = x)) ∧ Below w0.heap.size w0 w') := by
  refine ent Try.func23 Try.ntmps23 rfl rfl ?_
  intro a F
  have S := St.refl w0
  refine sq fun K1 hK1 => ?_
  refine rg ?_
  refine dbx F S rfl rfl rfl rfl rfl rfl fun a w b3 F S => ?_
  refine dv F (y_as rfl rfl) rfl rfl rfl fun a F => ?_
  refine dn ?_
  refine tn <| hK1 _ _ ?_
  refine sq fun K2 hK2 => ?_
  refine rg ?_
  refine dv F (y_mv rfl rfl) rfl rfl rfl fun a F => ?_
  refine dv F (y_ld rfl rfl (S.lda (i := 0) rfl Try.isAgg32 Try.sizeOf32 (len32 _))) rfl rfl rfl fun a F => ?_
  refine dc F (c_f rfl rfl rfl Try.call33) rfl rfl rfl (f33_c _ y (hA.st S) hn) fun a v w' hr F => ?_
  obtain ⟨rfl, hb⟩ := hr
  replace S := S.call hb
  refine dv F (y_ge rfl rfl rfl) rfl rfl rfl fun a F => ?_
  refine dv F (y_as rfl rfl) rfl rfl rfl fun a F => ?_
  refine dn ?_
  refine tn <| hK2 _ _ ?_
  refine wp_ret ?_
  refine ?_
  exact rt1 F rfl rfl ⟨by rw [idx_any], S.bel⟩

theorem f34_c {A : Option Addr} {c : Nat} {xs : List Rd} (w0 : World) (q : ByteArray) (hA : Sl w0 34 encRd A xs) (hn : xs.length ≤ 140737488351232) :
    Calls Try.prog 34 [.slice A xs.length c, .string q].toArray w0 (Ret fun v w' => v = .bool (xs.any fun x => decide (x.path = q)) ∧ Below w0.heap.size w0 w') := by
  refine ent Try.func34 Try.ntmps34 rfl rfl ?_
  intro a F
  have S := St.refl w0
  refine sq fun K1 hK1 => ?_
  refine rg ?_
  refine dv F (y_as rfl rfl) rfl rfl rfl fun a F => ?_
  refine dn ?_
  refine tn <| hK1 _ _ ?_
  refine sq fun K2 hK2 => ?_
  refine sq fun K3 hK3 => ?_
  refine rg ?_
  refine dv F (y_as rfl rfl) rfl rfl rfl fun a F => ?_
  refine dn ?_
  refine tn <| hK3 _ _ ?_
  refine bl ?_
  refine lp (fun m a w => ∃ i : Nat, m = xs.length - i ∧ (i ≤ xs.length) ∧ (∀ (j : Nat) (hj : j < xs.length), j < i → decide (xs[j].path = q) = false) ∧ Fr 19 a [(0, .slice A xs.length c), (1, .string q), (5, .int .i64 (i : Int))] ∧ St w0 w []) (xs.length) ?_ ?_
  · exact ⟨0, rfl, Nat.zero_le _, fun j _ h => absurd h (Nat.not_lt_zero j), F.sub _ ⟨rfl, rfl, rfl, trivial⟩, S.pick [] _ trivial rfl⟩
  · rintro m a w ⟨i, hm, hi, hno, F, S⟩
    refine sq fun K4 hK4 => ?_
    refine sq fun K5 hK5 => ?_
    refine rg ?_
    refine dv F (y_mv rfl rfl) rfl rfl rfl fun a F => ?_
    refine dv F (y_mv rfl rfl) rfl rfl rfl fun a F => ?_
    refine dv F (y_ln rfl rfl Try.underlying23) rfl rfl rfl fun a F => ?_
    refine dv F (y_lt rfl rfl rfl) rfl rfl rfl fun a F => ?_
    refine dn ?_
    refine tn <| hK5 _ _ ?_
    refine cd F rfl (fun h1 => ?_) (fun h1 => ?_)
    · refine wp_skip ?_
      refine tn <| hK4 _ _ ?_
      refine sq fun K6 hK6 => ?_
      refine bl ?_
      refine sq fun K7 hK7 => ?_
      refine rg ?_
      refine dv F (y_mv rfl rfl) rfl rfl rfl fun a F => ?_
      refine dv F (y_mv rfl rfl) rfl rfl rfl fun a F => ?_
      have hlt : i < xs.length := by omega
      obtain ⟨ab, ao, rfl, hab, hcell⟩ := (hA.st S).at_ hlt
      refine dv F (y_ia rfl rfl rfl rfl Try.underlying23 Try.sizeOf37 i rfl hlt) rfl rfl rfl fun a F => ?_
      refine dv F (y_fa rfl rfl fi37_0) rfl rfl rfl fun a F => ?_
      refine dv F (y_ld rfl rfl (ld1 Try.isAgg9 (hcell 0 _ rfl))) rfl rfl rfl fun a F => ?_
      refine dv F (y_mv rfl rfl) rfl rfl rfl fun a F => ?_
      refine dv F (y_se rfl rfl rfl) rfl rfl rfl fun a F => ?_
      refine dn ?_
      refine tn <| hK7 _ _ ?_
      refine cd F rfl (fun h2 => ?_) (fun h2 => ?_)
      · refine sq fun K8 hK8 => ?_
        refine rg ?_
        refine dv F (y_as rfl rfl) rfl rfl rfl fun a F => ?_
        refine dn ?_
        refine tn <| hK8 _ _ ?_
        refine wp_ret ?_
        refine br <| tr <| lr <| br <| tr <| ?_
        exact rt1 F rfl rfl ⟨by rw [any_hit _ xs i hlt (decide_eq_true h2)], S.bel⟩
      · refine wp_skip ?_
        refine bn <| tn <| hK6 _ _ ?_
        refine rg ?_
        refine dv F (y_mv rfl rfl) rfl rfl rfl fun a F => ?_
        refine dv F (y_add rfl rfl rfl (by omega)) rfl rfl rfl fun a F => ?_
        refine dv F (y_as rfl rfl) rfl rfl rfl fun a F => ?_
        refine dn ?_
        exact ln (by omega) ⟨i + 1, rfl, by omega, fun j hj h => by
              by_cases e : j = i
              · subst e; exact decide_eq_false h2
              · exact hno j hj (by omega), F.sub _ ⟨rfl, rfl, rfl, trivial⟩, S.pick [] _ trivial rfl⟩
    · refine wp_exit ?_
      refine tx <| lx <| bh <| tn <| hK2 _ _ ?_
      refine sq fun K9 hK9 => ?_
      refine rg ?_
      refine dv F (y_as rfl rfl) rfl rfl rfl fun a F => ?_
      refine dn ?_
      refine tn <| hK9 _ _ ?_
      refine wp_ret ?_
      refine ?_
      exact rt1 F rfl rfl ⟨by rw [any_miss _ xs fun j hj => hno j hj (by omega)], S.bel⟩

end Go.Proofs.Ytpnhinbhhpeklaa
