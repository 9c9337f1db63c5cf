/- Walks of layer 27, twelfth part: the cone. -/
import Derived.Test.YtpnhinbhhpeklaaD11
set_option linter.unusedVariables false
set_option linter.unusedSimpArgs false
namespace Go.Proofs.Ytpnhinbhhpeklaa
open Go.RowKit Go.Eng DirtyPlain

def cg (cs : List Chg) (k : Nat) (s : ByteArray) : Bool := (cs.take k).any fun c => decide (c.path = s)
def og (os : List ByteArray) (k : Nat) (s : ByteArray) : Bool := (os.take k).any fun c => decide (c = s)
theorem cg_succ {cs : List Chg} {k : Nat} (hk : k < cs.length) : (fun t => if t = cs[k].path then some (Value.bool true) else fB (cg cs k) t) = fB (cg cs (k + 1)) := by
  funext t
  unfold fB cg
  rw [List.take_succ_eq_append_getElem hk, List.any_append]
  by_cases h : t = cs[k].path
  · subst h; simp
  · have : ¬ cs[k].path = t := fun e => h e.symm
    simp [h, this]
theorem og_succ {os : List ByteArray} {k : Nat} (hk : k < os.length) : (fun t => if t = os[k] then some (Value.bool true) else fB (og os k) t) = fB (og os (k + 1)) := by
  funext t
  unfold fB og
  rw [List.take_succ_eq_append_getElem hk, List.any_append]
  by_cases h : t = os[k]
  · subst h; simp
  · have : ¬ os[k] = t := fun e => h e.symm
    rw [if_neg h]
    simp only [List.any_cons, List.any_nil, decide_eq_false this, Bool.or_false]
theorem three (l : List TrV) (k : Nat) : l.length ≤ k ∨ (∃ hi : k < l.length, l[k].t.key = dig0) ∨ (∃ hi : k < l.length, ¬ l[k].t.key = dig0) := by
  rcases Nat.lt_or_ge k l.length with h | h
  · by_cases h2 : l[k].t.key = dig0
    · exact .inr (.inl ⟨h, h2⟩)
    · exact .inr (.inr ⟨h, h2⟩)
  · exact .inl h
theorem any_swap {α β : Type} (xs : List α) (ys : List β) (p : α → β → Bool) : (xs.any fun x => ys.any fun y => p x y) = ys.any fun y => xs.any fun x => p x y := by
  rw [Bool.eq_iff_iff]
  simp only [List.any_eq_true]
  constructor
  · rintro ⟨x, hx, y, hy, h⟩; exact ⟨y, hy, x, hx, h⟩
  · rintro ⟨y, hy, x, hx, h⟩; exact ⟨x, hx, y, hy, h⟩
theorem flip_dec {α : Type} [DecidableEq α] (a b : α) : decide (a = b) = decide (b = a) := decide_eq_decide.2 eq_comm
theorem cg_rds (cs : List Chg) (t : Tr) : (t.reads.any fun r => cg cs cs.length r.path) = cs.any fun c => rds t c.path := by
  simp only [cg, List.take_length, rds]
  rw [any_swap t.reads cs fun r c => decide (c.path = r.path)]
  congr 1; funext c; congr 1; funext r; exact flip_dec _ _
theorem og_rds (os : List ByteArray) (t : Tr) : (t.reads.any fun r => og os os.length r.path) = os.any fun c => rds t c := by
  simp only [og, List.take_length, rds]
  rw [any_swap t.reads os fun r c => decide (c = r.path)]
  congr 1; funext c; congr 1; funext r; exact flip_dec _ _
section
variable {L : List StpV} {l : List TrV} {cs : List Chg} {G : List Bool} {i : Nat}
theorem base_far (hi : l.length ≤ i) : base (l.map TrV.t) (cs.map Chg.path) i = true := by
  rw [base, List.getElem?_eq_none (by simpa using hi)]
theorem base_key (hi : i < l.length) (h : l[i].t.key = dig0) : base (l.map TrV.t) (cs.map Chg.path) i = true := by
  rw [base_lt hi]; simp [h]
theorem base_read (hi : i < l.length) (h : (l[i].t.reads.any fun r => cg cs cs.length r.path) = true) : base (l.map TrV.t) (cs.map Chg.path) i = true := by
  rw [base_lt hi, ← cg_rds, h]; simp
theorem base_no (hi : i < l.length) (h0 : ¬ l[i].t.key = dig0) (h : (l[i].t.reads.any fun r => cg cs cs.length r.path) = false) : base (l.map TrV.t) (cs.map Chg.path) i = false := by
  rw [base_lt hi, ← cg_rds]
  simp only [h0, decide_false, Bool.false_or]
  exact h
theorem wl_zero : WL (L.map StpV.outs) (l.map TrV.t) (cs.map Chg.path) (List.replicate L.length false) [] 0 (fun _ => False) := by
  have := WL.zero (S := L.map StpV.outs) (T := l.map TrV.t) (C := cs.map Chg.path)
  rwa [List.length_map] at this
theorem wl_closed (h : WL (L.map StpV.outs) (l.map TrV.t) (cs.map Chg.path) G [] L.length (fun _ => False)) : Closed (L.map StpV.outs) (l.map TrV.t) (cs.map Chg.path) G :=
  WL.closed (by rw [List.length_map]; exact h)
theorem lt_of_wl {Q : List Nat} {ex : Nat → Prop} (h : WL (L.map StpV.outs) (l.map TrV.t) (cs.map Chg.path) G Q L.length ex) (hi : i < (L.map StpV.outs).length) (hG : i < G.length) (hg : G[i] = false) : i < l.length := by
  rcases Nat.lt_or_ge i l.length with h' | h'
  · exact h'
  · have := h.base i (by simpa using hi) hi (base_far h')
    rw [getD_at hG, hg] at this; cases this
theorem edge_read {q : Nat} (hi : i < l.length) (hq : q < L.length) (h : (l[i].t.reads.any fun r => og L[q].outs L[q].outs.length r.path) = true) : edge (L.map StpV.outs) (l.map TrV.t) q i = true := by
  rw [edge_lt hi hq, ← og_rds]; exact h
theorem e_mark {q : Nat} (hE : ∀ i', i' < i → edge (L.map StpV.outs) (l.map TrV.t) q i' = true → G.getD i' false = true) (hG : i < G.length) : ∀ i', i' < i + 1 → edge (L.map StpV.outs) (l.map TrV.t) q i' = true → (G.set i true).getD i' false = true := fun i' hi' he => by
  by_cases e : i' = i
  · subst e; rw [getD_set, if_pos ⟨rfl, hG⟩]
  · exact set_mono (hE i' (by omega) he)
theorem e_has {q : Nat} (hE : ∀ i', i' < i → edge (L.map StpV.outs) (l.map TrV.t) q i' = true → G.getD i' false = true) (hG : i < G.length) (hg : G[i] = true) : ∀ i', i' < i + 1 → edge (L.map StpV.outs) (l.map TrV.t) q i' = true → G.getD i' false = true := fun i' hi' he => by
  by_cases e : i' = i
  · subst e; rw [getD_at hG, hg]
  · exact hE i' (by omega) he
theorem e_no {q : Nat} (hE : ∀ i', i' < i → edge (L.map StpV.outs) (l.map TrV.t) q i' = true → G.getD i' false = true) (hi : i < l.length) (hq : q < L.length) (h : (l[i].t.reads.any fun r => og L[q].outs L[q].outs.length r.path) = false) : ∀ i', i' < i + 1 → edge (L.map StpV.outs) (l.map TrV.t) q i' = true → G.getD i' false = true := fun i' hi' he => by
  by_cases e : i' = i
  · subst e
    rw [edge_lt hi hq, ← og_rds] at he
    rw [h] at he; cases he
  · exact hE i' (by omega) he
theorem m_mark {n k : Nat} {Q2 : List Nat} (h : n - cnt G + Q2.length = k) (hG : i < G.length) (hg : G[i] = false) (hn : G.length = n) : n - cnt (G.set i true) + (Q2 ++ [i]).length = k := by
  have h1 := cnt_set G i hG
  rw [getD_at hG, hg] at h1
  have h2 := cnt_le (G.set i true)
  rw [List.length_set, hn] at h2
  simp at h1
  simp
  omega
end
section
variable {P : Program} {w : World} {l : List (Nat × Value)} {o : Oper}
/-- what is left behind the first -/
theorem y_sl1 {N t e z : Nat} {x lo : Operand} {A : Option Addr} {n' c : Nat} {k : IntKind} (ho : o.op = .slice t x (some lo) none none) (hx : evl l x = some (.slice A n' c)) (hh : evl l lo = some (.int k 1)) (hu : P.underlying t = some (.slice e)) (hz : ∀ w, (Go.sizeOf e).run P w = .ok z w)
    (hN : n' - 1 = N) (hn : 1 ≤ n') (hc : n' ≤ c) : Yl P o l w (.slice (if c = 1 then A else A.map (·.add (1 * z))) N (c - 1)) w := fun n a F => by
  subst hN
  have e2 : (0 : Int) ≤ 1 ∧ (1 : Int) ≤ (n' : Int) := by omega
  simp [execOp, ho, F.ev hx, F.ev hh, Instr.sliceAt, Instr.slice, Instr.sliceBounds, Instr.sliceBound, asIntOf, underlying, hu, hz, program, Sem.run, hc, e2, hn]
end
set_option maxRecDepth 2000
set_option maxHeartbeats 2000000 in
theorem f15_c {SA A CA : Option Addr} {sc c cc : Nat} (L : List StpV) (l : List TrV) (cs : List Chg) (w0 : World) (hS : Stps w0 SA L) (hSn : L.length ≤ 1000) (hl : Trs w0 A l) (hln : l.length ≤ 140737488351232) (hC : Sl w0 2 encChg CA cs) (hCn : cs.length ≤ 140737488351232) :
    Calls Try.prog 15 [.slice SA L.length sc, .slice A l.length c, .slice CA cs.length cc].toArray w0 (Ret fun v w' => (∃ b G, v = .slice (some ⟨b, 0, none⟩) L.length L.length ∧ Sound (L.map StpV.outs) (l.map TrV.t) (cs.map Chg.path) G ∧ Closed (L.map StpV.outs) (l.map TrV.t) (cs.map Chg.path) G ∧ w'.heap[b]? = some (.cells (G.flatMap encB).toArray 4 (0, 0)) ∧ w0.heap.size ≤ b) ∧ Below w0.heap.size w0 w') := by
  refine ent Try.func15 Try.ntmps15 rfl rfl ?_
  intro a F
  have S := St.refl w0
  refine sq fun K1 hK1 => ?_
  refine rg ?_
  refine dv F (y_as rfl rfl) rfl rfl rfl fun a F => ?_
  refine dn ?_
  refine tn <| hK1 _ _ ?_
  refine sq fun K2 hK2 => ?_
  
  refine rg ?_
  refine dv F (y_mv rfl rfl) rfl rfl rfl fun a F => ?_
  refine dv F (y_ln rfl rfl Try.underlying40) rfl rfl rfl fun a F => ?_
  refine dms F S rfl rfl rfl Try.underlying48 (info_ex (by kernel_rfl : AI4 Try.prog = true)) rfl (by omega) (by omega) rfl rfl rfl fun a w b20 F S => ?_
  rw [repB] at S
  refine dal F S rfl Try.zeroValue48 rfl rfl rfl rfl fun a w b7 F S => ?_
  refine dsw F S rfl rfl rfl Try.sizeOf48 (i := 1) rfl rfl rfl rfl one1 rfl rfl fun a w F S => ?_
  refine dn ?_
  refine tn <| hK2 _ _ ?_
  refine sq fun K3 hK3 => ?_
  
  refine rg ?_
  refine dmm F S rfl rfl rfl rfl fun a w b21 F S => ?_
  refine dv F (y_as rfl rfl) rfl rfl rfl fun a F => ?_
  refine dn ?_
  refine tn <| hK3 _ _ ?_
  refine sq fun K4 hK4 => ?_
  refine sq fun K5 hK5 => ?_
  refine rg ?_
  refine dv F (y_mv rfl rfl) rfl rfl rfl fun a F => ?_
  refine dv F (y_ln rfl rfl Try.underlying41) rfl rfl rfl fun a F => ?_
  refine dv F (y_mv rfl rfl) rfl rfl rfl fun a F => ?_
  refine dn ?_
  refine tn <| hK5 _ _ ?_
  refine bl ?_
  refine lp (fun m a w => ∃ k : Nat, m = cs.length - k ∧ (k ≤ cs.length) ∧ Fr 107 a [(0, .slice SA L.length sc), (1, .slice A l.length c), (2, .slice CA cs.length cc), (7, .pointer (some ⟨b7, 0, none⟩)), (8, .map (some b21)), (22, .slice CA cs.length cc), (23, .int .i64 (cs.length : Int)), (24, .int .i64 (k : Int))] ∧ St w0 w [bk b20 4 ((List.replicate L.length false).flatMap encB), bk b7 48 [.slice (some ⟨b20, 0, none⟩) L.length L.length], mp b21 (fB (cg cs k))]) (cs.length) ?_ ?_
  · exact ⟨0, rfl, Nat.zero_le _, F.sub _ ⟨rfl, rfl, rfl, rfl, rfl, rfl, rfl, rfl, trivial⟩, S.pick [0, 1, 2] _ ⟨rfl, rfl, rfl, trivial⟩ rfl⟩
  · rintro m a w ⟨k, hm, hk, F, S⟩
    refine sq fun K6 hK6 => ?_
    refine rg ?_
    refine dv F (y_lt rfl rfl rfl) rfl rfl rfl fun a F => ?_
    refine dn ?_
    refine tn <| hK6 _ _ ?_
    refine sq fun K7 hK7 => ?_
    refine cd F rfl (fun h1 => ?_) (fun h1 => ?_)
    · refine wp_skip ?_
      refine tn <| hK7 _ _ ?_
      refine sq fun K8 hK8 => ?_
      refine bl ?_
      refine sq fun K9 hK9 => ?_
      have hk2 : k < cs.length := by omega
      obtain ⟨kb, ko, eC, hkb, _⟩ := (hC.st S).at_ hk2
      refine rg ?_
      refine dv F (y_ia rfl rfl eC rfl Try.underlying41 Try.sizeOf70 k rfl hk2) rfl rfl rfl fun a F => ?_
      refine dv F (y_ld rfl rfl (by
        obtain ⟨b', o', e, _, hcell⟩ := (hC.st S).at_ hk2
        rw [eC] at e; cases e
        exact lda Try.isAgg70 Try.sizeOf70 (len70 _) hcell)) rfl rfl rfl fun a F => ?_
      refine dal F S rfl Try.zeroValue70 rfl rfl rfl rfl fun a w b10 F S => ?_
      refine dsw F S rfl rfl rfl Try.sizeOf70 (i := 3) rfl rfl rfl rfl (one70 _) rfl rfl fun a w F S => ?_
      refine dn ?_
      refine tn <| hK9 _ _ ?_
      refine rg ?_
      refine dv F (y_mv rfl rfl) rfl rfl rfl fun a F => ?_
      refine dv F (y_fa rfl rfl fi70_0) rfl rfl rfl fun a F => ?_
      refine dv F (y_ld rfl rfl (S.ld (i := 3) rfl rfl Try.isAgg9)) rfl rfl rfl fun a F => ?_
      refine dmu F S rfl rfl rfl rfl (i := 2) rfl Try.underlying68 Try.underlying9 rfl rfl fun a w F S => ?_
      rw [cg_succ hk2] at S
      refine dn ?_
      refine bn <| tn <| hK8 _ _ ?_
      refine rg ?_
      refine dv F (y_add rfl rfl rfl (by omega)) rfl rfl rfl fun a F => ?_
      refine dv F (y_mv rfl rfl) rfl rfl rfl fun a F => ?_
      refine dn ?_
      exact ln (by omega) ⟨k + 1, rfl, by omega, F.sub _ ⟨rfl, rfl, rfl, rfl, rfl, rfl, rfl, rfl, trivial⟩, S.pick [0, 1, 2] _ ⟨rfl, rfl, rfl, trivial⟩ rfl⟩
    · refine wp_exit ?_
      refine tx <| lx <| bh <| tn <| hK4 _ _ ?_
      refine sq fun K10 hK10 => ?_
      obtain rfl : k = cs.length := by omega
      refine rg ?_
      refine dal F S rfl Try.zeroValue71 rfl rfl rfl rfl fun a w b11 F S => ?_
      refine dn ?_
      refine tn <| hK10 _ _ ?_
      refine sq fun K11 hK11 => ?_
      refine rg ?_
      refine dv F (y_mf rfl rfl) rfl rfl rfl fun a F => ?_
      refine dv F (y_as rfl rfl) rfl rfl rfl fun a F => ?_
      refine dn ?_
      refine tn <| hK11 _ _ ?_
      refine sq fun K12 hK12 => ?_
      refine sq fun K13 hK13 => ?_
      replace S := ow_nil S 3 1
      refine rg ?_
      refine dv F (y_mv rfl rfl) rfl rfl rfl fun a F => ?_
      refine dv F (y_ln rfl rfl Try.underlying40) rfl rfl rfl fun a F => ?_
      refine dv F (y_mv rfl rfl) rfl rfl rfl fun a F => ?_
      refine dn ?_
      refine tn <| hK13 _ _ ?_
      refine bl ?_
      refine lp (fun m a w => ∃ (k : Nat) (G : List Bool) (Q : List Nat) (QA : Option Addr) (qc : Nat), m = L.length - k ∧ (k ≤ L.length) ∧ (WL (L.map StpV.outs) (l.map TrV.t) (cs.map Chg.path) G Q k (fun _ => False)) ∧ (Q.length ≤ k) ∧ Fr 107 a [(0, .slice SA L.length sc), (1, .slice A l.length c), (2, .slice CA cs.length cc), (7, .pointer (some ⟨b7, 0, none⟩)), (8, .map (some b21)), (11, .pointer (some ⟨b11, 0, none⟩)), (12, .func (.func 27) #[] [Value.pointer (some ⟨b7, 0, none⟩), Value.pointer (some ⟨b11, 0, none⟩)].toArray), (33, .slice SA L.length sc), (34, .int .i64 (L.length : Int)), (35, .int .i64 (k : Int))] ∧ St w0 w [bk b20 4 ((G).flatMap encB), bk b7 48 [.slice (some ⟨b20, 0, none⟩) L.length L.length], bk b11 71 [.slice QA (Q).length qc], ow 3 1 (.slice QA (Q).length qc) (Q).length ((Q).flatMap encI), mp b21 (fB (cg cs cs.length))]) (L.length) ?_ ?_
      · exact ⟨0, List.replicate L.length false, [], none, 0, rfl, Nat.zero_le _, wl_zero, Nat.le_refl _, F.sub _ ⟨rfl, rfl, rfl, rfl, rfl, rfl, rfl, rfl, rfl, rfl, trivial⟩, S.pick [0, 1, 3, 4, 2] _ ⟨rfl, rfl, rfl, rfl, rfl, trivial⟩ rfl⟩
      · rintro m a w ⟨k, G, Q, QA, qc, hm, hk, hW, hQ, F, S⟩
        refine sq fun K14 hK14 => ?_
        refine rg ?_
        refine dv F (y_lt rfl rfl rfl) rfl rfl rfl fun a F => ?_
        refine dn ?_
        refine tn <| hK14 _ _ ?_
        refine sq fun K15 hK15 => ?_
        refine cd F rfl (fun h2 => ?_) (fun h2 => ?_)
        · refine wp_skip ?_
          refine tn <| hK15 _ _ ?_
          refine sq fun K16 hK16 => ?_
          refine bl ?_
          refine sq fun K17 hK17 => ?_
          refine rg ?_
          refine dv F (y_mv rfl rfl) rfl rfl rfl fun a F => ?_
          refine dv F (y_as rfl rfl) rfl rfl rfl fun a F => ?_
          refine dn ?_
          refine tn <| hK17 _ _ ?_
          refine sq fun K18 hK18 => ?_
          have hk2 : k < L.length := by omega
          have hkS : k < (L.map StpV.outs).length := by simpa using hk2
          have hkG : k < G.length := by rw [hW.sd.len]; exact hkS
          rcases three l k with hi | ⟨hi, hk0⟩ | ⟨hi, hk0⟩
          · try (obtain ⟨ab, ao, eA, hab, _⟩ := (hl.st S).sl.at_ hi)
            refine rg ?_
            refine dv F (y_mv rfl rfl) rfl rfl rfl fun a F => ?_
            refine dv F (y_mv rfl rfl) rfl rfl rfl fun a F => ?_
            refine dv F (y_ln rfl rfl Try.underlying22) rfl rfl rfl fun a F => ?_
            refine dv F (y_ge rfl rfl rfl) rfl rfl rfl fun a F => ?_
            refine dv F (y_mv rfl rfl) rfl rfl rfl fun a F => ?_
            refine gs F rfl rfl rfl (decide_eq_true (by omega)) rfl rfl fun a F => ?_
            refine gs F rfl rfl rfl (decide_eq_true (by omega)) rfl rfl fun a F => ?_
            refine gs F rfl rfl rfl (decide_eq_true (by omega)) rfl rfl fun a F => ?_
            refine gs F rfl rfl rfl (decide_eq_true (by omega)) rfl rfl fun a F => ?_
            refine gs F rfl rfl rfl (decide_eq_true (by omega)) rfl rfl fun a F => ?_
            refine gs F rfl rfl rfl (decide_eq_true (by omega)) rfl rfl fun a F => ?_
            refine gs F rfl rfl rfl (decide_eq_true (by omega)) rfl rfl fun a F => ?_
            refine dv F (y_pkt (decide_eq_true (by omega)) rfl rfl rfl) rfl rfl rfl fun a F => ?_
            refine dv F (y_mv rfl rfl) rfl rfl rfl fun a F => ?_
            refine gs F rfl rfl rfl rfl rfl rfl fun a F => ?_
            refine gs F rfl rfl rfl rfl rfl rfl fun a F => ?_
            refine gs F rfl rfl rfl rfl rfl rfl fun a F => ?_
            refine gs F rfl rfl rfl rfl rfl rfl fun a F => ?_
            refine gs F rfl rfl rfl rfl rfl rfl fun a F => ?_
            refine gs F rfl rfl rfl rfl rfl rfl fun a F => ?_
            refine dv F (y_pkt rfl rfl rfl rfl) rfl rfl rfl fun a F => ?_
            refine dn ?_
            refine tn <| hK18 _ _ ?_
            refine ct F rfl rfl ?_
            have hb : base (l.map TrV.t) (cs.map Chg.path) k = true := by first | exact base_far hi | exact base_key hi hk0 | exact base_read hi h3
            refine rg ?_
            refine dv F (y_mv rfl rfl) rfl rfl rfl fun a F => ?_
            refine dv F (y_mv rfl rfl) rfl rfl rfl fun a F => ?_
            refine dc F (c_f rfl rfl rfl Try.call27) rfl rfl rfl (f27_c G Q k (S.pick [0, 1, 2, 3, 4] _ ⟨rfl, rfl, rfl, rfl, rfl, trivial⟩ rfl) hk2 (by rw [hW.sd.len, List.length_map]) (by omega)) fun a v w' hr F => ?_
            obtain ⟨QA2, qc2, S⟩ := hr
            refine dn ?_
            refine bn <| tn <| hK16 _ _ ?_
            refine rg ?_
            refine dv F (y_add rfl rfl rfl (by omega)) rfl rfl rfl fun a F => ?_
            refine dv F (y_mv rfl rfl) rfl rfl rfl fun a F => ?_
            refine dn ?_
            exact ln (by omega) ⟨k + 1, _, _, _, _, rfl, by omega, by first | exact (hW.mark hkS (Reach.base hkS hb)).more (fun _ => by rw [getD_set, if_pos ⟨rfl, hkG⟩]) | exact hW.skip (base_no hi hk0 h3), by first | (simp; omega) | omega, F.sub _ ⟨rfl, rfl, rfl, rfl, rfl, rfl, rfl, rfl, rfl, rfl, trivial⟩, S.pick [0, 1, 2, 3, 4] _ ⟨rfl, rfl, rfl, rfl, rfl, trivial⟩ rfl⟩
          · try (obtain ⟨ab, ao, eA, hab, _⟩ := (hl.st S).sl.at_ hi)
            refine rg ?_
            refine dv F (y_mv rfl rfl) rfl rfl rfl fun a F => ?_
            refine dv F (y_mv rfl rfl) rfl rfl rfl fun a F => ?_
            refine dv F (y_ln rfl rfl Try.underlying22) rfl rfl rfl fun a F => ?_
            refine dv F (y_ge rfl rfl rfl) rfl rfl rfl fun a F => ?_
            refine dv F (y_mv rfl rfl) rfl rfl rfl fun a F => ?_
            refine gv F rfl rfl rfl (decide_eq_false (by omega)) (y_mv rfl rfl) rfl rfl fun a F => ?_
            refine gv F rfl rfl rfl (decide_eq_false (by omega)) (y_mv rfl rfl) rfl rfl fun a F => ?_
            refine gv F rfl rfl rfl (decide_eq_false (by omega)) (y_ia rfl rfl eA rfl Try.underlying22 Try.sizeOf35 k rfl hi) rfl rfl fun a F => ?_
            refine gv F rfl rfl rfl (decide_eq_false (by omega)) (y_fa rfl rfl fi35_0) rfl rfl fun a F => ?_
            refine gv F rfl rfl rfl (decide_eq_false (by omega)) (y_ld rfl rfl (by
              obtain ⟨b', o', e, _, hcell⟩ := (hl.st S).sl.at_ hi
              rw [eA] at e; cases e
              exact lda Try.isAgg32 Try.sizeOf32 (len32 _) fun j v hv => hcell j v (tr_key _ hv))) rfl rfl fun a F => ?_
            refine gv F rfl rfl rfl (decide_eq_false (by omega)) (y_bd rfl rfl (bd32_)) rfl rfl fun a F => ?_
            refine gv F rfl rfl rfl (decide_eq_false (by omega)) (y_eq32 rfl rfl rfl) rfl rfl fun a F => ?_
            refine dv F (y_pkf (decide_eq_false (by omega)) rfl rfl rfl) rfl rfl rfl fun a F => ?_
            refine dv F (y_mv rfl rfl) rfl rfl rfl fun a F => ?_
            refine gs F rfl rfl rfl (decide_eq_true hk0) rfl rfl fun a F => ?_
            refine gs F rfl rfl rfl (decide_eq_true hk0) rfl rfl fun a F => ?_
            refine gs F rfl rfl rfl (decide_eq_true hk0) rfl rfl fun a F => ?_
            refine gs F rfl rfl rfl (decide_eq_true hk0) rfl rfl fun a F => ?_
            refine gs F rfl rfl rfl (decide_eq_true hk0) rfl rfl fun a F => ?_
            refine gs F rfl rfl rfl (decide_eq_true hk0) rfl rfl fun a F => ?_
            refine dv F (y_pkt (decide_eq_true hk0) rfl rfl rfl) rfl rfl rfl fun a F => ?_
            refine dn ?_
            refine tn <| hK18 _ _ ?_
            refine ct F rfl rfl ?_
            have hb : base (l.map TrV.t) (cs.map Chg.path) k = true := by first | exact base_far hi | exact base_key hi hk0 | exact base_read hi h3
            refine rg ?_
            refine dv F (y_mv rfl rfl) rfl rfl rfl fun a F => ?_
            refine dv F (y_mv rfl rfl) rfl rfl rfl fun a F => ?_
            refine dc F (c_f rfl rfl rfl Try.call27) rfl rfl rfl (f27_c G Q k (S.pick [0, 1, 2, 3, 4] _ ⟨rfl, rfl, rfl, rfl, rfl, trivial⟩ rfl) hk2 (by rw [hW.sd.len, List.length_map]) (by omega)) fun a v w' hr F => ?_
            obtain ⟨QA2, qc2, S⟩ := hr
            refine dn ?_
            refine bn <| tn <| hK16 _ _ ?_
            refine rg ?_
            refine dv F (y_add rfl rfl rfl (by omega)) rfl rfl rfl fun a F => ?_
            refine dv F (y_mv rfl rfl) rfl rfl rfl fun a F => ?_
            refine dn ?_
            exact ln (by omega) ⟨k + 1, _, _, _, _, rfl, by omega, by first | exact (hW.mark hkS (Reach.base hkS hb)).more (fun _ => by rw [getD_set, if_pos ⟨rfl, hkG⟩]) | exact hW.skip (base_no hi hk0 h3), by first | (simp; omega) | omega, F.sub _ ⟨rfl, rfl, rfl, rfl, rfl, rfl, rfl, rfl, rfl, rfl, trivial⟩, S.pick [0, 1, 2, 3, 4] _ ⟨rfl, rfl, rfl, rfl, rfl, trivial⟩ rfl⟩
          · try (obtain ⟨ab, ao, eA, hab, _⟩ := (hl.st S).sl.at_ hi)
            refine rg ?_
            refine dv F (y_mv rfl rfl) rfl rfl rfl fun a F => ?_
            refine dv F (y_mv rfl rfl) rfl rfl rfl fun a F => ?_
            refine dv F (y_ln rfl rfl Try.underlying22) rfl rfl rfl fun a F => ?_
            refine dv F (y_ge rfl rfl rfl) rfl rfl rfl fun a F => ?_
            refine dv F (y_mv rfl rfl) rfl rfl rfl fun a F => ?_
            refine gv F rfl rfl rfl (decide_eq_false (by omega)) (y_mv rfl rfl) rfl rfl fun a F => ?_
            refine gv F rfl rfl rfl (decide_eq_false (by omega)) (y_mv rfl rfl) rfl rfl fun a F => ?_
            refine gv F rfl rfl rfl (decide_eq_false (by omega)) (y_ia rfl rfl eA rfl Try.underlying22 Try.sizeOf35 k rfl hi) rfl rfl fun a F => ?_
            refine gv F rfl rfl rfl (decide_eq_false (by omega)) (y_fa rfl rfl fi35_0) rfl rfl fun a F => ?_
            refine gv F rfl rfl rfl (decide_eq_false (by omega)) (y_ld rfl rfl (by
              obtain ⟨b', o', e, _, hcell⟩ := (hl.st S).sl.at_ hi
              rw [eA] at e; cases e
              exact lda Try.isAgg32 Try.sizeOf32 (len32 _) fun j v hv => hcell j v (tr_key _ hv))) rfl rfl fun a F => ?_
            refine gv F rfl rfl rfl (decide_eq_false (by omega)) (y_bd rfl rfl (bd32_)) rfl rfl fun a F => ?_
            refine gv F rfl rfl rfl (decide_eq_false (by omega)) (y_eq32 rfl rfl rfl) rfl rfl fun a F => ?_
            refine dv F (y_pkf (decide_eq_false (by omega)) rfl rfl rfl) rfl rfl rfl fun a F => ?_
            refine dv F (y_mv rfl rfl) rfl rfl rfl fun a F => ?_
            refine gv F rfl rfl rfl (decide_eq_false hk0) (y_mv rfl rfl) rfl rfl fun a F => ?_
            refine gv F rfl rfl rfl (decide_eq_false hk0) (y_mv rfl rfl) rfl rfl fun a F => ?_
            refine gv F rfl rfl rfl (decide_eq_false hk0) (y_ia rfl rfl eA rfl Try.underlying22 Try.sizeOf35 k rfl hi) rfl rfl fun a F => ?_
            refine gv F rfl rfl rfl (decide_eq_false hk0) (y_ld rfl rfl (by
              obtain ⟨b', o', e, _, hcell⟩ := (hl.st S).sl.at_ hi
              rw [eA] at e; cases e
              exact lda Try.isAgg35 Try.sizeOf35 (len35 _) hcell)) rfl rfl fun a F => ?_
            refine gv F rfl rfl rfl (decide_eq_false hk0) (y_mv rfl rfl) rfl rfl fun a F => ?_
            refine gc F rfl rfl rfl (decide_eq_false hk0) (c_f rfl rfl rfl Try.call28) rfl rfl (f28_c l[k] b21 (cg cs cs.length) _ ((hl.st S).ok _ (List.getElem_mem hi)) (S.ok (i := 4) rfl)) fun a v w' hr F => ?_
            obtain ⟨rfl, hb⟩ := hr
            replace S := S.call hb
            refine dv F (y_pkf (decide_eq_false hk0) rfl rfl rfl) rfl rfl rfl fun a F => ?_
            refine dn ?_
            refine tn <| hK18 _ _ ?_
            refine cb F rfl (fun h3 => ?_) (fun h3 => ?_)
            · have hb : base (l.map TrV.t) (cs.map Chg.path) k = true := by first | exact base_far hi | exact base_key hi hk0 | exact base_read hi h3
              refine rg ?_
              refine dv F (y_mv rfl rfl) rfl rfl rfl fun a F => ?_
              refine dv F (y_mv rfl rfl) rfl rfl rfl fun a F => ?_
              refine dc F (c_f rfl rfl rfl Try.call27) rfl rfl rfl (f27_c G Q k (S.pick [0, 1, 2, 3, 4] _ ⟨rfl, rfl, rfl, rfl, rfl, trivial⟩ rfl) hk2 (by rw [hW.sd.len, List.length_map]) (by omega)) fun a v w' hr F => ?_
              obtain ⟨QA2, qc2, S⟩ := hr
              refine dn ?_
              refine bn <| tn <| hK16 _ _ ?_
              refine rg ?_
              refine dv F (y_add rfl rfl rfl (by omega)) rfl rfl rfl fun a F => ?_
              refine dv F (y_mv rfl rfl) rfl rfl rfl fun a F => ?_
              refine dn ?_
              exact ln (by omega) ⟨k + 1, _, _, _, _, rfl, by omega, by first | exact (hW.mark hkS (Reach.base hkS hb)).more (fun _ => by rw [getD_set, if_pos ⟨rfl, hkG⟩]) | exact hW.skip (base_no hi hk0 h3), by first | (simp; omega) | omega, F.sub _ ⟨rfl, rfl, rfl, rfl, rfl, rfl, rfl, rfl, rfl, rfl, trivial⟩, S.pick [0, 1, 2, 3, 4] _ ⟨rfl, rfl, rfl, rfl, rfl, trivial⟩ rfl⟩
            · refine wp_skip ?_
              refine bn <| tn <| hK16 _ _ ?_
              refine rg ?_
              refine dv F (y_add rfl rfl rfl (by omega)) rfl rfl rfl fun a F => ?_
              refine dv F (y_mv rfl rfl) rfl rfl rfl fun a F => ?_
              refine dn ?_
              exact ln (by omega) ⟨k + 1, _, _, _, _, rfl, by omega, by first | exact (hW.mark hkS (Reach.base hkS hb)).more (fun _ => by rw [getD_set, if_pos ⟨rfl, hkG⟩]) | exact hW.skip (base_no hi hk0 h3), by first | (simp; omega) | omega, F.sub _ ⟨rfl, rfl, rfl, rfl, rfl, rfl, rfl, rfl, rfl, rfl, trivial⟩, S.pick [0, 1, 2, 3, 4] _ ⟨rfl, rfl, rfl, rfl, rfl, trivial⟩ rfl⟩
        · refine wp_exit ?_
          refine tx <| lx <| bh <| tn <| hK12 _ _ ?_
          refine sq fun K19 hK19 => ?_
          refine bl ?_
          obtain rfl : k = L.length := by omega
          refine lp (fun m a w => ∃ (G : List Bool) (Q : List Nat) (QA : Option Addr) (qc : Nat), m = L.length - cnt G + Q.length ∧ (WL (L.map StpV.outs) (l.map TrV.t) (cs.map Chg.path) G Q L.length (fun _ => False)) ∧ (L.length - cnt G + Q.length ≤ 2000) ∧ Fr 107 a [(0, .slice SA L.length sc), (1, .slice A l.length c), (2, .slice CA cs.length cc), (7, .pointer (some ⟨b7, 0, none⟩)), (11, .pointer (some ⟨b11, 0, none⟩)), (12, .func (.func 27) #[] [Value.pointer (some ⟨b7, 0, none⟩), Value.pointer (some ⟨b11, 0, none⟩)].toArray)] ∧ St w0 w [bk b20 4 ((G).flatMap encB), bk b7 48 [.slice (some ⟨b20, 0, none⟩) L.length L.length], bk b11 71 [.slice QA (Q).length qc], ow 3 1 (.slice QA (Q).length qc) (Q).length ((Q).flatMap encI)]) (L.length - cnt G + Q.length) ?_ ?_
          · exact ⟨_, _, _, _, rfl, hW, by omega, F.sub _ ⟨rfl, rfl, rfl, rfl, rfl, rfl, trivial⟩, S.pick [0, 1, 2, 3] _ ⟨rfl, rfl, rfl, rfl, trivial⟩ rfl⟩
          · rintro m a w ⟨G, Q, QA, qc, hm, hW, hM, F, S⟩
            refine sq fun K20 hK20 => ?_
            refine sq fun K21 hK21 => ?_
            refine rg ?_
            refine dv F (y_ld rfl rfl (S.ld (i := 2) rfl rfl Try.isAgg71)) rfl rfl rfl fun a F => ?_
            refine dv F (y_ln rfl rfl Try.underlying71) rfl rfl rfl fun a F => ?_
            refine dv F (y_gt rfl rfl rfl) rfl rfl rfl fun a F => ?_
            refine dn ?_
            refine tn <| hK21 _ _ ?_
            refine cd F rfl (fun h4 => ?_) (fun h4 => ?_)
            · obtain ⟨q, Q, rfl⟩ : ∃ q Q', Q = q :: Q' := by
                cases Q with
                | nil => exact absurd h4 (by simp)
                | cons q Q' => exact ⟨q, Q', rfl⟩
              simp only [List.length_cons] at hM
              have hm3 := hm
              simp only [List.length_cons] at hm3
              have hqn : q < L.length := by simpa using (hW.qs q (List.mem_cons_self ..)).1
              refine wp_skip ?_
              refine tn <| hK20 _ _ ?_
              refine bl ?_
              refine sq fun K22 hK22 => ?_
              
              refine rg ?_
              refine dmm F S rfl rfl rfl rfl fun a w b66 F S => ?_
              refine dv F (y_as rfl rfl) rfl rfl rfl fun a F => ?_
              refine dn ?_
              refine tn <| hK22 _ _ ?_
              refine sq fun K23 hK23 => ?_
              refine sq fun K24 hK24 => ?_
              obtain ⟨qb, qo, eQ, hqb, _⟩ := (S.ows (i := 3) (ys := q :: Q) rfl lenI (by decide)).at_ (j := 0) (by simp)
              obtain ⟨sb, so, eS, hsb, _⟩ := (hS.st S).sl.at_ hqn
              have hlo := hS.lo _ (List.getElem_mem hqn)
              refine rg ?_
              refine dv F (y_mv rfl rfl) rfl rfl rfl fun a F => ?_
              refine dv F (y_ld rfl rfl (S.ld (i := 2) rfl rfl Try.isAgg71)) rfl rfl rfl fun a F => ?_
              refine dv F (y_ia rfl rfl eQ rfl Try.underlying71 Try.sizeOf3 0 rfl (by simp)) rfl rfl rfl fun a F => ?_
              refine dv F (y_ld rfl rfl (by
                obtain ⟨b', o', e, _, hcell⟩ := (S.ows (i := 3) (ys := q :: Q) rfl lenI (by decide)).at_ (j := 0) (by simp)
                rw [eQ] at e; cases e
                exact ld1 (v := .int .i64 (q : Int)) Try.isAgg3 (hcell 0 _ rfl))) rfl rfl rfl fun a F => ?_
              refine dv F (y_ia rfl rfl eS rfl Try.underlying40 Try.sizeOf47 q rfl hqn) rfl rfl rfl fun a F => ?_
              refine dv F (y_fa rfl rfl fi47_5) rfl rfl rfl fun a F => ?_
              refine dv F (y_ld rfl rfl (by
                obtain ⟨b', o', e, _, hcell⟩ := (hS.st S).sl.at_ hqn
                rw [eS] at e; cases e
                exact ld1 Try.isAgg45 (hcell 6 _ (stp6 _)))) rfl rfl rfl fun a F => ?_
              refine dv F (y_ln rfl rfl Try.underlying45) rfl rfl rfl fun a F => ?_
              refine dv F (y_mv rfl rfl) rfl rfl rfl fun a F => ?_
              refine dn ?_
              refine tn <| hK24 _ _ ?_
              refine bl ?_
              refine lp (fun m a w => ∃ k : Nat, m = L[q].outs.length - k ∧ (k ≤ L[q].outs.length) ∧ Fr 107 a [(0, .slice SA L.length sc), (1, .slice A l.length c), (2, .slice CA cs.length cc), (7, .pointer (some ⟨b7, 0, none⟩)), (11, .pointer (some ⟨b11, 0, none⟩)), (12, .func (.func 27) #[] [Value.pointer (some ⟨b7, 0, none⟩), Value.pointer (some ⟨b11, 0, none⟩)].toArray), (14, .map (some b66)), (73, .slice L[q].OA L[q].outs.length L[q].Oc), (74, .int .i64 (L[q].outs.length : Int)), (75, .int .i64 (k : Int))] ∧ St w0 w [bk b20 4 ((G).flatMap encB), bk b7 48 [.slice (some ⟨b20, 0, none⟩) L.length L.length], bk b11 71 [.slice QA (q :: Q).length qc], ow 3 1 (.slice QA (q :: Q).length qc) (q :: Q).length ((q :: Q).flatMap encI), mp b66 (fB (og L[q].outs k))]) (L[q].outs.length) ?_ ?_
              · exact ⟨0, rfl, Nat.zero_le _, F.sub _ ⟨rfl, rfl, rfl, rfl, rfl, rfl, rfl, rfl, rfl, rfl, trivial⟩, S.pick [0, 1, 2, 3, 4] _ ⟨rfl, rfl, rfl, rfl, rfl, trivial⟩ rfl⟩
              · rintro m a w ⟨k, hm, hk, F, S⟩
                refine sq fun K25 hK25 => ?_
                refine rg ?_
                refine dv F (y_lt rfl rfl rfl) rfl rfl rfl fun a F => ?_
                refine dn ?_
                refine tn <| hK25 _ _ ?_
                refine sq fun K26 hK26 => ?_
                refine cd F rfl (fun h5 => ?_) (fun h5 => ?_)
                · refine wp_skip ?_
                  refine tn <| hK26 _ _ ?_
                  refine sq fun K27 hK27 => ?_
                  refine bl ?_
                  refine sq fun K28 hK28 => ?_
                  have hk2 : k < L[q].outs.length := by omega
                  obtain ⟨ob, oo, eO, hob, _⟩ := ((hS.st S).ok _ (List.getElem_mem hqn)).at_ hk2
                  refine rg ?_
                  refine dv F (y_ia rfl rfl eO rfl Try.underlying45 Try.sizeOf9 k rfl hk2) rfl rfl rfl fun a F => ?_
                  refine dv F (y_ld rfl rfl (by
                    obtain ⟨b', o', e, _, hcell⟩ := ((hS.st S).ok _ (List.getElem_mem hqn)).at_ hk2
                    rw [eO] at e; cases e
                    exact ld1 Try.isAgg9 (hcell 0 _ rfl))) rfl rfl rfl fun a F => ?_
                  refine dv F (y_as rfl rfl) rfl rfl rfl fun a F => ?_
                  refine dn ?_
                  refine tn <| hK28 _ _ ?_
                  refine rg ?_
                  refine dv F (y_mv rfl rfl) rfl rfl rfl fun a F => ?_
                  refine dv F (y_mv rfl rfl) rfl rfl rfl fun a F => ?_
                  refine dmu F S rfl rfl rfl rfl (i := 4) rfl Try.underlying68 Try.underlying9 rfl rfl fun a w F S => ?_
                  rw [og_succ hk2] at S
                  refine dn ?_
                  refine bn <| tn <| hK27 _ _ ?_
                  refine rg ?_
                  refine dv F (y_add rfl rfl rfl (by omega)) rfl rfl rfl fun a F => ?_
                  refine dv F (y_mv rfl rfl) rfl rfl rfl fun a F => ?_
                  refine dn ?_
                  exact ln (by omega) ⟨k + 1, rfl, by omega, F.sub _ ⟨rfl, rfl, rfl, rfl, rfl, rfl, rfl, rfl, rfl, rfl, trivial⟩, S.pick [0, 1, 2, 3, 4] _ ⟨rfl, rfl, rfl, rfl, rfl, trivial⟩ rfl⟩
                · refine wp_exit ?_
                  refine tx <| lx <| bh <| tn <| hK23 _ _ ?_
                  refine sq fun K29 hK29 => ?_
                  obtain rfl : k = L[q].outs.length := by omega
                  obtain ⟨A3, c3, hv3, _, hc3, _⟩ := S.ok (i := 3) rfl
                  cases hv3
                  refine rg ?_
                  refine dv F (y_ld rfl rfl (S.ld (i := 2) rfl rfl Try.isAgg71)) rfl rfl rfl fun a F => ?_
                  refine dv F (y_sl1 (N := Q.length) rfl rfl rfl Try.underlying71 Try.sizeOf3 rfl (by simp) hc3) rfl rfl rfl fun a F => ?_
                  refine dsw F S rfl rfl rfl Try.sizeOf71 (i := 2) rfl rfl rfl rfl one1 rfl rfl fun a w F S => ?_
                  refine dn ?_
                  refine tn <| hK29 _ _ ?_
                  refine sq fun K30 hK30 => ?_
                  replace S := ow_drop S (i := 3) (m := 1) rfl (by simp)
                  refine rg ?_
                  refine dv F (y_mv rfl rfl) rfl rfl rfl fun a F => ?_
                  refine dv F (y_ln rfl rfl Try.underlying40) rfl rfl rfl fun a F => ?_
                  refine dv F (y_mv rfl rfl) rfl rfl rfl fun a F => ?_
                  refine dn ?_
                  refine tn <| hK30 _ _ ?_
                  refine bl ?_
                  refine lp (fun m a w => ∃ (i : Nat) (G2 : List Bool) (Q2 : List Nat) (QA2 : Option Addr) (qc2 : Nat), m = L.length - i ∧ (i ≤ L.length) ∧ (WL (L.map StpV.outs) (l.map TrV.t) (cs.map Chg.path) G2 Q2 L.length (fun j => j = q)) ∧ (∀ i', i' < i → edge (L.map StpV.outs) (l.map TrV.t) q i' = true → G2.getD i' false = true) ∧ (L.length - cnt G2 + Q2.length = L.length - cnt G + Q.length) ∧ (G2.getD q false = true) ∧ Fr 107 a [(0, .slice SA L.length sc), (1, .slice A l.length c), (2, .slice CA cs.length cc), (7, .pointer (some ⟨b7, 0, none⟩)), (11, .pointer (some ⟨b11, 0, none⟩)), (12, .func (.func 27) #[] [Value.pointer (some ⟨b7, 0, none⟩), Value.pointer (some ⟨b11, 0, none⟩)].toArray), (14, .map (some b66)), (84, .slice SA L.length sc), (85, .int .i64 (L.length : Int)), (86, .int .i64 (i : Int))] ∧ St w0 w [bk b20 4 ((G2).flatMap encB), bk b7 48 [.slice (some ⟨b20, 0, none⟩) L.length L.length], bk b11 71 [.slice QA2 (Q2).length qc2], ow 3 1 (.slice QA2 (Q2).length qc2) (Q2).length ((Q2).flatMap encI), mp b66 (fB (og L[q].outs L[q].outs.length))]) (L.length) ?_ ?_
                  · exact ⟨0, G, Q, _, _, rfl, Nat.zero_le _, hW.pop, fun i' h => absurd h (Nat.not_lt_zero i'), rfl, (hW.qs q (List.mem_cons_self ..)).2, F.sub _ ⟨rfl, rfl, rfl, rfl, rfl, rfl, rfl, rfl, rfl, rfl, trivial⟩, S.pick [0, 1, 2, 3, 4] _ ⟨rfl, rfl, rfl, rfl, rfl, trivial⟩ rfl⟩
                  · rintro m a w ⟨i, G2, Q2, QA2, qc2, hm, hi5, hW2, hE, hM2, hqr, F, S⟩
                    refine sq fun K31 hK31 => ?_
                    refine rg ?_
                    refine dv F (y_lt rfl rfl rfl) rfl rfl rfl fun a F => ?_
                    refine dn ?_
                    refine tn <| hK31 _ _ ?_
                    refine sq fun K32 hK32 => ?_
                    refine cd F rfl (fun h6 => ?_) (fun h6 => ?_)
                    · refine wp_skip ?_
                      refine tn <| hK32 _ _ ?_
                      refine sq fun K33 hK33 => ?_
                      refine bl ?_
                      refine sq fun K34 hK34 => ?_
                      refine rg ?_
                      refine dv F (y_mv rfl rfl) rfl rfl rfl fun a F => ?_
                      refine dv F (y_as rfl rfl) rfl rfl rfl fun a F => ?_
                      refine dn ?_
                      refine tn <| hK34 _ _ ?_
                      refine sq fun K35 hK35 => ?_
                      have hi2 : i < L.length := by omega
                      have hkS : i < (L.map StpV.outs).length := by simpa using hi2
                      have hGl : G2.length = L.length := by rw [hW2.sd.len, List.length_map]
                      have hiG : i < G2.length := by omega
                      have hkG := hiG
                      rcases (show G2[i] = true ∨ G2[i] = false by cases G2[i] <;> simp) with h7 | h7
                      · try (have hil := lt_of_wl hW2 hkS hiG h7; obtain ⟨ab, ao, eA, hab, _⟩ := (hl.st S).sl.at_ hil)
                        refine rg ?_
                        refine dv F (y_ld rfl rfl (S.ld (i := 1) rfl rfl Try.isAgg48)) rfl rfl rfl fun a F => ?_
                        refine dv F (y_mv rfl rfl) rfl rfl rfl fun a F => ?_
                        refine dv F (y_ia rfl rfl rfl rfl Try.underlying48 Try.sizeOf4 i rfl hi2) rfl rfl rfl fun a F => ?_
                        refine dv F (y_ld rfl rfl (ld1 Try.isAgg4 (cellB S (i := 0) rfl hiG))) rfl rfl rfl fun a F => ?_
                        refine dv F (y_nt rfl rfl) rfl rfl rfl fun a F => ?_
                        refine dv F (y_mv rfl rfl) rfl rfl rfl fun a F => ?_
                        refine gs F rfl rfl rfl (by simp [h7]) rfl rfl fun a F => ?_
                        refine gs F rfl rfl rfl (by simp [h7]) rfl rfl fun a F => ?_
                        refine gs F rfl rfl rfl (by simp [h7]) rfl rfl fun a F => ?_
                        refine gs F rfl rfl rfl (by simp [h7]) rfl rfl fun a F => ?_
                        refine gs F rfl rfl rfl (by simp [h7]) rfl rfl fun a F => ?_
                        refine gs F rfl rfl rfl (by simp [h7]) rfl rfl fun a F => ?_
                        refine dv F (y_pkf (by simp [h7]) rfl rfl rfl) rfl rfl rfl fun a F => ?_
                        refine dn ?_
                        refine tn <| hK35 _ _ ?_
                        refine cf F rfl rfl ?_
                        refine wp_skip ?_
                        refine bn <| tn <| hK33 _ _ ?_
                        refine rg ?_
                        refine dv F (y_add rfl rfl rfl (by omega)) rfl rfl rfl fun a F => ?_
                        refine dv F (y_mv rfl rfl) rfl rfl rfl fun a F => ?_
                        refine dn ?_
                        exact ln (by omega) ⟨i + 1, _, _, _, _, rfl, by omega, by first | exact hW2.mark hkS (Reach.step (hW2.sd.sound q hqr) hkS he) | exact hW2, by first | exact e_mark hE hkG | exact e_has hE hiG h7 | exact e_no hE hil hqn h8, by first | exact m_mark hM2 hkG h7 hGl | exact hM2, by first | exact hqr | exact set_mono hqr, F.sub _ ⟨rfl, rfl, rfl, rfl, rfl, rfl, rfl, rfl, rfl, rfl, trivial⟩, S.pick [0, 1, 2, 3, 4] _ ⟨rfl, rfl, rfl, rfl, rfl, trivial⟩ rfl⟩
                      · try (have hil := lt_of_wl hW2 hkS hiG h7; obtain ⟨ab, ao, eA, hab, _⟩ := (hl.st S).sl.at_ hil)
                        refine rg ?_
                        refine dv F (y_ld rfl rfl (S.ld (i := 1) rfl rfl Try.isAgg48)) rfl rfl rfl fun a F => ?_
                        refine dv F (y_mv rfl rfl) rfl rfl rfl fun a F => ?_
                        refine dv F (y_ia rfl rfl rfl rfl Try.underlying48 Try.sizeOf4 i rfl hi2) rfl rfl rfl fun a F => ?_
                        refine dv F (y_ld rfl rfl (ld1 Try.isAgg4 (cellB S (i := 0) rfl hiG))) rfl rfl rfl fun a F => ?_
                        refine dv F (y_nt rfl rfl) rfl rfl rfl fun a F => ?_
                        refine dv F (y_mv rfl rfl) rfl rfl rfl fun a F => ?_
                        refine gv F rfl rfl rfl (by simp [h7]) (y_mv rfl rfl) rfl rfl fun a F => ?_
                        refine gv F rfl rfl rfl (by simp [h7]) (y_mv rfl rfl) rfl rfl fun a F => ?_
                        refine gv F rfl rfl rfl (by simp [h7]) (y_ia rfl rfl eA rfl Try.underlying22 Try.sizeOf35 i rfl hil) rfl rfl fun a F => ?_
                        refine gv F rfl rfl rfl (by simp [h7]) (y_ld rfl rfl (by
                          obtain ⟨b', o', e, _, hcell⟩ := (hl.st S).sl.at_ hil
                          rw [eA] at e; cases e
                          exact lda Try.isAgg35 Try.sizeOf35 (len35 _) hcell)) rfl rfl fun a F => ?_
                        refine gv F rfl rfl rfl (by simp [h7]) (y_mv rfl rfl) rfl rfl fun a F => ?_
                        refine gc F rfl rfl rfl (by simp [h7]) (c_f rfl rfl rfl Try.call28) rfl rfl (f28_c l[i] b66 (og L[q].outs L[q].outs.length) _ ((hl.st S).ok _ (List.getElem_mem hil)) (S.ok (i := 4) rfl)) fun a v w' hr F => ?_
                        obtain ⟨rfl, hb⟩ := hr
                        replace S := S.call hb
                        refine dv F (y_pkt (by simp [h7]) rfl rfl rfl) rfl rfl rfl fun a F => ?_
                        refine dn ?_
                        refine tn <| hK35 _ _ ?_
                        refine cb F rfl (fun h8 => ?_) (fun h8 => ?_)
                        · have he := edge_read hil hqn h8
                          refine rg ?_
                          refine dv F (y_mv rfl rfl) rfl rfl rfl fun a F => ?_
                          refine dv F (y_mv rfl rfl) rfl rfl rfl fun a F => ?_
                          refine dc F (c_f rfl rfl rfl Try.call27) rfl rfl rfl (f27_c G2 Q2 i (S.pick [0, 1, 2, 3, 4] _ ⟨rfl, rfl, rfl, rfl, rfl, trivial⟩ rfl) hi2 hGl (by omega)) fun a v w' hr F => ?_
                          obtain ⟨QA3, qc3, S⟩ := hr
                          refine dn ?_
                          refine bn <| tn <| hK33 _ _ ?_
                          refine rg ?_
                          refine dv F (y_add rfl rfl rfl (by omega)) rfl rfl rfl fun a F => ?_
                          refine dv F (y_mv rfl rfl) rfl rfl rfl fun a F => ?_
                          refine dn ?_
                          exact ln (by omega) ⟨i + 1, _, _, _, _, rfl, by omega, by first | exact hW2.mark hkS (Reach.step (hW2.sd.sound q hqr) hkS he) | exact hW2, by first | exact e_mark hE hkG | exact e_has hE hiG h7 | exact e_no hE hil hqn h8, by first | exact m_mark hM2 hkG h7 hGl | exact hM2, by first | exact hqr | exact set_mono hqr, F.sub _ ⟨rfl, rfl, rfl, rfl, rfl, rfl, rfl, rfl, rfl, rfl, trivial⟩, S.pick [0, 1, 2, 3, 4] _ ⟨rfl, rfl, rfl, rfl, rfl, trivial⟩ rfl⟩
                        · refine wp_skip ?_
                          refine bn <| tn <| hK33 _ _ ?_
                          refine rg ?_
                          refine dv F (y_add rfl rfl rfl (by omega)) rfl rfl rfl fun a F => ?_
                          refine dv F (y_mv rfl rfl) rfl rfl rfl fun a F => ?_
                          refine dn ?_
                          exact ln (by omega) ⟨i + 1, _, _, _, _, rfl, by omega, by first | exact hW2.mark hkS (Reach.step (hW2.sd.sound q hqr) hkS he) | exact hW2, by first | exact e_mark hE hkG | exact e_has hE hiG h7 | exact e_no hE hil hqn h8, by first | exact m_mark hM2 hkG h7 hGl | exact hM2, by first | exact hqr | exact set_mono hqr, F.sub _ ⟨rfl, rfl, rfl, rfl, rfl, rfl, rfl, rfl, rfl, rfl, trivial⟩, S.pick [0, 1, 2, 3, 4] _ ⟨rfl, rfl, rfl, rfl, rfl, trivial⟩ rfl⟩
                    · obtain rfl : i = L.length := by omega
                      refine wp_exit ?_
                      refine tx <| lx <| bh <| bn <| ?_
                      exact ln (by omega) ⟨_, _, _, _, rfl, hW2.popped (fun i hi he => hE i (by rwa [List.length_map] at hi) he), by omega, F.sub _ ⟨rfl, rfl, rfl, rfl, rfl, rfl, trivial⟩, S.pick [0, 1, 2, 3] _ ⟨rfl, rfl, rfl, rfl, trivial⟩ rfl⟩
            · obtain rfl : Q = [] := List.eq_nil_of_length_eq_zero (by omega)
              refine wp_exit ?_
              refine tx <| lx <| bh <| tn <| hK19 _ _ ?_
              refine sq fun K36 hK36 => ?_
              refine rg ?_
              refine dv F (y_ld rfl rfl (S.ld (i := 1) rfl rfl Try.isAgg48)) rfl rfl rfl fun a F => ?_
              refine dv F (y_as rfl rfl) rfl rfl rfl fun a F => ?_
              refine dn ?_
              refine tn <| hK36 _ _ ?_
              refine wp_ret ?_
              refine ?_
              exact rt1 F rfl rfl ⟨⟨b20, G, rfl, hW.sd, wl_closed hW, S.ok (i := 0) rfl, ((S.own 0 _ rfl).2 b20 rfl).1⟩, S.bel⟩

end Go.Proofs.Ytpnhinbhhpeklaa
