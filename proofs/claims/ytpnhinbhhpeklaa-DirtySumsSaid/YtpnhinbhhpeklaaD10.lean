/- Walks of layer 27, tenth part: In. -/
import Derived.Test.YtpnhinbhhpeklaaD9
import Derived.Test.YtpnhinbhhpeklaaMaps
import Derived.Test.YtpnhinbhhpeklaaConePlain
set_option linter.unusedVariables false
set_option linter.unusedSimpArgs false
namespace Go.Proofs.Ytpnhinbhhpeklaa
open Go.RowKit Go.Eng DirtyPlain
theorem fi35_0 : FieldIs Try.prog 35 0 0 := fieldIs (z := 31) Try.underlying35 rfl rfl rfl Try.sizeOf32
theorem fi47_5 : FieldIs Try.prog 47 5 6 := fieldIs (z := 0) Try.underlying47 rfl rfl rfl Try.sizeOf45
theorem fi70_0 : FieldIs Try.prog 70 0 0 := fieldIs (z := 0) Try.underlying70 rfl rfl rfl Try.sizeOf9
def encS (p : ByteArray) : List Value := [.string p]
def encB (b : Bool) : List Value := [.bool b]
theorem lenS (p : ByteArray) : (encS p).length = 1 := rfl
theorem lenB (p : Bool) : (encB p).length = 1 := rfl
structure Chg where
  path : ByteArray
  kind : Int
def encChg (c : Chg) : List Value := [.string c.path, .int .i64 c.kind]
theorem len70 (c : Chg) : (encChg c).length = 2 := rfl
theorem one70 (c : Chg) : ∀ u ∈ encChg c, u.oneCell' = true := all1 rfl
/-- a step: its cells ahead of its outs, and where the outs are -/
structure StpV where
  hd : { l : List Value // l.length = 6 }
  OA : Option Addr
  Oc : Nat
  outs : List ByteArray
def encStp (x : StpV) : List Value := x.hd.1 ++ [.slice x.OA x.outs.length x.Oc]
theorem stp6 (x : StpV) : (encStp x)[6]? = some (.slice x.OA x.outs.length x.Oc) := by
  rw [encStp, List.getElem?_append_right (by rw [x.hd.2]; omega), x.hd.2]; rfl
structure Stps (w : World) (A : Option Addr) (L : List StpV) : Prop where
  sl : Sl w 7 encStp A L
  ok : ∀ x ∈ L, Sl w 1 encS x.OA x.outs
  lo : ∀ x ∈ L, x.outs.length ≤ 140737488351232
theorem Stps.below {w w' : World} {A : Option Addr} {l : List StpV} (h : Stps w A l) (hb : Below w.heap.size w w') : Stps w' A l := ⟨h.sl.below hb, fun x hx => (h.ok x hx).below hb, h.lo⟩
theorem Stps.st {w0 w : World} {hs : List Res} {A : Option Addr} {l : List StpV} (h : Stps w0 A l) (S : St w0 w hs) : Stps w A l := h.below S.bel
def fB (g : ByteArray → Bool) : ByteArray → Option Value := fun s => if g s = true then some (.bool true) else none
theorem fB_get (g : ByteArray → Bool) (s : ByteArray) : (fB g s).getD (.bool false) = .bool (g s) := by
  unfold fB; cases g s <;> rfl
theorem tr_key {j : Nat} {u : Value} (x : TrV) (h : (encD x.t.key)[j]? = some u) : (encTr x)[j]? = some u := by
  rw [encTr, List.getElem?_append_left (List.getElem?_eq_some_iff.1 h).1]; exact h
theorem bd32_ (w : World) : (Instr.build 32 [].toArray).run Try.prog w = .ok (.agg (encD dig0).toArray) w := by kernel_rfl
section
variable {L : List StpV} {l : List TrV} {cs : List Chg} {G : List Bool} {i : Nat}
theorem base_lt (hi : i < l.length) : base (l.map TrV.t) (cs.map Chg.path) i = (decide (l[i].t.key = dig0) || cs.any fun c => rds l[i].t c.path) := by
  unfold base
  rw [List.getElem?_map, List.getElem?_eq_getElem hi]
  simp [List.any_map, Function.comp_def]
theorem inn_key (hi : i < l.length) (h : l[i].t.key = dig0) : inn (L.map StpV.outs) (l.map TrV.t) (cs.map Chg.path) G i = true := by
  rw [inn, base_lt hi]; simp [h]
theorem inn_far (hi : l.length ≤ i) : inn (L.map StpV.outs) (l.map TrV.t) (cs.map Chg.path) G i = true := by
  rw [inn, base, List.getElem?_eq_none (by simpa using hi)]; simp
theorem inn_chg (hi : i < l.length) {k : Nat} (hk : k < cs.length) (h : rds l[i].t cs[k].path = true) : inn (L.map StpV.outs) (l.map TrV.t) (cs.map Chg.path) G i = true := by
  rw [inn, base_lt hi, any_hit (fun c : Chg => rds l[i].t c.path) cs k hk h]; simp
theorem edge_lt (hi : i < l.length) {j : Nat} (hj : j < L.length) : edge (L.map StpV.outs) (l.map TrV.t) j i = L[j].outs.any fun p => rds l[i].t p := by
  unfold edge
  rw [List.getElem?_map, List.getElem?_eq_getElem hi, List.getElem?_map, List.getElem?_eq_getElem hj]
  rfl
theorem inn_edge (hi : i < l.length) {j : Nat} (hj : j < L.length) {k : Nat} (hk : k < L[j].outs.length) (hjG : j < G.length) (hg : G[j] = true) (h : rds l[i].t L[j].outs[k] = true) : inn (L.map StpV.outs) (l.map TrV.t) (cs.map Chg.path) G i = true := by
  simp only [inn, Bool.or_eq_true, List.any_eq_true, Bool.and_eq_true, List.mem_range]
  refine .inr ⟨j, by simpa using hj, by simp [hjG, hg], ?_⟩
  rw [edge_lt hi hj]
  exact any_hit (fun p => rds l[i].t p) _ k hk h
theorem edge_next {j : Nat} (hj : j < L.length) (hjG : j < G.length) (hi : i < l.length) (h : ∀ j', j' < j → (G.getD j' false && edge (L.map StpV.outs) (l.map TrV.t) j' i) = false) {k : Nat}
    (h2 : ∀ (k' : Nat) (hk' : k' < L[j].outs.length), k' < k → (G[j] && rds l[i].t L[j].outs[k']) = false) (hk : L[j].outs.length ≤ k) : ∀ j', j' < j + 1 → (G.getD j' false && edge (L.map StpV.outs) (l.map TrV.t) j' i) = false := fun j' hj' => by
  by_cases e : j' = j
  · subst e
    rw [edge_lt hi hj, List.getD_eq_getElem?_getD, List.getElem?_eq_getElem hjG, Option.getD_some]
    cases hg : G[j'] with
    | false => rfl
    | true =>
      rw [Bool.true_and]
      refine any_miss (fun p => rds l[i].t p) _ fun k' hk' => ?_
      have := h2 k' hk' (by omega)
      rwa [hg, Bool.true_and] at this
  · exact h j' (by omega)
theorem inn_no (hi : i < l.length) (h1 : ¬ l[i].t.key = dig0) {k : Nat} (h2 : ∀ (j : Nat) (hj : j < cs.length), j < k → rds l[i].t cs[j].path = false) {j : Nat} (h3 : ∀ j', j' < j → (G.getD j' false && edge (L.map StpV.outs) (l.map TrV.t) j' i) = false) (hk : cs.length ≤ k) (hj : L.length ≤ j) :
    inn (L.map StpV.outs) (l.map TrV.t) (cs.map Chg.path) G i = false := by
  rw [inn, base_lt hi, any_miss (fun c : Chg => rds l[i].t c.path) cs fun j hj => h2 j hj (by omega)]
  simp only [h1, decide_false, Bool.or_false, Bool.false_or]
  rw [List.any_eq_false]
  intro j' hj'
  rw [List.mem_range, List.length_map] at hj'
  rw [h3 j' (by omega)]; simp
end
set_option maxRecDepth 2000
set_option maxHeartbeats 2000000 in
theorem f29_c (x : TrV) (p : ByteArray) (w0 : World) (hx : TrOk w0 x) :
    Calls Try.prog 29 [.agg (encTr x).toArray, .string p].toArray w0 (Ret fun v w' => v = .bool (rds x.t p) ∧ Below w0.heap.size w0 w') := by
  refine ent Try.func29 Try.ntmps29 rfl rfl ?_
  intro a F
  have S := St.refl w0
  refine sq fun K1 hK1 => ?_
  refine rg ?_
  refine dbx F S rfl rfl rfl rfl rfl rfl fun a w b2 F S => ?_
  refine dv F (y_as rfl rfl) rfl rfl rfl fun a F => ?_
  refine dn ?_
  refine tn <| hK1 _ _ ?_
  refine sq fun K2 hK2 => ?_
  refine rg ?_
  refine dv F (y_fa rfl rfl fi35_1) rfl rfl rfl fun a F => ?_
  refine dv F (y_ld rfl rfl (S.ld (i := 0) rfl (ntr32 x) Try.isAgg23)) rfl rfl rfl fun a F => ?_
  refine dv F (y_mv rfl rfl) rfl rfl rfl fun a F => ?_
  refine dc F (c_f rfl rfl rfl Try.call34) rfl rfl rfl (f34_c _ p (hx.rd.st S) hx.lr) fun a v w' hr F => ?_
  obtain ⟨rfl, hb⟩ := hr
  replace S := S.call hb
  refine dv F (y_as rfl rfl) rfl rfl rfl fun a F => ?_
  refine dn ?_
  refine tn <| hK2 _ _ ?_
  refine wp_ret ?_
  refine ?_
  exact rt1 F rfl rfl ⟨rfl, S.bel⟩

theorem f36_c (r : Rd) (b mb : Nat) (g : ByteArray → Bool) (w0 : World) (hb0 : w0.heap[b]? = some (.cells [Value.map (some mb)].toArray 68 (0, 0))) (hM : MpOk w0 mb (fB g)) :
    Calls Try.prog 36 ([Value.agg (encRd r).toArray] ++ [Value.pointer (some ⟨b, 0, none⟩)]).toArray w0 (Ret fun v w' => v = .bool (g r.path) ∧ Below w0.heap.size w0 w') := by
  have hr : w0.cell? ⟨b, 0, none⟩ = some (.map (some mb)) := by simp [World.cell?, hb0]
  have hbl : b < w0.heap.size := (Array.getElem?_eq_some_iff.1 hb0).1
  refine ent Try.func36 Try.ntmps36 rfl rfl ?_
  intro a F
  have S := St.refl w0
  refine sq fun K1 hK1 => ?_
  refine rg ?_
  refine dbx F S rfl rfl rfl rfl rfl rfl fun a w b2 F S => ?_
  refine dv F (y_as rfl rfl) rfl rfl rfl fun a F => ?_
  refine dn ?_
  refine tn <| hK1 _ _ ?_
  refine sq fun K2 hK2 => ?_
  refine rg ?_
  refine dv F (y_ld rfl rfl (ld1 Try.isAgg68 ((S.bel.cell (p := ⟨b, 0, none⟩) hbl).trans hr))) rfl rfl rfl fun a F => ?_
  refine dv F (y_fa rfl rfl fi37_0) rfl rfl rfl fun a F => ?_
  refine dv F (y_ld rfl rfl (S.ld (i := 0) rfl rfl Try.isAgg9)) rfl rfl rfl fun a F => ?_
  refine dv F (y_lk rfl rfl rfl (hM.below S.bel) Try.underlying68 Try.underlying9 Try.zeroValue4) rfl rfl rfl fun a F => ?_
  refine dv F (y_as rfl rfl) rfl rfl rfl fun a F => ?_
  refine dn ?_
  refine tn <| hK2 _ _ ?_
  refine wp_ret ?_
  refine ?_
  exact rt1 F rfl rfl ⟨by rw [fB_get], S.bel⟩

theorem f35_c {A : Option Addr} {c : Nat} {xs : List Rd} (w0 : World) (p : Rd → Bool) (g : Nat) (cap : List Value) (he : ∀ (args : Array Value) (w : World), (callFunc g args).run Try.prog w = .ok (.enter g args) w)
    (hp : ∀ (x : Rd) (W : World), Below w0.heap.size w0 W → Calls Try.prog g ([Value.agg (encRd x).toArray] ++ cap).toArray W (Ret fun v w' => v = .bool (p x) ∧ Below W.heap.size W w')) (hA : Sl w0 34 encRd A xs) (hn : xs.length ≤ 140737488351232) :
    Calls Try.prog 35 [.slice A xs.length c, .func (.func g) #[] cap.toArray].toArray w0 (Ret fun v w' => v = .bool (xs.any p) ∧ Below w0.heap.size w0 w') := by
  refine ent Try.func35 Try.ntmps35 rfl rfl ?_
  intro a F
  have S := St.refl w0
  refine sq fun K1 hK1 => ?_
  refine rg ?_
  refine dv F (y_as rfl rfl) rfl rfl rfl fun a F => ?_
  refine dn ?_
  refine tn <| hK1 _ _ ?_
  refine sq fun K2 hK2 => ?_
  refine rg ?_
  refine dv F (y_mv rfl rfl) rfl rfl rfl fun a F => ?_
  refine dv F (y_mv rfl rfl) rfl rfl rfl fun a F => ?_
  refine dc F (c_f rfl rfl rfl Try.call21) rfl rfl rfl (f21_c (c := c) _ p g cap he (fun x W hB => hp x W (S.bel.trans (hB.mono S.bel.size))) (hA.st S) hn) fun a v w' hr F => ?_
  obtain ⟨rfl, hb⟩ := hr
  replace S := S.call hb
  refine dv F (y_ge rfl rfl rfl) rfl rfl rfl fun a F => ?_
  refine dv F (y_as rfl rfl) rfl rfl rfl fun a F => ?_
  refine dn ?_
  refine tn <| hK2 _ _ ?_
  refine wp_ret ?_
  refine ?_
  exact rt1 F rfl rfl ⟨by rw [idx_any], S.bel⟩

theorem f28_c (x : TrV) (mb : Nat) (g : ByteArray → Bool) (w0 : World) (hx : TrOk w0 x) (hM : MpOk w0 mb (fB g)) :
    Calls Try.prog 28 [.agg (encTr x).toArray, .map (some mb)].toArray w0 (Ret fun v w' => v = .bool (x.t.reads.any fun r => g r.path) ∧ Below w0.heap.size w0 w') := by
  refine ent Try.func28 Try.ntmps28 rfl rfl ?_
  intro a F
  have S := St.refl w0
  refine sq fun K1 hK1 => ?_
  refine rg ?_
  refine dbx F S rfl rfl rfl rfl rfl rfl fun a w b2 F S => ?_
  refine dbx F S rfl rfl rfl rfl rfl rfl fun a w b3 F S => ?_
  refine dv F (y_as rfl rfl) rfl rfl rfl fun a F => ?_
  refine dn ?_
  refine tn <| hK1 _ _ ?_
  refine sq fun K2 hK2 => ?_
  refine rg ?_
  refine dv F (y_fa rfl rfl fi35_1) rfl rfl rfl fun a F => ?_
  refine dv F (y_ld rfl rfl (S.ld (i := 0) rfl (ntr32 x) Try.isAgg23)) rfl rfl rfl fun a F => ?_
  refine dv F (y_mf rfl rfl) rfl rfl rfl fun a F => ?_
  refine dc F (c_f rfl rfl rfl Try.call35) rfl rfl rfl (f35_c _ (fun r => g r.path) 36 [Value.pointer (some ⟨b3, 0, none⟩)] Try.call36 (fun r W hB => f36_c r b3 mb g W ((hB.block b3 ((S.own 1 _ rfl).2 b3 rfl).2).trans (S.ok (i := 1) rfl)) ((hM.below S.bel).below hB)) (hx.rd.st S) hx.lr) fun a v w' hr F => ?_
  obtain ⟨rfl, hb⟩ := hr
  replace S := S.call hb
  refine dv F (y_as rfl rfl) rfl rfl rfl fun a F => ?_
  refine dn ?_
  refine tn <| hK2 _ _ ?_
  refine wp_ret ?_
  refine ?_
  exact rt1 F rfl rfl ⟨rfl, S.bel⟩

theorem f17_c {SA A CA GA : Option Addr} {sc c cc gc : Nat} (L : List StpV) (l : List TrV) (cs : List Chg) (G : List Bool) (i : Nat) (w0 : World) (hS : Stps w0 SA L) (hSn : L.length ≤ 140737488351232) (hl : Trs w0 A l) (hln : l.length ≤ 140737488351232) (hC : Sl w0 2 encChg CA cs) (hCn : cs.length ≤ 140737488351232) (hG : Sl w0 1 encB GA G) (hGn : G.length = L.length) :
    Calls Try.prog 17 [.slice SA L.length sc, .slice A l.length c, .slice CA cs.length cc, .slice GA G.length gc, .int .i64 (i : Int)].toArray w0 (Ret fun v w' => v = .bool (inn (L.map StpV.outs) (l.map TrV.t) (cs.map Chg.path) G i) ∧ Below w0.heap.size w0 w') := by
  refine ent Try.func17 Try.ntmps17 rfl rfl ?_
  intro a F
  have S := St.refl w0
  refine sq fun K1 hK1 => ?_
  refine rg ?_
  refine dv F (y_as rfl rfl) rfl rfl rfl fun a F => ?_
  refine dn ?_
  refine tn <| hK1 _ _ ?_
  refine sq fun K2 hK2 => ?_
  refine sq fun K3 hK3 => ?_
  rcases Nat.lt_or_ge i l.length with hi | hi
  · try (obtain ⟨ab, ao, eA, hab, _⟩ := (hl.st S).sl.at_ hi)
    refine rg ?_
    refine dv F (y_mv rfl rfl) rfl rfl rfl fun a F => ?_
    refine dv F (y_mv rfl rfl) rfl rfl rfl fun a F => ?_
    refine dv F (y_ln rfl rfl Try.underlying22) rfl rfl rfl fun a F => ?_
    refine dv F (y_ge rfl rfl rfl) rfl rfl rfl fun a F => ?_
    refine dv F (y_mv rfl rfl) rfl rfl rfl fun a F => ?_
    refine gv F rfl rfl rfl (decide_eq_false (by omega)) (y_mv rfl rfl) rfl rfl fun a F => ?_
    refine gv F rfl rfl rfl (decide_eq_false (by omega)) (y_mv rfl rfl) rfl rfl fun a F => ?_
    refine gv F rfl rfl rfl (decide_eq_false (by omega)) (y_ia rfl rfl eA rfl Try.underlying22 Try.sizeOf35 i rfl hi) rfl rfl fun a F => ?_
    refine gv F rfl rfl rfl (decide_eq_false (by omega)) (y_fa rfl rfl fi35_0) rfl rfl fun a F => ?_
    refine gv F rfl rfl rfl (decide_eq_false (by omega)) (y_ld rfl rfl (by
      obtain ⟨b', o', e, _, hcell⟩ := (hl.st S).sl.at_ hi
      rw [eA] at e; cases e
      exact lda Try.isAgg32 Try.sizeOf32 (len32 _) fun j v hv => hcell j v (tr_key _ hv))) rfl rfl fun a F => ?_
    refine gv F rfl rfl rfl (decide_eq_false (by omega)) (y_bd rfl rfl (bd32_)) rfl rfl fun a F => ?_
    refine gv F rfl rfl rfl (decide_eq_false (by omega)) (y_eq32 rfl rfl rfl) rfl rfl fun a F => ?_
    refine dv F (y_pkf (decide_eq_false (by omega)) rfl rfl rfl) rfl rfl rfl fun a F => ?_
    refine dn ?_
    refine tn <| hK3 _ _ ?_
    refine cd F rfl (fun h1 => ?_) (fun h1 => ?_)
    · refine sq fun K4 hK4 => ?_
      refine rg ?_
      refine dv F (y_as rfl rfl) rfl rfl rfl fun a F => ?_
      refine dn ?_
      refine tn <| hK4 _ _ ?_
      refine wp_ret ?_
      refine tr <| ?_
      exact rt1 F rfl rfl ⟨by rw [inn_key hi h1], S.bel⟩
    · refine wp_skip ?_
      refine tn <| hK2 _ _ ?_
      refine sq fun K5 hK5 => ?_
      refine sq fun K6 hK6 => ?_
      refine rg ?_
      refine dv F (y_as rfl rfl) rfl rfl rfl fun a F => ?_
      refine dn ?_
      refine tn <| hK6 _ _ ?_
      refine bl ?_
      refine lp (fun m a w => ∃ k : Nat, m = cs.length - k ∧ (k ≤ cs.length) ∧ (∀ (j : Nat) (hj : j < cs.length), j < k → rds l[i].t cs[j].path = false) ∧ Fr 78 a [(0, .slice SA L.length sc), (1, .slice A l.length c), (2, .slice CA cs.length cc), (3, .slice GA G.length gc), (4, .int .i64 (i : Int)), (11, .int .i64 (k : Int))] ∧ St w0 w []) (cs.length) ?_ ?_
      · exact ⟨0, rfl, Nat.zero_le _, fun j _ h => absurd h (Nat.not_lt_zero j), F.sub _ ⟨rfl, rfl, rfl, rfl, rfl, rfl, trivial⟩, S.pick [] _ trivial rfl⟩
      · rintro m a w ⟨k, hm, hk, hno, F, S⟩
        refine sq fun K7 hK7 => ?_
        refine sq fun K8 hK8 => ?_
        refine rg ?_
        refine dv F (y_mv rfl rfl) rfl rfl rfl fun a F => ?_
        refine dv F (y_mv rfl rfl) rfl rfl rfl fun a F => ?_
        refine dv F (y_ln rfl rfl Try.underlying41) rfl rfl rfl fun a F => ?_
        refine dv F (y_lt rfl rfl rfl) rfl rfl rfl fun a F => ?_
        refine dn ?_
        refine tn <| hK8 _ _ ?_
        refine cd F rfl (fun h2 => ?_) (fun h2 => ?_)
        · refine wp_skip ?_
          refine tn <| hK7 _ _ ?_
          refine sq fun K9 hK9 => ?_
          refine bl ?_
          refine sq fun K10 hK10 => ?_
          have hk2 : k < cs.length := by omega
          obtain ⟨ab, ao, eA, hab, _⟩ := (hl.st S).sl.at_ hi
          obtain ⟨kb, ko, eC, hkb, _⟩ := (hC.st S).at_ hk2
          refine rq (C := fun w => St _ w _) Try.mixed (by kernel_rfl) (S.drewN 1) ?_
          refine qv F (fun w S => y_mv rfl rfl) rfl rfl rfl fun a F => ?_
          refine qv F (fun w S => y_mv rfl rfl) rfl rfl rfl fun a F => ?_
          refine qv F (fun w S => y_ia rfl rfl eA rfl Try.underlying22 Try.sizeOf35 i rfl hi) rfl rfl rfl fun a F => ?_
          refine qv F (fun w S => y_ld rfl rfl (by
            obtain ⟨b', o', e, _, hcell⟩ := (hl.st S).sl.at_ hi
            rw [eA] at e; cases e
            exact lda Try.isAgg35 Try.sizeOf35 (len35 _) hcell)) rfl rfl rfl fun a F => ?_
          refine qv F (fun w S => y_mv rfl rfl) rfl rfl rfl fun a F => ?_
          refine qv F (fun w S => y_mv rfl rfl) rfl rfl rfl fun a F => ?_
          refine qv F (fun w S => y_ia rfl rfl eC rfl Try.underlying41 Try.sizeOf70 k rfl hk2) rfl rfl rfl fun a F => ?_
          refine qv F (fun w S => y_fa rfl rfl fi70_0) rfl rfl rfl fun a F => ?_
          refine qv F (fun w S => y_ld rfl rfl (by
            obtain ⟨b', o', e, _, hcell⟩ := (hC.st S).at_ hk2
            rw [eC] at e; cases e
            exact ld1 Try.isAgg9 (hcell 0 _ rfl))) rfl rfl rfl fun a F => ?_
          refine qc F (.bool (rds l[i].t cs[k].path)) (fun w S => (c_f rfl rfl rfl Try.call29)) rfl rfl rfl (fun w S => (f29_c l[i] cs[k].path _ ((hl.st S).ok _ (List.getElem_mem hi))).mono (Ret.mono fun v w' h => ⟨h.1, S.call h.2⟩)) fun a F => ?_
          refine qn fun w S => ?_
          refine tn <| hK10 _ _ ?_
          refine cb F rfl (fun h3 => ?_) (fun h3 => ?_)
          · refine sq fun K11 hK11 => ?_
            refine rg ?_
            refine dv F (y_as rfl rfl) rfl rfl rfl fun a F => ?_
            refine dn ?_
            refine tn <| hK11 _ _ ?_
            refine wp_ret ?_
            refine br <| tr <| lr <| br <| tr <| ?_
            exact rt1 F rfl rfl ⟨by rw [inn_chg hi hk2 h3], S.bel⟩
          · refine wp_skip ?_
            refine bn <| tn <| hK9 _ _ ?_
            refine rg ?_
            refine dv F (y_mv rfl rfl) rfl rfl rfl fun a F => ?_
            refine dv F (y_add rfl rfl rfl (by omega)) rfl rfl rfl fun a F => ?_
            refine dv F (y_as rfl rfl) rfl rfl rfl fun a F => ?_
            refine dn ?_
            exact ln (by omega) ⟨k + 1, rfl, by omega, allto hno hk2 (by simpa using h3), F.sub _ ⟨rfl, rfl, rfl, rfl, rfl, rfl, trivial⟩, S.pick [] _ trivial rfl⟩
        · refine wp_exit ?_
          refine tx <| lx <| bh <| tn <| hK5 _ _ ?_
          refine sq fun K12 hK12 => ?_
          refine sq fun K13 hK13 => ?_
          refine rg ?_
          refine dv F (y_as rfl rfl) rfl rfl rfl fun a F => ?_
          refine dn ?_
          refine tn <| hK13 _ _ ?_
          refine bl ?_
          refine lp (fun m a w => ∃ j : Nat, m = L.length - j ∧ (j ≤ L.length) ∧ (∀ j', j' < j → (G.getD j' false && edge (L.map StpV.outs) (l.map TrV.t) j' i) = false) ∧ Fr 78 a [(0, .slice SA L.length sc), (1, .slice A l.length c), (2, .slice CA cs.length cc), (3, .slice GA G.length gc), (4, .int .i64 (i : Int)), (12, .int .i64 (j : Int))] ∧ St w0 w []) (L.length) ?_ ?_
          · exact ⟨0, rfl, Nat.zero_le _, fun j h => absurd h (Nat.not_lt_zero j), F.sub _ ⟨rfl, rfl, rfl, rfl, rfl, rfl, trivial⟩, S.pick [] _ trivial rfl⟩
          · rintro m a w ⟨j, hm, hj, hne, F, S⟩
            refine sq fun K14 hK14 => ?_
            refine sq fun K15 hK15 => ?_
            refine rg ?_
            refine dv F (y_mv rfl rfl) rfl rfl rfl fun a F => ?_
            refine dv F (y_mv rfl rfl) rfl rfl rfl fun a F => ?_
            refine dv F (y_ln rfl rfl Try.underlying40) rfl rfl rfl fun a F => ?_
            refine dv F (y_lt rfl rfl rfl) rfl rfl rfl fun a F => ?_
            refine dn ?_
            refine tn <| hK15 _ _ ?_
            refine cd F rfl (fun h4 => ?_) (fun h4 => ?_)
            · refine wp_skip ?_
              refine tn <| hK14 _ _ ?_
              refine sq fun K16 hK16 => ?_
              refine bl ?_
              refine sq fun K17 hK17 => ?_
              have hj2 : j < L.length := by omega
              have hjG : j < G.length := by omega
              refine rg ?_
              refine dv F (y_as rfl rfl) rfl rfl rfl fun a F => ?_
              refine dn ?_
              refine tn <| hK17 _ _ ?_
              refine bl ?_
              refine lp (fun m a w => ∃ k : Nat, m = L[j].outs.length - k ∧ (k ≤ L[j].outs.length) ∧ (∀ (k' : Nat) (hk' : k' < L[j].outs.length), k' < k → (G[j] && rds l[i].t L[j].outs[k']) = false) ∧ Fr 78 a [(0, .slice SA L.length sc), (1, .slice A l.length c), (2, .slice CA cs.length cc), (3, .slice GA G.length gc), (4, .int .i64 (i : Int)), (12, .int .i64 (j : Int)), (13, .int .i64 (k : Int))] ∧ St w0 w []) (L[j].outs.length) ?_ ?_
              · exact ⟨0, rfl, Nat.zero_le _, fun j _ h => absurd h (Nat.not_lt_zero j), F.sub _ ⟨rfl, rfl, rfl, rfl, rfl, rfl, rfl, trivial⟩, S.pick [] _ trivial rfl⟩
              · rintro m a w ⟨k, hm, hk, hno2, F, S⟩
                refine sq fun K18 hK18 => ?_
                refine sq fun K19 hK19 => ?_
                obtain ⟨sb, so, eS, hsb, _⟩ := (hS.st S).sl.at_ hj2
                refine rg ?_
                refine dv F (y_mv rfl rfl) rfl rfl rfl fun a F => ?_
                refine dv F (y_mv rfl rfl) rfl rfl rfl fun a F => ?_
                refine dv F (y_mv rfl rfl) rfl rfl rfl fun a F => ?_
                refine dv F (y_ia rfl rfl eS rfl Try.underlying40 Try.sizeOf47 j rfl hj2) rfl rfl rfl fun a F => ?_
                refine dv F (y_fa rfl rfl fi47_5) rfl rfl rfl fun a F => ?_
                refine dv F (y_ld rfl rfl (by
                  obtain ⟨b', o', e, _, hcell⟩ := (hS.st S).sl.at_ hj2
                  rw [eS] at e; cases e
                  exact ld1 Try.isAgg45 (hcell 6 _ (stp6 _)))) rfl rfl rfl fun a F => ?_
                refine dv F (y_ln rfl rfl Try.underlying45) rfl rfl rfl fun a F => ?_
                refine dv F (y_lt rfl rfl rfl) rfl rfl rfl fun a F => ?_
                refine dn ?_
                refine tn <| hK19 _ _ ?_
                refine cd F rfl (fun h5 => ?_) (fun h5 => ?_)
                · refine wp_skip ?_
                  refine tn <| hK18 _ _ ?_
                  refine sq fun K20 hK20 => ?_
                  refine bl ?_
                  refine sq fun K21 hK21 => ?_
                  have hlo := hS.lo _ (List.getElem_mem hj2)
                  have hk3 : k < L[j].outs.length := by omega
                  obtain ⟨gb, go, eG, hgb, _⟩ := (hG.st S).at_ hjG
                  obtain ⟨ab, ao, eA, hab, _⟩ := (hl.st S).sl.at_ hi
                  obtain ⟨sb, so, eS, hsb, _⟩ := (hS.st S).sl.at_ hj2
                  obtain ⟨ob, oo, eO, hob, _⟩ := ((hS.st S).ok _ (List.getElem_mem hj2)).at_ hk3
                  rcases (show G[j] = true ∨ G[j] = false by cases G[j] <;> simp) with h7 | h7
                  · refine rq (C := fun w => St _ w _) Try.mixed (by kernel_rfl) (S.drewN 1) ?_
                    refine qv F (fun w S => y_mv rfl rfl) rfl rfl rfl fun a F => ?_
                    refine qv F (fun w S => y_mv rfl rfl) rfl rfl rfl fun a F => ?_
                    refine qv F (fun w S => y_ia rfl rfl eG rfl Try.underlying48 Try.sizeOf4 j rfl hjG) rfl rfl rfl fun a F => ?_
                    refine qv F (fun w S => y_ld rfl rfl (by
                      obtain ⟨b', o', e, _, hcell⟩ := (hG.st S).at_ hjG
                      rw [eG] at e; cases e
                      exact ld1 Try.isAgg4 (hcell 0 _ rfl))) rfl rfl rfl fun a F => ?_
                    refine qv F (fun w S => y_mv rfl rfl) rfl rfl rfl fun a F => ?_
                    refine qgv F rfl rfl rfl h7 (fun w S => y_mv rfl rfl) rfl rfl fun a F => ?_
                    refine qgv F rfl rfl rfl h7 (fun w S => y_mv rfl rfl) rfl rfl fun a F => ?_
                    refine qgv F rfl rfl rfl h7 (fun w S => y_ia rfl rfl eA rfl Try.underlying22 Try.sizeOf35 i rfl hi) rfl rfl fun a F => ?_
                    refine qgv F rfl rfl rfl h7 (fun w S => y_ld rfl rfl (by
                      obtain ⟨b', o', e, _, hcell⟩ := (hl.st S).sl.at_ hi
                      rw [eA] at e; cases e
                      exact lda Try.isAgg35 Try.sizeOf35 (len35 _) hcell)) rfl rfl fun a F => ?_
                    refine qgv F rfl rfl rfl h7 (fun w S => y_mv rfl rfl) rfl rfl fun a F => ?_
                    refine qgv F rfl rfl rfl h7 (fun w S => y_mv rfl rfl) rfl rfl fun a F => ?_
                    refine qgv F rfl rfl rfl h7 (fun w S => y_ia rfl rfl eS rfl Try.underlying40 Try.sizeOf47 j rfl hj2) rfl rfl fun a F => ?_
                    refine qgv F rfl rfl rfl h7 (fun w S => y_fa rfl rfl fi47_5) rfl rfl fun a F => ?_
                    refine qgv F rfl rfl rfl h7 (fun w S => y_ld rfl rfl (by
                      obtain ⟨b', o', e, _, hcell⟩ := (hS.st S).sl.at_ hj2
                      rw [eS] at e; cases e
                      exact ld1 Try.isAgg45 (hcell 6 _ (stp6 _)))) rfl rfl fun a F => ?_
                    refine qgv F rfl rfl rfl h7 (fun w S => y_mv rfl rfl) rfl rfl fun a F => ?_
                    refine qgv F rfl rfl rfl h7 (fun w S => y_ia rfl rfl eO rfl Try.underlying45 Try.sizeOf9 k rfl hk3) rfl rfl fun a F => ?_
                    refine qgv F rfl rfl rfl h7 (fun w S => y_ld rfl rfl (by
                      obtain ⟨b', o', e, _, hcell⟩ := ((hS.st S).ok _ (List.getElem_mem hj2)).at_ hk3
                      rw [eO] at e; cases e
                      exact ld1 Try.isAgg9 (hcell 0 _ rfl))) rfl rfl fun a F => ?_
                    refine qgc F rfl rfl rfl h7 (.bool (rds l[i].t L[j].outs[k])) (fun w S => (c_f rfl rfl rfl Try.call29)) rfl rfl (fun w S => (f29_c l[i] L[j].outs[k] _ ((hl.st S).ok _ (List.getElem_mem hi))).mono (Ret.mono fun v w' h => ⟨h.1, S.call h.2⟩)) fun a F => ?_
                    refine qv F (fun w S => y_pkt h7 rfl rfl rfl) rfl rfl rfl fun a F => ?_
                    refine qn fun w S => ?_
                    refine tn <| hK21 _ _ ?_
                    refine cb F rfl (fun h6 => ?_) (fun h6 => ?_)
                    · refine sq fun K22 hK22 => ?_
                      refine rg ?_
                      refine dv F (y_as rfl rfl) rfl rfl rfl fun a F => ?_
                      refine dn ?_
                      refine tn <| hK22 _ _ ?_
                      refine wp_ret ?_
                      refine br <| tr <| lr <| br <| br <| tr <| lr <| br <| tr <| ?_
                      exact rt1 F rfl rfl ⟨by rw [inn_edge hi hj2 hk3 hjG h7 h6], S.bel⟩
                    · refine wp_skip ?_
                      refine bn <| tn <| hK20 _ _ ?_
                      refine rg ?_
                      refine dv F (y_mv rfl rfl) rfl rfl rfl fun a F => ?_
                      refine dv F (y_add rfl rfl rfl (by omega)) rfl rfl rfl fun a F => ?_
                      refine dv F (y_as rfl rfl) rfl rfl rfl fun a F => ?_
                      refine dn ?_
                      exact ln (by omega) ⟨k + 1, rfl, by omega, allto hno2 hk3 (by first | (rw [h7]; rfl) | (rw [h7]; simpa using h6)), F.sub _ ⟨rfl, rfl, rfl, rfl, rfl, rfl, rfl, trivial⟩, S.pick [] _ trivial rfl⟩
                  · refine rq (C := fun w => St _ w _) Try.mixed (by kernel_rfl) (S.drewN 1) ?_
                    refine qv F (fun w S => y_mv rfl rfl) rfl rfl rfl fun a F => ?_
                    refine qv F (fun w S => y_mv rfl rfl) rfl rfl rfl fun a F => ?_
                    refine qv F (fun w S => y_ia rfl rfl eG rfl Try.underlying48 Try.sizeOf4 j rfl hjG) rfl rfl rfl fun a F => ?_
                    refine qv F (fun w S => y_ld rfl rfl (by
                      obtain ⟨b', o', e, _, hcell⟩ := (hG.st S).at_ hjG
                      rw [eG] at e; cases e
                      exact ld1 Try.isAgg4 (hcell 0 _ rfl))) rfl rfl rfl fun a F => ?_
                    refine qv F (fun w S => y_mv rfl rfl) rfl rfl rfl fun a F => ?_
                    refine qgs F rfl rfl rfl h7 rfl rfl fun a F => ?_
                    refine qgs F rfl rfl rfl h7 rfl rfl fun a F => ?_
                    refine qgs F rfl rfl rfl h7 rfl rfl fun a F => ?_
                    refine qgs F rfl rfl rfl h7 rfl rfl fun a F => ?_
                    refine qgs F rfl rfl rfl h7 rfl rfl fun a F => ?_
                    refine qgs F rfl rfl rfl h7 rfl rfl fun a F => ?_
                    refine qgs F rfl rfl rfl h7 rfl rfl fun a F => ?_
                    refine qgs F rfl rfl rfl h7 rfl rfl fun a F => ?_
                    refine qgs F rfl rfl rfl h7 rfl rfl fun a F => ?_
                    refine qgs F rfl rfl rfl h7 rfl rfl fun a F => ?_
                    refine qgs F rfl rfl rfl h7 rfl rfl fun a F => ?_
                    refine qgs F rfl rfl rfl h7 rfl rfl fun a F => ?_
                    refine qgs F rfl rfl rfl h7 rfl rfl fun a F => ?_
                    refine qv F (fun w S => y_pkf h7 rfl rfl rfl) rfl rfl rfl fun a F => ?_
                    refine qn fun w S => ?_
                    refine tn <| hK21 _ _ ?_
                    refine cf F rfl rfl ?_
                    refine wp_skip ?_
                    refine bn <| tn <| hK20 _ _ ?_
                    refine rg ?_
                    refine dv F (y_mv rfl rfl) rfl rfl rfl fun a F => ?_
                    refine dv F (y_add rfl rfl rfl (by omega)) rfl rfl rfl fun a F => ?_
                    refine dv F (y_as rfl rfl) rfl rfl rfl fun a F => ?_
                    refine dn ?_
                    exact ln (by omega) ⟨k + 1, rfl, by omega, allto hno2 hk3 (by first | (rw [h7]; rfl) | (rw [h7]; simpa using h6)), F.sub _ ⟨rfl, rfl, rfl, rfl, rfl, rfl, rfl, trivial⟩, S.pick [] _ trivial rfl⟩
                · refine wp_exit ?_
                  refine tx <| lx <| bh <| bn <| tn <| hK16 _ _ ?_
                  refine rg ?_
                  refine dv F (y_mv rfl rfl) rfl rfl rfl fun a F => ?_
                  refine dv F (y_add rfl rfl rfl (by omega)) rfl rfl rfl fun a F => ?_
                  refine dv F (y_as rfl rfl) rfl rfl rfl fun a F => ?_
                  refine dn ?_
                  exact ln (by omega) ⟨j + 1, rfl, by omega, edge_next hj2 (by omega) hi hne hno2 (by omega), F.sub _ ⟨rfl, rfl, rfl, rfl, rfl, rfl, trivial⟩, S.pick [] _ trivial rfl⟩
            · refine wp_exit ?_
              refine tx <| lx <| bh <| tn <| hK12 _ _ ?_
              refine sq fun K23 hK23 => ?_
              refine rg ?_
              refine dv F (y_as rfl rfl) rfl rfl rfl fun a F => ?_
              refine dn ?_
              refine tn <| hK23 _ _ ?_
              refine wp_ret ?_
              refine ?_
              exact rt1 F rfl rfl ⟨by rw [inn_no hi h1 hno hne (by omega) (by omega)], S.bel⟩
  · try (obtain ⟨ab, ao, eA, hab, _⟩ := (hl.st S).sl.at_ hi)
    refine rg ?_
    refine dv F (y_mv rfl rfl) rfl rfl rfl fun a F => ?_
    refine dv F (y_mv rfl rfl) rfl rfl rfl fun a F => ?_
    refine dv F (y_ln rfl rfl Try.underlying22) rfl rfl rfl fun a F => ?_
    refine dv F (y_ge rfl rfl rfl) rfl rfl rfl fun a F => ?_
    refine dv F (y_mv rfl rfl) rfl rfl rfl fun a F => ?_
    refine gs F rfl rfl rfl (decide_eq_true (by omega)) rfl rfl fun a F => ?_
    refine gs F rfl rfl rfl (decide_eq_true (by omega)) rfl rfl fun a F => ?_
    refine gs F rfl rfl rfl (decide_eq_true (by omega)) rfl rfl fun a F => ?_
    refine gs F rfl rfl rfl (decide_eq_true (by omega)) rfl rfl fun a F => ?_
    refine gs F rfl rfl rfl (decide_eq_true (by omega)) rfl rfl fun a F => ?_
    refine gs F rfl rfl rfl (decide_eq_true (by omega)) rfl rfl fun a F => ?_
    refine gs F rfl rfl rfl (decide_eq_true (by omega)) rfl rfl fun a F => ?_
    refine dv F (y_pkt (decide_eq_true (by omega)) rfl rfl rfl) rfl rfl rfl fun a F => ?_
    refine dn ?_
    refine tn <| hK3 _ _ ?_
    refine ct F rfl rfl ?_
    refine sq fun K24 hK24 => ?_
    refine rg ?_
    refine dv F (y_as rfl rfl) rfl rfl rfl fun a F => ?_
    refine dn ?_
    refine tn <| hK24 _ _ ?_
    refine wp_ret ?_
    refine tr <| ?_
    exact rt1 F rfl rfl ⟨by rw [inn_far hi], S.bel⟩

end Go.Proofs.Ytpnhinbhhpeklaa
