/- Walks of layer 27, ninth part: the law DirtyAsks. -/
import Derived.Test.YtpnhinbhhpeklaaD8
set_option linter.unusedVariables false
set_option linter.unusedSimpArgs false
namespace Go.Proofs.Ytpnhinbhhpeklaa
open Go.RowKit Go.Eng DirtyPlain
theorem fi28_1 : FieldIs Try.prog 28 1 1 := fieldIs (z := 0) Try.underlying28 rfl rfl rfl Try.sizeOf9
theorem fi28_2 : FieldIs Try.prog 28 2 2 := fieldIs (z := 0) Try.underlying28 rfl rfl rfl Try.sizeOf3
def tk (l : List TrV) (i : Nat) : Nat := ((l.take i).map fun x => x.t.reads.length).sum
theorem tk_succ (l : List TrV) (i : Nat) (hi : i < l.length) : ((tk l (i + 1) : Nat) : Int) = (tk l i : Int) + (l[i].t.reads.length : Int) := by
  have : tk l (i + 1) = tk l i + l[i].t.reads.length := by
    unfold tk
    rw [List.take_succ_eq_append_getElem hi, List.map_append, List.sum_append]
    simp
  rw [this]; rfl
theorem tk_paths (l : List TrV) : tk l l.length = (paths (l.map TrV.t)).length := by
  rw [tk, List.take_length]
  simp only [paths, List.length_flatMap, List.map_map]
  congr 1
  exact List.map_congr_left fun x _ => by simp
theorem snoc_nd {ks : List Rd} {p : ByteArray} {x : Rd} (h : (ks.map Rd.path).Nodup) (hp : seek ks p = none) (hx : x.path = p) : ((ks ++ [x]).map Rd.path).Nodup := by
  rw [List.map_append, List.nodup_append]
  refine ⟨h, by simp, fun a ha b hb => ?_⟩
  simp at hb
  subst hb
  obtain ⟨k, hk, rfl⟩ := List.mem_map.1 ha
  rw [hx]
  exact (look_none_iff _ _).1 hp k hk
theorem snoc_sub {ks : List Rd} {l : List Tr} {x : Rd} {t : Tr} {r : Rd} (h : ∀ p ∈ ks.map Rd.path, p ∈ paths l) (ht : t ∈ l) (hr : r ∈ t.reads) (hx : r.path = x.path) : ∀ p ∈ (ks ++ [x]).map Rd.path, p ∈ paths l := by
  intro p hp
  rw [List.map_append, List.mem_append] at hp
  rcases hp with hp | hp
  · exact h p hp
  · simp at hp
    rw [hp, ← hx]
    exact List.mem_flatMap.2 ⟨t, ht, List.mem_map.2 ⟨r, hr, rfl⟩⟩
theorem none_all (l : List TrV) (ks : List Rd) (gone : List Dig) (h : ∀ t ∈ l.map TrV.t, may ks gone t = false) : (l.any fun x => may ks gone x.t) = false := by
  rw [List.any_eq_false]
  intro x hx
  rw [h x.t (List.mem_map.2 ⟨x, hx, rfl⟩)]; simp
theorem none_take (l : List TrV) (n : Nat) (ks : List Rd) (gone : List Dig) (h : ∀ t ∈ (l.map TrV.t).take n, may ks gone t = false) : ((l.take n).any fun x => may ks gone x.t) = false :=
  none_all _ ks gone (by rw [List.map_take]; exact h)
theorem Trs.take {w : World} {A : Option Addr} {l : List TrV} (h : Trs w A l) (n : Nat) : Trs w A (l.take n) := ⟨h.sl.take n, fun x hx => h.ok x (List.mem_of_mem_take hx)⟩
theorem f14_take {A KA GA : Option Addr} {c kc gk : Nat} (l : List TrV) (n : Nat) (hnl : n ≤ l.length) (known : List Rd) (gone : List Dig) (w0 : World) (hl : Trs w0 A l) (hln : l.length ≤ 140737488351232) (hk : Sl w0 34 encRd KA known) (hn : known.length ≤ 140737488351232) (hg : Sl w0 32 encD GA gone) (hgn : gone.length ≤ 140737488351232) :
    Calls Try.prog 14 [.slice A n c, .slice KA known.length kc, .slice GA gone.length gk].toArray w0 (Ret fun v w' => v = .bool (!(l.take n).any fun x => may known gone x.t) ∧ Below w0.heap.size w0 w') := by
  have h := f14_c (A := A) (KA := KA) (GA := GA) (c := c) (kc := kc) (gk := gk) (l.take n) known gone w0 (hl.take n) (by simp; omega) hk hn hg hgn
  rwa [List.length_take, Nat.min_eq_left hnl] at h
theorem bd37_0 {p : ByteArray} (w : World) : (Instr.build 37 [(0, .string p)].toArray).run Try.prog w = .ok (.agg (encRd ⟨p, false, dig0⟩).toArray) w := by kernel_rfl
set_option maxRecDepth 2000
set_option maxHeartbeats 2000000 in
theorem f4_c {A KA GA : Option Addr} {c kc gk : Nat} (l : List TrV) (known : List Rd) (gone : List Dig) (w0 : World) (hl : Trs w0 A l) (hln : l.length ≤ 140737488351232) (hlc : l.length ≤ c) (hk : Sl w0 34 encRd KA known) (hn : known.length ≤ 140737488351232) (hg : Sl w0 32 encD GA gone) (hgn : gone.length ≤ 140737488351232) :
    Calls Try.prog 4 [.slice A l.length c, .slice KA known.length kc, .slice GA gone.length gk].toArray w0 (Ret fun v w' => v = .bool true ∧ Below w0.heap.size w0 w') := by
  refine ent Try.func4 Try.ntmps4 rfl rfl ?_
  intro a F
  have S := St.refl w0
  refine sq fun K1 hK1 => ?_
  refine rg ?_
  refine dv F (y_as rfl rfl) rfl rfl rfl fun a F => ?_
  refine dn ?_
  refine tn <| hK1 _ _ ?_
  refine sq fun K2 hK2 => ?_
  refine sq fun K3 hK3 => ?_
  refine rg ?_
  refine dc F (c_f rfl rfl rfl Try.call9) rfl rfl rfl (f9_c _) fun a v w' hr F => ?_
  obtain ⟨rfl, hb⟩ := hr
  replace S := S.call hb
  refine dv F (y_nt rfl rfl) rfl rfl rfl fun a F => ?_
  refine dn ?_
  refine tn <| hK3 _ _ ?_
  refine cf F rfl rfl ?_
  refine wp_skip ?_
  refine tn <| hK2 _ _ ?_
  refine sq fun K4 hK4 => ?_
  refine sq fun K5 hK5 => ?_
  refine rg ?_
  refine dv F (y_mv rfl rfl) rfl rfl rfl fun a F => ?_
  refine dc F (c_f rfl rfl rfl Try.call10) rfl rfl rfl (f10_c l _ (hl.st S) hln) fun a v w' hr F => ?_
  obtain ⟨⟨b, rfl, hbb⟩, hb⟩ := hr
  replace S := S.call hb
  refine dv F (y_mv rfl rfl) rfl rfl rfl fun a F => ?_
  rcases (show b = true ∨ (b = false ∧ 60 < known.length) ∨ (b = false ∧ known.length ≤ 60) by cases b <;> simp <;> omega) with rfl | ⟨rfl, h⟩ | ⟨rfl, h⟩
  · refine gs F rfl rfl rfl rfl rfl rfl fun a F => ?_
    refine gs F rfl rfl rfl rfl rfl rfl fun a F => ?_
    refine gs F rfl rfl rfl rfl rfl rfl fun a F => ?_
    refine dv F (y_pkt rfl rfl rfl rfl) rfl rfl rfl fun a F => ?_
    refine dv F (y_mv rfl rfl) rfl rfl rfl fun a F => ?_
    refine gs F rfl rfl rfl rfl rfl rfl fun a F => ?_
    refine gs F rfl rfl rfl rfl rfl rfl fun a F => ?_
    refine gs F rfl rfl rfl rfl rfl rfl fun a F => ?_
    refine dv F (y_pkt rfl rfl rfl rfl) rfl rfl rfl fun a F => ?_
    refine dn ?_
    refine tn <| hK5 _ _ ?_
    refine ct F rfl rfl ?_
    refine sq fun K6 hK6 => ?_
    refine rg ?_
    refine dv F (y_as rfl rfl) rfl rfl rfl fun a F => ?_
    refine dn ?_
    refine tn <| hK6 _ _ ?_
    refine wp_ret ?_
    refine tr <| ?_
    exact rt1 F rfl rfl ⟨rfl, S.bel⟩
  · refine gv F rfl rfl rfl rfl (y_mv rfl rfl) rfl rfl fun a F => ?_
    refine gv F rfl rfl rfl rfl (y_ln rfl rfl Try.underlying23) rfl rfl fun a F => ?_
    refine gv F rfl rfl rfl rfl (y_gt rfl rfl rfl) rfl rfl fun a F => ?_
    refine dv F (y_pkf rfl rfl rfl rfl) rfl rfl rfl fun a F => ?_
    refine dv F (y_mv rfl rfl) rfl rfl rfl fun a F => ?_
    refine gs F rfl rfl rfl (decide_eq_true (by omega)) rfl rfl fun a F => ?_
    refine gs F rfl rfl rfl (decide_eq_true (by omega)) rfl rfl fun a F => ?_
    refine gs F rfl rfl rfl (decide_eq_true (by omega)) rfl rfl fun a F => ?_
    refine dv F (y_pkt (decide_eq_true (by omega)) rfl rfl rfl) rfl rfl rfl fun a F => ?_
    refine dn ?_
    refine tn <| hK5 _ _ ?_
    refine ct F rfl rfl ?_
    refine sq fun K7 hK7 => ?_
    refine rg ?_
    refine dv F (y_as rfl rfl) rfl rfl rfl fun a F => ?_
    refine dn ?_
    refine tn <| hK7 _ _ ?_
    refine wp_ret ?_
    refine tr <| ?_
    exact rt1 F rfl rfl ⟨rfl, S.bel⟩
  · refine gv F rfl rfl rfl rfl (y_mv rfl rfl) rfl rfl fun a F => ?_
    refine gv F rfl rfl rfl rfl (y_ln rfl rfl Try.underlying23) rfl rfl fun a F => ?_
    refine gv F rfl rfl rfl rfl (y_gt rfl rfl rfl) rfl rfl fun a F => ?_
    refine dv F (y_pkf rfl rfl rfl rfl) rfl rfl rfl fun a F => ?_
    refine dv F (y_mv rfl rfl) rfl rfl rfl fun a F => ?_
    refine gv F rfl rfl rfl (decide_eq_false (by omega)) (y_mv rfl rfl) rfl rfl fun a F => ?_
    refine gv F rfl rfl rfl (decide_eq_false (by omega)) (y_ln rfl rfl Try.underlying24) rfl rfl fun a F => ?_
    refine gv F rfl rfl rfl (decide_eq_false (by omega)) (y_gt rfl rfl rfl) rfl rfl fun a F => ?_
    refine dv F (y_pkf (decide_eq_false (by omega)) rfl rfl rfl) rfl rfl rfl fun a F => ?_
    refine dn ?_
    refine tn <| hK5 _ _ ?_
    refine cb F rfl (fun h1 => ?_) (fun h1 => ?_)
    · refine sq fun K8 hK8 => ?_
      refine rg ?_
      refine dv F (y_as rfl rfl) rfl rfl rfl fun a F => ?_
      refine dn ?_
      refine tn <| hK8 _ _ ?_
      refine wp_ret ?_
      refine tr <| ?_
      exact rt1 F rfl rfl ⟨rfl, S.bel⟩
    · obtain ⟨hl20, hl60⟩ := hbb rfl
      refine wp_skip ?_
      refine tn <| hK4 _ _ ?_
      refine sq fun K9 hK9 => ?_
      refine rg ?_
      refine dv F (y_as rfl rfl) rfl rfl rfl fun a F => ?_
      refine dn ?_
      refine tn <| hK9 _ _ ?_
      refine sq fun K10 hK10 => ?_
      refine sq fun K11 hK11 => ?_
      refine rg ?_
      refine dv F (y_as rfl rfl) rfl rfl rfl fun a F => ?_
      refine dn ?_
      refine tn <| hK11 _ _ ?_
      refine bl ?_
      refine lp (fun m a w => ∃ (i : Nat) (s : Int), m = l.length - i ∧ (i ≤ l.length) ∧ (s = (tk l i : Int) ∧ s ≤ 60 * i) ∧ Fr 136 a [(0, .slice A l.length c), (1, .slice KA known.length kc), (2, .slice GA gone.length gk), (7, .int .i64 s), (8, .int .i64 (i : Int))] ∧ St w0 w []) (l.length) ?_ ?_
      · exact ⟨0, 0, rfl, Nat.zero_le _, ⟨rfl, Int.le_refl _⟩, F.sub _ ⟨rfl, rfl, rfl, rfl, rfl, trivial⟩, S.pick [] _ trivial rfl⟩
      · rintro m a w ⟨i, s, hm, hi, hs, F, S⟩
        refine sq fun K12 hK12 => ?_
        refine sq fun K13 hK13 => ?_
        refine rg ?_
        refine dv F (y_mv rfl rfl) rfl rfl rfl fun a F => ?_
        refine dv F (y_mv rfl rfl) rfl rfl rfl fun a F => ?_
        refine dv F (y_ln rfl rfl Try.underlying22) rfl rfl rfl fun a F => ?_
        refine dv F (y_lt rfl rfl rfl) rfl rfl rfl fun a F => ?_
        refine dn ?_
        refine tn <| hK13 _ _ ?_
        refine cd F rfl (fun h2 => ?_) (fun h2 => ?_)
        · refine wp_skip ?_
          refine tn <| hK12 _ _ ?_
          refine sq fun K14 hK14 => ?_
          refine bl ?_
          have hlt : i < l.length := by omega
          obtain ⟨ab, ao, eA, hab, _⟩ := (hl.st S).sl.at_ hlt
          have hlx := (hl60 _ (List.getElem_mem hlt)).1
          refine rg ?_
          refine dv F (y_mv rfl rfl) rfl rfl rfl fun a F => ?_
          refine dv F (y_mv rfl rfl) rfl rfl rfl fun a F => ?_
          refine dv F (y_mv rfl rfl) rfl rfl rfl fun a F => ?_
          refine dv F (y_ia rfl rfl eA rfl Try.underlying22 Try.sizeOf35 i rfl hlt) rfl rfl rfl fun a F => ?_
          refine dv F (y_fa rfl rfl fi35_1) rfl rfl rfl fun a F => ?_
          refine dv F (y_ld rfl rfl (by
            obtain ⟨b', o', e, _, hcell⟩ := (hl.st S).sl.at_ hlt
            rw [eA] at e; cases e
            exact ld1 Try.isAgg23 (hcell 32 _ (tr32 _)))) rfl rfl rfl fun a F => ?_
          refine dv F (y_ln rfl rfl Try.underlying23) rfl rfl rfl fun a F => ?_
          refine dv F (y_add rfl rfl rfl (by omega)) rfl rfl rfl fun a F => ?_
          refine dv F (y_as rfl rfl) rfl rfl rfl fun a F => ?_
          refine dn ?_
          refine bn <| tn <| hK14 _ _ ?_
          refine rg ?_
          refine dv F (y_mv rfl rfl) rfl rfl rfl fun a F => ?_
          refine dv F (y_add rfl rfl rfl (by omega)) rfl rfl rfl fun a F => ?_
          refine dv F (y_as rfl rfl) rfl rfl rfl fun a F => ?_
          refine dn ?_
          exact ln (by omega) ⟨i + 1, _, rfl, by omega, ⟨by rw [tk_succ l i hlt, hs.1], by have := hlx; omega⟩, F.sub _ ⟨rfl, rfl, rfl, rfl, rfl, trivial⟩, S.pick [] _ trivial rfl⟩
        · refine wp_exit ?_
          refine tx <| lx <| bh <| tn <| hK10 _ _ ?_
          refine sq fun K15 hK15 => ?_
          refine rg ?_
          refine dv F (y_as rfl rfl) rfl rfl rfl fun a F => ?_
          refine dn ?_
          refine tn <| hK15 _ _ ?_
          refine sq fun K16 hK16 => ?_
          refine sq fun K17 hK17 => ?_
          obtain rfl : i = l.length := by omega
          have hst : s = ((paths (l.map TrV.t)).length : Int) := by rw [hs.1, tk_paths]
          have hs60 := hs.2
          replace S := ow_nil S 37 34
          refine rg ?_
          refine dv F (y_as rfl rfl) rfl rfl rfl fun a F => ?_
          refine dn ?_
          refine tn <| hK17 _ _ ?_
          refine bl ?_
          refine lp (fun m a w => ∃ (k : Nat) (ks : List Rd) (A1 : Option Addr) (c1 : Nat), m = (paths (l.map TrV.t)).length + 1 - k ∧ (ks.length = k) ∧ (k ≤ (paths (l.map TrV.t)).length + 1) ∧ ((ks.map Rd.path).Nodup) ∧ (∀ p ∈ ks.map Rd.path, p ∈ paths (l.map TrV.t)) ∧ Fr 136 a [(0, .slice A l.length c), (1, .slice KA known.length kc), (2, .slice GA gone.length gk), (7, .int .i64 s), (9, .slice A1 ks.length c1), (10, .int .i64 (k : Int))] ∧ St w0 w [ow 37 34 (.slice A1 ks.length c1) ks.length (ks.flatMap encRd)]) ((paths (l.map TrV.t)).length + 1) ?_ ?_
          · exact ⟨0, [], none, 0, rfl, rfl, Nat.zero_le _, List.nodup_nil, fun _ h => (by cases h), F.sub _ ⟨rfl, rfl, rfl, rfl, rfl, rfl, trivial⟩, S.pick [0] _ ⟨rfl, trivial⟩ rfl⟩
          · rintro m a w ⟨k, ks, A1, c1, hm, hks, hkn, hnd, hsub, F, S⟩
            refine sq fun K18 hK18 => ?_
            refine sq fun K19 hK19 => ?_
            refine rg ?_
            refine dv F (y_mv rfl rfl) rfl rfl rfl fun a F => ?_
            refine dv F (y_mv rfl rfl) rfl rfl rfl fun a F => ?_
            refine dv F (y_le rfl rfl rfl) rfl rfl rfl fun a F => ?_
            refine dn ?_
            refine tn <| hK19 _ _ ?_
            refine cd F rfl (fun h3 => ?_) (fun h3 => ?_)
            · refine wp_skip ?_
              refine tn <| hK18 _ _ ?_
              refine sq fun K20 hK20 => ?_
              refine bl ?_
              refine sq fun K21 hK21 => ?_
              refine rg ?_
              refine dv F (y_mv rfl rfl) rfl rfl rfl fun a F => ?_
              refine dv F (y_mv rfl rfl) rfl rfl rfl fun a F => ?_
              refine dv F (y_mv rfl rfl) rfl rfl rfl fun a F => ?_
              refine dc F (c_f rfl rfl rfl Try.call11) rfl rfl rfl (f11_c l ks gone _ (hl.st S) hln (S.ows (i := 0) rfl len37 (by decide)) (by omega) (hg.st S) hgn) fun a v w' hr F => ?_
              obtain ⟨rfl, hb⟩ := hr
              replace S := S.call hb
              refine dal F S rfl Try.zeroValue28 rfl rfl rfl rfl fun a w b11 F S => ?_
              refine dsw F S rfl rfl rfl Try.sizeOf28 (i := 1) rfl rfl rfl rfl (all1 rfl) rfl rfl fun a w F S => ?_
              refine dn ?_
              refine tn <| hK21 _ _ ?_
              refine sq fun K22 hK22 => ?_
              refine rg ?_
              refine dv F (y_fa rfl rfl fi28_0) rfl rfl rfl fun a F => ?_
              refine dv F (y_ld rfl rfl (S.ld (i := 1) rfl rfl Try.isAgg3)) rfl rfl rfl fun a F => ?_
              refine dn ?_
              refine tn <| hK22 _ _ ?_
              refine bl ?_
              refine sq fun K23 hK23 => ?_
              refine rg ?_
              refine dv F (y_ie rfl rfl rfl) rfl rfl rfl fun a F => ?_
              refine dv F (y_as rfl rfl) rfl rfl rfl fun a F => ?_
              refine dn ?_
              refine tn <| hK23 _ _ ?_
              refine cd F rfl (fun h4 => ?_) (fun h4 => ?_)
              · obtain ⟨_, hpn, t, htm, r, hr, hrp⟩ : (next ks gone (l.map TrV.t) 0).i = 0 ∧ seek ks (next ks gone (l.map TrV.t) 0).path = none ∧ ∃ t ∈ l.map TrV.t, ∃ r ∈ t.reads, r.path = (next ks gone (l.map TrV.t) 0).path := by
                  rcases next_kind ks gone (l.map TrV.t) 0 with ⟨q1, q⟩ | ⟨q1, q⟩ | ⟨q1, q⟩
                  · exact q
                  · exact absurd q1 (by omega)
                  · exact absurd q1 (by omega)
                refine sq fun K24 hK24 => ?_
                refine sq fun K25 hK25 => ?_
                refine rg ?_
                refine dv F (y_as rfl rfl) rfl rfl rfl fun a F => ?_
                refine dn ?_
                refine tn <| hK25 _ _ ?_
                refine bl ?_
                refine lp (fun m a w => ∃ j : Nat, m = ks.length - j ∧ (j ≤ ks.length) ∧ Fr 136 a [(0, .slice A l.length c), (1, .slice KA known.length kc), (2, .slice GA gone.length gk), (7, .int .i64 s), (9, .slice A1 ks.length c1), (10, .int .i64 (k : Int)), (11, .pointer (some ⟨b11, 0, none⟩)), (12, .int .i64 (j : Int))] ∧ St w0 w [ow 37 34 (.slice A1 ks.length c1) ks.length (ks.flatMap encRd), bk b11 28 (encW (next ks gone (l.map TrV.t) 0))]) (ks.length) ?_ ?_
                · exact ⟨0, rfl, Nat.zero_le _, F.sub _ ⟨rfl, rfl, rfl, rfl, rfl, rfl, rfl, rfl, trivial⟩, S.pick [0, 1] _ ⟨rfl, rfl, trivial⟩ rfl⟩
                · rintro m a w ⟨j, hm, hj, F, S⟩
                  refine sq fun K26 hK26 => ?_
                  refine sq fun K27 hK27 => ?_
                  refine rg ?_
                  refine dv F (y_mv rfl rfl) rfl rfl rfl fun a F => ?_
                  refine dv F (y_mv rfl rfl) rfl rfl rfl fun a F => ?_
                  refine dv F (y_ln rfl rfl Try.underlying23) rfl rfl rfl fun a F => ?_
                  refine dv F (y_lt rfl rfl rfl) rfl rfl rfl fun a F => ?_
                  refine dn ?_
                  refine tn <| hK27 _ _ ?_
                  refine cd F rfl (fun h5 => ?_) (fun h5 => ?_)
                  · refine wp_skip ?_
                    refine tn <| hK26 _ _ ?_
                    refine sq fun K28 hK28 => ?_
                    refine bl ?_
                    refine sq fun K29 hK29 => ?_
                    have hj2 : j < ks.length := by omega
                    obtain ⟨ab, ao, eA, hab, _⟩ := (S.ows (i := 0) rfl len37 (by decide)).at_ hj2
                    have hne := (look_none_iff _ _).1 hpn _ (List.getElem_mem hj2)
                    refine rq (C := fun w => St _ w _) Try.mixed (by kernel_rfl) (S.drewN 1) ?_
                    refine qv F (fun w S => y_mv rfl rfl) rfl rfl rfl fun a F => ?_
                    refine qv F (fun w S => y_mv rfl rfl) rfl rfl rfl fun a F => ?_
                    refine qv F (fun w S => y_ia rfl rfl eA rfl Try.underlying23 Try.sizeOf37 j rfl hj2) rfl rfl rfl fun a F => ?_
                    refine qv F (fun w S => y_fa rfl rfl fi37_0) rfl rfl rfl fun a F => ?_
                    refine qv F (fun w S => y_ld rfl rfl (by
                      obtain ⟨b', o', e, _, hcell⟩ := (S.ows (i := 0) rfl len37 (by decide)).at_ hj2
                      rw [eA] at e; cases e
                      exact ld1 Try.isAgg9 (hcell 0 _ rfl))) rfl rfl rfl fun a F => ?_
                    refine qv F (fun w S => y_fa rfl rfl fi28_1) rfl rfl rfl fun a F => ?_
                    refine qv F (fun w S => y_ld rfl rfl (S.ld (i := 1) rfl rfl Try.isAgg9)) rfl rfl rfl fun a F => ?_
                    refine qv F (fun w S => y_se rfl rfl rfl) rfl rfl rfl fun a F => ?_
                    refine qn fun w S => ?_
                    refine tn <| hK29 _ _ ?_
                    refine cf F rfl (decide_eq_false hne) ?_
                    refine wp_skip ?_
                    refine bn <| tn <| hK28 _ _ ?_
                    refine rg ?_
                    refine dv F (y_mv rfl rfl) rfl rfl rfl fun a F => ?_
                    refine dv F (y_add rfl rfl rfl (by omega)) rfl rfl rfl fun a F => ?_
                    refine dv F (y_as rfl rfl) rfl rfl rfl fun a F => ?_
                    refine dn ?_
                    exact ln (by omega) ⟨j + 1, rfl, by omega, F.sub _ ⟨rfl, rfl, rfl, rfl, rfl, rfl, rfl, rfl, trivial⟩, S.pick [0, 1] _ ⟨rfl, rfl, trivial⟩ rfl⟩
                  · refine wp_exit ?_
                    refine tx <| lx <| bh <| tn <| hK24 _ _ ?_
                    refine sq fun K30 hK30 => ?_
                    refine rg ?_
                    refine dv F (y_fa rfl rfl fi28_1) rfl rfl rfl fun a F => ?_
                    refine dv F (y_ld rfl rfl (S.ld (i := 1) rfl rfl Try.isAgg9)) rfl rfl rfl fun a F => ?_
                    refine dv F (y_bd rfl rfl (bd37_0)) rfl rfl rfl fun a F => ?_
                    refine dal F S rfl Try.zeroValue37 rfl rfl rfl rfl fun a w b13 F S => ?_
                    refine dsw F S rfl rfl rfl Try.sizeOf37 (i := 2) rfl rfl (len37 _) rfl (one37 _) rfl rfl fun a w F S => ?_
                    refine dn ?_
                    refine tn <| hK30 _ _ ?_
                    refine sq fun K31 hK31 => ?_
                    refine sq fun K32 hK32 => ?_
                    refine rg ?_
                    refine dv F (y_mv rfl rfl) rfl rfl rfl fun a F => ?_
                    refine dv F (y_ln rfl rfl Try.underlying23) rfl rfl rfl fun a F => ?_
                    refine dv F (y_sub rfl rfl rfl (by omega)) rfl rfl rfl fun a F => ?_
                    refine dv F (y_as rfl rfl) rfl rfl rfl fun a F => ?_
                    refine dn ?_
                    refine tn <| hK32 _ _ ?_
                    refine bl ?_
                    refine lp (fun m a w => ∃ (i : Int) (x : Rd), m = (i + 1).toNat ∧ (-1 ≤ i ∧ i < (known.length : Int)) ∧ (x.path = (next ks gone (l.map TrV.t) 0).path) ∧ Fr 136 a [(0, .slice A l.length c), (1, .slice KA known.length kc), (2, .slice GA gone.length gk), (7, .int .i64 s), (9, .slice A1 ks.length c1), (10, .int .i64 (k : Int)), (11, .pointer (some ⟨b11, 0, none⟩)), (13, .pointer (some ⟨b13, 0, none⟩)), (14, .int .i64 i)] ∧ St w0 w [ow 37 34 (.slice A1 ks.length c1) ks.length (ks.flatMap encRd), bk b11 28 (encW (next ks gone (l.map TrV.t) 0)), bk b13 37 (encRd x)]) (((known.length : Int) - 1 + 1).toNat) ?_ ?_
                    · exact ⟨(known.length : Int) - 1, ⟨(next ks gone (l.map TrV.t) 0).path, false, dig0⟩, rfl, by omega, rfl, F.sub _ ⟨rfl, rfl, rfl, rfl, rfl, rfl, rfl, rfl, rfl, trivial⟩, S.pick [0, 1, 2] _ ⟨rfl, rfl, rfl, trivial⟩ rfl⟩
                    · rintro m a w ⟨i, x, hm, hi, hx, F, S⟩
                      refine sq fun K33 hK33 => ?_
                      refine sq fun K34 hK34 => ?_
                      refine rg ?_
                      refine dv F (y_mv rfl rfl) rfl rfl rfl fun a F => ?_
                      refine dv F (y_ge rfl rfl rfl) rfl rfl rfl fun a F => ?_
                      refine dn ?_
                      refine tn <| hK34 _ _ ?_
                      refine cd F rfl (fun h6 => ?_) (fun h6 => ?_)
                      · refine wp_skip ?_
                        refine tn <| hK33 _ _ ?_
                        refine sq fun K35 hK35 => ?_
                        refine bl ?_
                        refine sq fun K36 hK36 => ?_
                        have hi2 : i.toNat < known.length := by omega
                        obtain ⟨ab, ao, eK, hab, _⟩ := (hk.st S).at_ hi2
                        refine rq (C := fun w => St _ w _) Try.mixed (by kernel_rfl) (S.drewN 1) ?_
                        refine qv F (fun w S => y_mv rfl rfl) rfl rfl rfl fun a F => ?_
                        refine qv F (fun w S => y_mv rfl rfl) rfl rfl rfl fun a F => ?_
                        refine qv F (fun w S => y_ia rfl rfl eK rfl Try.underlying23 Try.sizeOf37 i.toNat (by omega) hi2) rfl rfl rfl fun a F => ?_
                        refine qv F (fun w S => y_fa rfl rfl fi37_0) rfl rfl rfl fun a F => ?_
                        refine qv F (fun w S => y_ld rfl rfl (by
                          obtain ⟨b', o', e, _, hcell⟩ := (hk.st S).at_ hi2
                          rw [eK] at e; cases e
                          exact ld1 Try.isAgg9 (hcell 0 _ rfl))) rfl rfl rfl fun a F => ?_
                        refine qv F (fun w S => y_fa rfl rfl fi28_1) rfl rfl rfl fun a F => ?_
                        refine qv F (fun w S => y_ld rfl rfl (S.ld (i := 1) rfl rfl Try.isAgg9)) rfl rfl rfl fun a F => ?_
                        refine qv F (fun w S => y_se rfl rfl rfl) rfl rfl rfl fun a F => ?_
                        refine qn fun w S => ?_
                        refine tn <| hK36 _ _ ?_
                        refine cd F rfl (fun h7 => ?_) (fun h7 => ?_)
                        · refine rg ?_
                          refine dv F (y_mv rfl rfl) rfl rfl rfl fun a F => ?_
                          refine dv F (y_mv rfl rfl) rfl rfl rfl fun a F => ?_
                          refine dv F (y_ia rfl rfl eK rfl Try.underlying23 Try.sizeOf37 i.toNat (by omega) hi2) rfl rfl rfl fun a F => ?_
                          refine dv F (y_ld rfl rfl (by
                            obtain ⟨b', o', e, _, hcell⟩ := (hk.st S).at_ hi2
                            rw [eK] at e; cases e
                            exact lda Try.isAgg37 Try.sizeOf37 (len37 _) hcell)) rfl rfl rfl fun a F => ?_
                          refine dsw F S rfl rfl rfl Try.sizeOf37 (i := 2) rfl rfl (len37 _) (len37 _) (one37 _) rfl rfl fun a w F S => ?_
                          refine dn ?_
                          refine bn <| tn <| hK35 _ _ ?_
                          refine rg ?_
                          refine dv F (y_mv rfl rfl) rfl rfl rfl fun a F => ?_
                          refine dv F (y_sub rfl rfl rfl (by omega)) rfl rfl rfl fun a F => ?_
                          refine dv F (y_as rfl rfl) rfl rfl rfl fun a F => ?_
                          refine dn ?_
                          exact ln (by omega) ⟨i - 1, _, rfl, by omega, by first | exact hx | exact h7, F.sub _ ⟨rfl, rfl, rfl, rfl, rfl, rfl, rfl, rfl, rfl, trivial⟩, S.pick [0, 1, 2] _ ⟨rfl, rfl, rfl, trivial⟩ rfl⟩
                        · refine wp_skip ?_
                          refine bn <| tn <| hK35 _ _ ?_
                          refine rg ?_
                          refine dv F (y_mv rfl rfl) rfl rfl rfl fun a F => ?_
                          refine dv F (y_sub rfl rfl rfl (by omega)) rfl rfl rfl fun a F => ?_
                          refine dv F (y_as rfl rfl) rfl rfl rfl fun a F => ?_
                          refine dn ?_
                          exact ln (by omega) ⟨i - 1, _, rfl, by omega, by first | exact hx | exact h7, F.sub _ ⟨rfl, rfl, rfl, rfl, rfl, rfl, rfl, rfl, rfl, trivial⟩, S.pick [0, 1, 2] _ ⟨rfl, rfl, rfl, trivial⟩ rfl⟩
                      · refine wp_exit ?_
                        refine tx <| lx <| bh <| tn <| hK31 _ _ ?_
                        refine rg ?_
                        refine dv F (y_mv rfl rfl) rfl rfl rfl fun a F => ?_
                        refine dv F (y_ld rfl rfl (S.lda (i := 2) rfl Try.isAgg37 Try.sizeOf37 (len37 _))) rfl rfl rfl fun a F => ?_
                        refine dbs F S rfl rfl (bsOne Try.underlying23 (by kernel_rfl : AI Try.prog 37 34 56 = true) (len37 _) rfl rfl) rfl rfl rfl fun a w b103 F S => ?_
                        refine dap F S rfl rfl rfl (i := 0) rfl (S.fl (i := 3) rfl) (len37 _) (one37 _) Try.underlying23 (by kernel_rfl : AI Try.prog 37 34 56 = true) rfl (N := (ks ++ [x]).length) (XS := (ks ++ [x]).flatMap encRd) (by simp) (by simp) (by simp; omega) (by simp; omega) rfl rfl rfl fun a w A2 c2 F S => ?_
                        refine dv F (y_as rfl rfl) rfl rfl rfl fun a F => ?_
                        refine dn ?_
                        refine bn <| bn <| tn <| hK20 _ _ ?_
                        refine rg ?_
                        refine dv F (y_mv rfl rfl) rfl rfl rfl fun a F => ?_
                        refine dv F (y_add rfl rfl rfl (by omega)) rfl rfl rfl fun a F => ?_
                        refine dv F (y_as rfl rfl) rfl rfl rfl fun a F => ?_
                        refine dn ?_
                        exact ln (by omega) ⟨k + 1, ks ++ [x], _, _, rfl, by simp; omega, by omega, snoc_nd hnd hpn hx, snoc_sub hsub htm hr (hrp.trans hx.symm), F.sub _ ⟨rfl, rfl, rfl, rfl, rfl, rfl, trivial⟩, S.pick [0] _ ⟨rfl, trivial⟩ rfl⟩
              · refine sq fun K37 hK37 => ?_
                refine rg ?_
                refine dv F (y_ie rfl rfl rfl) rfl rfl rfl fun a F => ?_
                refine dv F (y_as rfl rfl) rfl rfl rfl fun a F => ?_
                refine dn ?_
                refine tn <| hK37 _ _ ?_
                refine cd F rfl (fun h8 => ?_) (fun h8 => ?_)
                · obtain ⟨n, hnl0, hin, hmay, hbef⟩ : ∃ n, n < (l.map TrV.t).length ∧ (next ks gone (l.map TrV.t) 0).i = ((0 + n : Nat) : Int) ∧ (∀ t, (l.map TrV.t)[n]? = some t → may ks gone t = true) ∧ ∀ t ∈ (l.map TrV.t).take n, may ks gone t = false := by
                    rcases next_kind ks gone (l.map TrV.t) 0 with ⟨q1, q⟩ | ⟨q1, q⟩ | ⟨q1, q⟩
                    · exact absurd q1 (by omega)
                    · exact q
                    · exact absurd q1 (by omega)
                  have hnl : n < l.length := by simpa using hnl0
                  have hm1 : may ks gone l[n].t = true := hmay _ (by simp [hnl])
                  refine sq fun K38 hK38 => ?_
                  obtain ⟨ab, ao, eN, hab, _⟩ := (hl.st S).sl.at_ hnl
                  refine rg ?_
                  refine dv F (y_fa rfl rfl fi28_2) rfl rfl rfl fun a F => ?_
                  refine dv F (y_ld rfl rfl (S.ld (i := 1) rfl rfl Try.isAgg3)) rfl rfl rfl fun a F => ?_
                  refine dv F (y_ge rfl rfl rfl) rfl rfl rfl fun a F => ?_
                  refine dv F (y_mv rfl rfl) rfl rfl rfl fun a F => ?_
                  refine gv F rfl rfl rfl (decide_eq_true (by omega)) (y_fa rfl rfl fi28_2) rfl rfl fun a F => ?_
                  refine gv F rfl rfl rfl (decide_eq_true (by omega)) (y_ld rfl rfl (S.ld (i := 1) rfl rfl Try.isAgg3)) rfl rfl fun a F => ?_
                  refine gv F rfl rfl rfl (decide_eq_true (by omega)) (y_mv rfl rfl) rfl rfl fun a F => ?_
                  refine gv F rfl rfl rfl (decide_eq_true (by omega)) (y_ln rfl rfl Try.underlying22) rfl rfl fun a F => ?_
                  refine gv F rfl rfl rfl (decide_eq_true (by omega)) (y_lt rfl rfl rfl) rfl rfl fun a F => ?_
                  refine dv F (y_pkt (decide_eq_true (by omega)) rfl rfl rfl) rfl rfl rfl fun a F => ?_
                  refine dv F (y_mv rfl rfl) rfl rfl rfl fun a F => ?_
                  refine gv F rfl rfl rfl (decide_eq_true (by omega)) (y_mv rfl rfl) rfl rfl fun a F => ?_
                  refine gv F rfl rfl rfl (decide_eq_true (by omega)) (y_fa rfl rfl fi28_2) rfl rfl fun a F => ?_
                  refine gv F rfl rfl rfl (decide_eq_true (by omega)) (y_ld rfl rfl (S.ld (i := 1) rfl rfl Try.isAgg3)) rfl rfl fun a F => ?_
                  refine gv F rfl rfl rfl (decide_eq_true (by omega)) (y_ia rfl rfl eN rfl Try.underlying22 Try.sizeOf35 n (by omega) hnl) rfl rfl fun a F => ?_
                  refine gv F rfl rfl rfl (decide_eq_true (by omega)) (y_ld rfl rfl (by
                    obtain ⟨b', o', e, _, hcell⟩ := (hl.st S).sl.at_ hnl
                    rw [eN] at e; cases e
                    exact lda Try.isAgg35 Try.sizeOf35 (len35 _) hcell)) rfl rfl fun a F => ?_
                  refine gv F rfl rfl rfl (decide_eq_true (by omega)) (y_mv rfl rfl) rfl rfl fun a F => ?_
                  refine gv F rfl rfl rfl (decide_eq_true (by omega)) (y_mv rfl rfl) rfl rfl fun a F => ?_
                  refine gc F rfl rfl rfl (decide_eq_true (by omega)) (c_f rfl rfl rfl Try.call13) rfl rfl (f13_c l[n] ks gone _ ((hl.st S).ok _ (List.getElem_mem hnl)) (S.ows (i := 0) rfl len37 (by decide)) (by omega) (hg.st S) hgn) fun a v w' hr F => ?_
                  obtain ⟨rfl, hb⟩ := hr
                  replace S := S.call hb
                  refine dv F (y_pkt (decide_eq_true (by omega)) rfl rfl rfl) rfl rfl rfl fun a F => ?_
                  refine dv F (y_mv rfl rfl) rfl rfl rfl fun a F => ?_
                  refine gv F rfl rfl rfl hm1 (y_mv rfl rfl) rfl rfl fun a F => ?_
                  refine gv F rfl rfl rfl hm1 (y_fa rfl rfl fi28_2) rfl rfl fun a F => ?_
                  refine gv F rfl rfl rfl hm1 (y_ld rfl rfl (S.ld (i := 1) rfl rfl Try.isAgg3)) rfl rfl fun a F => ?_
                  refine gv F rfl rfl rfl hm1 (y_slh rfl rfl rfl Try.underlying22 Try.sizeOf35 (m := n) (by omega) (by omega)) rfl rfl fun a F => ?_
                  refine gv F rfl rfl rfl hm1 (y_mv rfl rfl) rfl rfl fun a F => ?_
                  refine gv F rfl rfl rfl hm1 (y_mv rfl rfl) rfl rfl fun a F => ?_
                  refine gc F rfl rfl rfl hm1 (c_f rfl rfl rfl Try.call14) rfl rfl (f14_take l n (Nat.le_of_lt hnl) ks gone _ (hl.st S) hln (S.ows (i := 0) rfl len37 (by decide)) (by omega) (hg.st S) hgn) fun a v w' hr F => ?_
                  obtain ⟨rfl, hb⟩ := hr
                  replace S := S.call hb
                  refine dv F (y_pkt hm1 rfl rfl rfl) rfl rfl rfl fun a F => ?_
                  refine dv F (y_as rfl rfl) rfl rfl rfl fun a F => ?_
                  refine dn ?_
                  refine tn <| hK38 _ _ ?_
                  refine wp_ret ?_
                  refine br <| br <| tr <| lr <| br <| tr <| ?_
                  exact rt1 F rfl rfl ⟨by rw [none_take l n ks gone hbef]; rfl, S.bel⟩
                · obtain hno : ∀ t ∈ l.map TrV.t, may ks gone t = false := by
                    rcases next_kind ks gone (l.map TrV.t) 0 with ⟨q1, q⟩ | ⟨q1, q⟩ | ⟨q1, q⟩
                    · exact absurd q1 (by omega)
                    · exact absurd q1 (by omega)
                    · exact q
                  have h9 : (next ks gone (l.map TrV.t) 0).kind = 3 := by
                    rcases next_kind ks gone (l.map TrV.t) 0 with ⟨q1, _⟩ | ⟨q1, _⟩ | ⟨q1, _⟩ <;> omega
                  refine sq fun K39 hK39 => ?_
                  refine rg ?_
                  refine dv F (y_fa rfl rfl fi28_0) rfl rfl rfl fun a F => ?_
                  refine dv F (y_ld rfl rfl (S.ld (i := 1) rfl rfl Try.isAgg3)) rfl rfl rfl fun a F => ?_
                  refine dv F (y_ie rfl rfl rfl) rfl rfl rfl fun a F => ?_
                  refine dv F (y_mv rfl rfl) rfl rfl rfl fun a F => ?_
                  refine gv F rfl rfl rfl (decide_eq_true h9) (y_mv rfl rfl) rfl rfl fun a F => ?_
                  refine gv F rfl rfl rfl (decide_eq_true h9) (y_mv rfl rfl) rfl rfl fun a F => ?_
                  refine gv F rfl rfl rfl (decide_eq_true h9) (y_mv rfl rfl) rfl rfl fun a F => ?_
                  refine gc F rfl rfl rfl (decide_eq_true h9) (c_f rfl rfl rfl Try.call14) rfl rfl (f14_c l ks gone _ (hl.st S) hln (S.ows (i := 0) rfl len37 (by decide)) (by omega) (hg.st S) hgn) fun a v w' hr F => ?_
                  obtain ⟨rfl, hb⟩ := hr
                  replace S := S.call hb
                  refine dv F (y_pkt (decide_eq_true h9) rfl rfl rfl) rfl rfl rfl fun a F => ?_
                  refine dv F (y_as rfl rfl) rfl rfl rfl fun a F => ?_
                  refine dn ?_
                  refine tn <| hK39 _ _ ?_
                  refine wp_ret ?_
                  refine br <| br <| tr <| lr <| br <| tr <| ?_
                  exact rt1 F rfl rfl ⟨by rw [none_all l ks gone hno]; rfl, S.bel⟩
            · exact absurd (nodup_sub_length _ _ hnd hsub) (by rw [List.length_map]; omega)

end Go.Proofs.Ytpnhinbhhpeklaa
