/- Walks of layer 27, second part. -/
import Derived.Test.YtpnhinbhhpeklaaD1
set_option linter.unusedVariables false
set_option linter.unusedSimpArgs false
namespace Go.Proofs.Ytpnhinbhhpeklaa
open Go.RowKit Go.Eng DirtyPlain
theorem fi35_1 : FieldIs Try.prog 35 1 32 := fieldIs (z := 0) Try.underlying35 rfl rfl rfl Try.sizeOf23
theorem fi35_2 : FieldIs Try.prog 35 2 33 := fieldIs (z := 0) Try.underlying35 rfl rfl rfl Try.sizeOf33
theorem fi58_0 : FieldIs Try.prog 58 0 0 := fieldIs (z := 0) Try.underlying58 rfl rfl rfl Try.sizeOf9
theorem f32_c (x : TrV) (w0 : World) (hx : TrOk w0 x) :
    Calls Try.prog 32 [.agg (encTr x).toArray].toArray w0 (Ret fun v w' => (∃ b : Bool, v = .bool b ∧ (b = false → x.t.reads.length ≤ 60 ∧ x.t.outs.length ≤ 60)) ∧ Below w0.heap.size w0 w') := by
  refine ent Try.func32 Try.ntmps32 rfl rfl ?_
  intro a F
  have S := St.refl w0
  refine sq fun K1 hK1 => ?_
  refine rg ?_
  refine dbx F S rfl rfl rfl rfl rfl rfl fun a w b1 F S => ?_
  refine dv F (y_as rfl rfl) rfl rfl rfl fun a F => ?_
  refine dn ?_
  refine tn <| hK1 _ _ ?_
  refine sq fun K2 hK2 => ?_
  refine sq fun K3 hK3 => ?_
  rcases Nat.lt_or_ge 60 x.t.reads.length with h | h
  · refine rg ?_
    refine dv F (y_fa rfl rfl fi35_1) rfl rfl rfl fun a F => ?_
    refine dv F (y_ld rfl rfl (S.ld (i := 0) rfl (ntr32 x) Try.isAgg23)) rfl rfl rfl fun a F => ?_
    refine dv F (y_ln rfl rfl Try.underlying23) rfl rfl rfl fun a F => ?_
    refine dv F (y_gt rfl rfl rfl) rfl rfl rfl fun a F => ?_
    refine dv F (y_mv rfl rfl) rfl rfl rfl fun a F => ?_
    refine gs F rfl rfl rfl (decide_eq_true (by omega)) rfl rfl fun a F => ?_
    refine gs F rfl rfl rfl (decide_eq_true (by omega)) rfl rfl fun a F => ?_
    refine gs F rfl rfl rfl (decide_eq_true (by omega)) rfl rfl fun a F => ?_
    refine gs F rfl rfl rfl (decide_eq_true (by omega)) rfl rfl fun a F => ?_
    refine dv F (y_pkt (decide_eq_true (by omega)) rfl rfl rfl) rfl rfl rfl fun a F => ?_
    refine dn ?_
    refine tn <| hK3 _ _ ?_
    refine ct F rfl rfl ?_
    refine sq fun K4 hK4 => ?_
    refine rg ?_
    refine dv F (y_as rfl rfl) rfl rfl rfl fun a F => ?_
    refine dn ?_
    refine tn <| hK4 _ _ ?_
    refine wp_ret ?_
    refine tr <| ?_
    exact rt1 F rfl rfl ⟨⟨_, rfl, fun h => by cases h⟩, S.bel⟩
  · refine rg ?_
    refine dv F (y_fa rfl rfl fi35_1) rfl rfl rfl fun a F => ?_
    refine dv F (y_ld rfl rfl (S.ld (i := 0) rfl (ntr32 x) Try.isAgg23)) rfl rfl rfl fun a F => ?_
    refine dv F (y_ln rfl rfl Try.underlying23) rfl rfl rfl fun a F => ?_
    refine dv F (y_gt rfl rfl rfl) rfl rfl rfl fun a F => ?_
    refine dv F (y_mv rfl rfl) rfl rfl rfl fun a F => ?_
    refine gv F rfl rfl rfl (decide_eq_false (by omega)) (y_fa rfl rfl fi35_2) rfl rfl fun a F => ?_
    refine gv F rfl rfl rfl (decide_eq_false (by omega)) (y_ld rfl rfl (S.ld (i := 0) rfl (ntr33 x) Try.isAgg33)) rfl rfl fun a F => ?_
    refine gv F rfl rfl rfl (decide_eq_false (by omega)) (y_ln rfl rfl Try.underlying33) rfl rfl fun a F => ?_
    refine gv F rfl rfl rfl (decide_eq_false (by omega)) (y_gt rfl rfl rfl) rfl rfl fun a F => ?_
    refine dv F (y_pkf (decide_eq_false (by omega)) rfl rfl rfl) rfl rfl rfl fun a F => ?_
    refine dn ?_
    refine tn <| hK3 _ _ ?_
    refine cd F rfl (fun h2 => ?_) (fun h2 => ?_)
    · refine sq fun K5 hK5 => ?_
      refine rg ?_
      refine dv F (y_as rfl rfl) rfl rfl rfl fun a F => ?_
      refine dn ?_
      refine tn <| hK5 _ _ ?_
      refine wp_ret ?_
      refine tr <| ?_
      exact rt1 F rfl rfl ⟨⟨_, rfl, fun h => by cases h⟩, S.bel⟩
    · refine wp_skip ?_
      refine tn <| hK2 _ _ ?_
      refine sq fun K6 hK6 => ?_
      refine rg ?_
      refine dv F (y_as rfl rfl) rfl rfl rfl fun a F => ?_
      refine dn ?_
      refine tn <| hK6 _ _ ?_
      refine sq fun K7 hK7 => ?_
      refine sq fun K8 hK8 => ?_
      refine rg ?_
      refine dv F (y_as rfl rfl) rfl rfl rfl fun a F => ?_
      refine dn ?_
      refine tn <| hK8 _ _ ?_
      refine bl ?_
      refine lp (fun m a w => ∃ (i : Nat) (s : Int), m = x.t.reads.length - i ∧ (i ≤ x.t.reads.length) ∧ (0 ≤ s ∧ s ≤ 3000 * (i : Int)) ∧ Fr 52 a [(1, .pointer (some ⟨b1, 0, none⟩)), (3, .int .i64 s), (4, .int .i64 (i : Int))] ∧ St w0 w [bk b1 35 (encTr x)]) (x.t.reads.length) ?_ ?_
      · exact ⟨0, 0, rfl, Nat.zero_le _, by omega, F.sub _ ⟨rfl, rfl, rfl, trivial⟩, S.pick [0] _ ⟨rfl, trivial⟩ rfl⟩
      · rintro m a w ⟨i, s, hm, hi, hs, F, S⟩
        refine sq fun K9 hK9 => ?_
        refine sq fun K10 hK10 => ?_
        refine rg ?_
        refine dv F (y_mv rfl rfl) rfl rfl rfl fun a F => ?_
        refine dv F (y_fa rfl rfl fi35_1) rfl rfl rfl fun a F => ?_
        refine dv F (y_ld rfl rfl (S.ld (i := 0) rfl (ntr32 x) Try.isAgg23)) rfl rfl rfl fun a F => ?_
        refine dv F (y_ln rfl rfl Try.underlying23) rfl rfl rfl fun a F => ?_
        refine dv F (y_lt rfl rfl rfl) rfl rfl rfl fun a F => ?_
        refine dn ?_
        refine tn <| hK10 _ _ ?_
        refine cd F rfl (fun h3 => ?_) (fun h3 => ?_)
        · refine wp_skip ?_
          refine tn <| hK9 _ _ ?_
          refine sq fun K11 hK11 => ?_
          refine bl ?_
          refine rg ?_
          refine dv F (y_mv rfl rfl) rfl rfl rfl fun a F => ?_
          refine dv F (y_fa rfl rfl fi35_1) rfl rfl rfl fun a F => ?_
          refine dv F (y_ld rfl rfl (S.ld (i := 0) rfl (ntr32 x) Try.isAgg23)) rfl rfl rfl fun a F => ?_
          refine dv F (y_mv rfl rfl) rfl rfl rfl fun a F => ?_
          have hlt : i < x.t.reads.length := by omega
          obtain ⟨ab, ao, eA, hab, hcell⟩ := (hx.rd.st S).at_ hlt
          refine dv F (y_ia rfl rfl eA rfl Try.underlying23 Try.sizeOf37 i rfl hlt) rfl rfl rfl fun a F => ?_
          refine dv F (y_fa rfl rfl fi37_0) rfl rfl rfl fun a F => ?_
          refine dv F (y_ld rfl rfl (ld1 Try.isAgg9 (hcell 0 _ rfl))) rfl rfl rfl fun a F => ?_
          refine dv F (y_ls rfl rfl Try.underlying9) rfl rfl rfl fun a F => ?_
          refine dv F (y_mn rfl rfl rfl) rfl rfl rfl fun a F => ?_
          refine dv F (y_add rfl rfl rfl (by omega)) rfl rfl rfl fun a F => ?_
          refine dv F (y_as rfl rfl) rfl rfl rfl fun a F => ?_
          refine dn ?_
          refine bn <| tn <| hK11 _ _ ?_
          refine rg ?_
          refine dv F (y_mv rfl rfl) rfl rfl rfl fun a F => ?_
          refine dv F (y_add rfl rfl rfl (by omega)) rfl rfl rfl fun a F => ?_
          refine dv F (y_as rfl rfl) rfl rfl rfl fun a F => ?_
          refine dn ?_
          exact ln (by omega) ⟨i + 1, _, rfl, by omega, by omega, F.sub _ ⟨rfl, rfl, rfl, trivial⟩, S.pick [0] _ ⟨rfl, trivial⟩ rfl⟩
        · refine wp_exit ?_
          refine tx <| lx <| bh <| tn <| hK7 _ _ ?_
          refine sq fun K12 hK12 => ?_
          refine sq fun K13 hK13 => ?_
          refine rg ?_
          refine dv F (y_as rfl rfl) rfl rfl rfl fun a F => ?_
          refine dn ?_
          refine tn <| hK13 _ _ ?_
          refine bl ?_
          refine lp (fun m a w => ∃ (i : Nat) (s : Int), m = x.t.outs.length - i ∧ (i ≤ x.t.outs.length) ∧ (0 ≤ s ∧ s ≤ 180000 + 3000 * (i : Int)) ∧ Fr 52 a [(1, .pointer (some ⟨b1, 0, none⟩)), (3, .int .i64 s), (5, .int .i64 (i : Int))] ∧ St w0 w [bk b1 35 (encTr x)]) (x.t.outs.length) ?_ ?_
          · exact ⟨0, s, rfl, Nat.zero_le _, by omega, F.sub _ ⟨rfl, rfl, rfl, trivial⟩, S.pick [0] _ ⟨rfl, trivial⟩ rfl⟩
          · rintro m a w ⟨i, s, hm, hi, hs, F, S⟩
            refine sq fun K14 hK14 => ?_
            refine sq fun K15 hK15 => ?_
            refine rg ?_
            refine dv F (y_mv rfl rfl) rfl rfl rfl fun a F => ?_
            refine dv F (y_fa rfl rfl fi35_2) rfl rfl rfl fun a F => ?_
            refine dv F (y_ld rfl rfl (S.ld (i := 0) rfl (ntr33 x) Try.isAgg33)) rfl rfl rfl fun a F => ?_
            refine dv F (y_ln rfl rfl Try.underlying33) rfl rfl rfl fun a F => ?_
            refine dv F (y_lt rfl rfl rfl) rfl rfl rfl fun a F => ?_
            refine dn ?_
            refine tn <| hK15 _ _ ?_
            refine cd F rfl (fun h3 => ?_) (fun h3 => ?_)
            · refine wp_skip ?_
              refine tn <| hK14 _ _ ?_
              refine sq fun K16 hK16 => ?_
              refine bl ?_
              refine rg ?_
              refine dv F (y_mv rfl rfl) rfl rfl rfl fun a F => ?_
              refine dv F (y_fa rfl rfl fi35_2) rfl rfl rfl fun a F => ?_
              refine dv F (y_ld rfl rfl (S.ld (i := 0) rfl (ntr33 x) Try.isAgg33)) rfl rfl rfl fun a F => ?_
              refine dv F (y_mv rfl rfl) rfl rfl rfl fun a F => ?_
              have hlt : i < x.t.outs.length := by omega
              obtain ⟨ab, ao, eA, hab, hcell⟩ := (hx.md.st S).at_ hlt
              refine dv F (y_ia rfl rfl eA rfl Try.underlying33 Try.sizeOf58 i rfl hlt) rfl rfl rfl fun a F => ?_
              refine dv F (y_fa rfl rfl fi58_0) rfl rfl rfl fun a F => ?_
              refine dv F (y_ld rfl rfl (ld1 Try.isAgg9 (hcell 0 _ rfl))) rfl rfl rfl fun a F => ?_
              refine dv F (y_ls rfl rfl Try.underlying9) rfl rfl rfl fun a F => ?_
              refine dv F (y_mn rfl rfl rfl) rfl rfl rfl fun a F => ?_
              refine dv F (y_add rfl rfl rfl (by omega)) rfl rfl rfl fun a F => ?_
              refine dv F (y_as rfl rfl) rfl rfl rfl fun a F => ?_
              refine dn ?_
              refine bn <| tn <| hK16 _ _ ?_
              refine rg ?_
              refine dv F (y_mv rfl rfl) rfl rfl rfl fun a F => ?_
              refine dv F (y_add rfl rfl rfl (by omega)) rfl rfl rfl fun a F => ?_
              refine dv F (y_as rfl rfl) rfl rfl rfl fun a F => ?_
              refine dn ?_
              exact ln (by omega) ⟨i + 1, _, rfl, by omega, by omega, F.sub _ ⟨rfl, rfl, rfl, trivial⟩, S.pick [0] _ ⟨rfl, trivial⟩ rfl⟩
            · refine wp_exit ?_
              refine tx <| lx <| bh <| tn <| hK12 _ _ ?_
              refine sq fun K17 hK17 => ?_
              refine rg ?_
              refine dv F (y_mv rfl rfl) rfl rfl rfl fun a F => ?_
              refine dv F (y_gt rfl rfl rfl) rfl rfl rfl fun a F => ?_
              refine dv F (y_as rfl rfl) rfl rfl rfl fun a F => ?_
              refine dn ?_
              refine tn <| hK17 _ _ ?_
              refine wp_ret ?_
              refine ?_
              exact rt1 F rfl rfl ⟨⟨_, rfl, fun _ => ⟨h, by omega⟩⟩, S.bel⟩

theorem f20_c (x : TrV) (w0 : World) (hx : TrOk w0 x) :
    Calls Try.prog 20 [.agg (encTr x).toArray].toArray w0 (Ret fun v w' => (∃ i : Int, v = .int .i64 i ∧ (i ≠ 1 → x.t.reads.length ≤ 60 ∧ x.t.outs.length ≤ 60)) ∧ Below w0.heap.size w0 w') := by
  refine ent Try.func20 Try.ntmps20 rfl rfl ?_
  intro a F
  have S := St.refl w0
  refine sq fun K1 hK1 => ?_
  refine rg ?_
  refine dbx F S rfl rfl rfl rfl rfl rfl fun a w b1 F S => ?_
  refine dv F (y_as rfl rfl) rfl rfl rfl fun a F => ?_
  refine dn ?_
  refine tn <| hK1 _ _ ?_
  refine sq fun K2 hK2 => ?_
  refine sq fun K3 hK3 => ?_
  refine rg ?_
  refine dv F (y_ld rfl rfl (S.lda (i := 0) rfl Try.isAgg35 Try.sizeOf35 (len35 x))) rfl rfl rfl fun a F => ?_
  refine dc F (c_f rfl rfl rfl Try.call32) rfl rfl rfl (f32_c x _ (hx.st S)) fun a v w' hr F => ?_
  obtain ⟨⟨b, rfl, hbb⟩, hb⟩ := hr
  replace S := S.call hb
  refine dn ?_
  refine tn <| hK3 _ _ ?_
  refine cb F rfl (fun h1 => ?_) (fun h1 => ?_)
  · refine sq fun K4 hK4 => ?_
    refine rg ?_
    refine dv F (y_as rfl rfl) rfl rfl rfl fun a F => ?_
    refine dn ?_
    refine tn <| hK4 _ _ ?_
    refine wp_ret ?_
    refine tr <| ?_
    exact rt1 F rfl rfl ⟨⟨_, rfl, fun h => absurd rfl h⟩, S.bel⟩
  · refine wp_skip ?_
    refine tn <| hK2 _ _ ?_
    refine sq fun K5 hK5 => ?_
    refine rg ?_
    refine dv F (y_as rfl rfl) rfl rfl rfl fun a F => ?_
    refine dn ?_
    refine tn <| hK5 _ _ ?_
    refine wp_ret ?_
    refine ?_
    exact rt1 F rfl rfl ⟨⟨_, rfl, fun _ => hbb h1⟩, S.bel⟩

theorem f10_c {A : Option Addr} {c : Nat} (l : List TrV) (w0 : World) (hl : Trs w0 A l) (hn : l.length ≤ 140737488351232) :
    Calls Try.prog 10 [.slice A l.length c].toArray w0 (Ret fun v w' => (∃ b : Bool, v = .bool b ∧ (b = false → l.length ≤ 20 ∧ ∀ x ∈ l, x.t.reads.length ≤ 60 ∧ x.t.outs.length ≤ 60)) ∧ Below w0.heap.size w0 w') := by
  refine ent Try.func10 Try.ntmps10 rfl rfl ?_
  intro a F
  have S := St.refl w0
  refine sq fun K1 hK1 => ?_
  refine rg ?_
  refine dv F (y_as rfl rfl) rfl rfl rfl fun a F => ?_
  refine dn ?_
  refine tn <| hK1 _ _ ?_
  refine sq fun K2 hK2 => ?_
  refine sq fun K3 hK3 => ?_
  refine rg ?_
  refine dv F (y_mv rfl rfl) rfl rfl rfl fun a F => ?_
  refine dv F (y_ln rfl rfl Try.underlying22) rfl rfl rfl fun a F => ?_
  refine dv F (y_gt rfl rfl rfl) rfl rfl rfl fun a F => ?_
  refine dn ?_
  refine tn <| hK3 _ _ ?_
  refine cd F rfl (fun h1 => ?_) (fun h1 => ?_)
  · refine sq fun K4 hK4 => ?_
    refine rg ?_
    refine dv F (y_as rfl rfl) rfl rfl rfl fun a F => ?_
    refine dn ?_
    refine tn <| hK4 _ _ ?_
    refine wp_ret ?_
    refine tr <| ?_
    exact rt1 F rfl rfl ⟨⟨_, rfl, fun h => by cases h⟩, S.bel⟩
  · refine wp_skip ?_
    refine tn <| hK2 _ _ ?_
    refine sq fun K5 hK5 => ?_
    refine sq fun K6 hK6 => ?_
    refine rg ?_
    refine dv F (y_as rfl rfl) rfl rfl rfl fun a F => ?_
    refine dn ?_
    refine tn <| hK6 _ _ ?_
    refine bl ?_
    refine lp (fun m a w => ∃ i : Nat, m = l.length - i ∧ (i ≤ l.length) ∧ (∀ (j : Nat) (hj : j < l.length), j < i → l[j].t.reads.length ≤ 60 ∧ l[j].t.outs.length ≤ 60) ∧ Fr 19 a [(0, .slice A l.length c), (3, .int .i64 (i : Int))] ∧ St w0 w []) (l.length) ?_ ?_
    · exact ⟨0, rfl, Nat.zero_le _, fun j _ h => absurd h (Nat.not_lt_zero j), F.sub _ ⟨rfl, rfl, trivial⟩, S.pick [] _ trivial rfl⟩
    · rintro m a w ⟨i, hm, hi, hno, F, S⟩
      refine sq fun K7 hK7 => ?_
      refine sq fun K8 hK8 => ?_
      refine rg ?_
      refine dv F (y_mv rfl rfl) rfl rfl rfl fun a F => ?_
      refine dv F (y_mv rfl rfl) rfl rfl rfl fun a F => ?_
      refine dv F (y_ln rfl rfl Try.underlying22) rfl rfl rfl fun a F => ?_
      refine dv F (y_lt rfl rfl rfl) rfl rfl rfl fun a F => ?_
      refine dn ?_
      refine tn <| hK8 _ _ ?_
      refine cd F rfl (fun h2 => ?_) (fun h2 => ?_)
      · refine wp_skip ?_
        refine tn <| hK7 _ _ ?_
        refine sq fun K9 hK9 => ?_
        refine bl ?_
        refine sq fun K10 hK10 => ?_
        refine rg ?_
        refine dv F (y_mv rfl rfl) rfl rfl rfl fun a F => ?_
        refine dv F (y_mv rfl rfl) rfl rfl rfl fun a F => ?_
        have hlt : i < l.length := by omega
        obtain ⟨ab, ao, rfl, hab, hcell⟩ := (hl.st S).sl.at_ hlt
        refine dv F (y_ia rfl rfl rfl rfl Try.underlying22 Try.sizeOf35 i rfl hlt) rfl rfl rfl fun a F => ?_
        refine dv F (y_ld rfl rfl (lda Try.isAgg35 Try.sizeOf35 (len35 _) hcell)) rfl rfl rfl fun a F => ?_
        refine dc F (c_f rfl rfl rfl Try.call20) rfl rfl rfl (f20_c l[i] _ ((hl.st S).ok _ (List.getElem_mem hlt))) fun a v w' hr F => ?_
        obtain ⟨⟨z, rfl, hbb⟩, hb⟩ := hr
        replace S := S.call hb
        refine dv F (y_ie rfl rfl rfl) rfl rfl rfl fun a F => ?_
        refine dn ?_
        refine tn <| hK10 _ _ ?_
        refine cd F rfl (fun h3 => ?_) (fun h3 => ?_)
        · refine sq fun K11 hK11 => ?_
          refine rg ?_
          refine dv F (y_as rfl rfl) rfl rfl rfl fun a F => ?_
          refine dn ?_
          refine tn <| hK11 _ _ ?_
          refine wp_ret ?_
          refine br <| tr <| lr <| br <| tr <| ?_
          exact rt1 F rfl rfl ⟨⟨_, rfl, fun h => by cases h⟩, S.bel⟩
        · refine wp_skip ?_
          refine bn <| tn <| hK9 _ _ ?_
          refine rg ?_
          refine dv F (y_mv rfl rfl) rfl rfl rfl fun a F => ?_
          refine dv F (y_add rfl rfl rfl (by omega)) rfl rfl rfl fun a F => ?_
          refine dv F (y_as rfl rfl) rfl rfl rfl fun a F => ?_
          refine dn ?_
          exact ln (by omega) ⟨i + 1, rfl, by omega, allto hno hlt (hbb h3), F.sub _ ⟨rfl, rfl, trivial⟩, S.pick [] _ trivial rfl⟩
      · refine wp_exit ?_
        refine tx <| lx <| bh <| tn <| hK5 _ _ ?_
        refine sq fun K12 hK12 => ?_
        refine rg ?_
        refine dv F (y_as rfl rfl) rfl rfl rfl fun a F => ?_
        refine dn ?_
        refine tn <| hK12 _ _ ?_
        refine wp_ret ?_
        refine ?_
        exact rt1 F rfl rfl ⟨⟨_, rfl, fun _ => ⟨by omega, allmem fun j hj => hno j hj (by omega)⟩⟩, S.bel⟩

end Go.Proofs.Ytpnhinbhhpeklaa
