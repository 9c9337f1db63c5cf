/- Walks of layer 27, fourth part. -/
import Derived.Test.YtpnhinbhhpeklaaD3
set_option linter.unusedVariables false
set_option linter.unusedSimpArgs false
namespace Go.Proofs.Ytpnhinbhhpeklaa
open Go.RowKit Go.Eng DirtyPlain

def cutTr (x : TrV) (i : Nat) : TrV := { t := { key := dig0, reads := x.t.reads.take i, outs := [] }, RA := x.RA, Rc := x.Rc, OA := none, Oc := 0 }
theorem enc_cut (x : TrV) (i : Nat) (hi : i ≤ x.t.reads.length) : encTr (cutTr x i) = encD dig0 ++ [Value.slice x.RA i x.Rc, Value.slice none 0 0] := by
  simp [encTr, cutTr, Nat.min_eq_left hi]
theorem TrOk.cut {w : World} {x : TrV} (h : TrOk w x) (i : Nat) : TrOk w (cutTr x i) :=
  ⟨h.rd.take i, Sl.nil, by have := h.rc; simp [cutTr]; omega, by have := h.lr; simp [cutTr]; omega, by simp [cutTr]⟩
theorem bd35_1 {A : Option Addr} {n c : Nat} (w : World) : (Instr.build 35 [(1, .slice A n c)].toArray).run Try.prog w = .ok (.agg (encD dig0 ++ [Value.slice A n c, Value.slice none 0 0]).toArray) w := by kernel_rfl
def encW (x : Want) : List Value := [.int .i64 x.kind, .string x.path, .int .i64 x.i]
theorem bd28_0_1 {i : Int} {p : ByteArray} (w : World) : (Instr.build 28 [(0, .int .i64 i), (1, .string p)].toArray).run Try.prog w = .ok (.agg [.int .i64 i, .string p, .int .i64 0].toArray) w := by kernel_rfl
theorem bd28_0_2 {i j : Int} (w : World) : (Instr.build 28 [(0, .int .i64 i), (2, .int .i64 j)].toArray).run Try.prog w = .ok (.agg [.int .i64 i, .string ⟨#[]⟩, .int .i64 j].toArray) w := by kernel_rfl
theorem bd28_0 {i : Int} (w : World) : (Instr.build 28 [(0, .int .i64 i)].toArray).run Try.prog w = .ok (.agg [.int .i64 i, .string ⟨#[]⟩, .int .i64 0].toArray) w := by kernel_rfl
theorem f24_c {KA : Option Addr} {kc : Nat} (x : TrV) (known : List Rd) (w0 : World) (hx : TrOk w0 x) (hk : Sl w0 34 encRd KA known) (hn : known.length ≤ 140737488351232) :
    Calls Try.prog 24 [.agg (encTr x).toArray, .slice KA known.length kc].toArray w0 (Ret fun v w' => v = .tuple [.string (asks known [] x.t.reads).1, .bool (asks known [] x.t.reads).2].toArray ∧ Below w0.heap.size w0 w') := by
  have hlr := hx.lr
  refine ent Try.func24 Try.ntmps24 rfl rfl ?_
  intro a F
  have S := St.refl w0
  refine sq fun K1 hK1 => ?_
  refine rg ?_
  refine dbx F S rfl rfl rfl rfl rfl rfl fun a w b2 F S => ?_
  refine dv F (y_as rfl rfl) rfl rfl rfl fun a F => ?_
  refine dv F (y_as rfl rfl) rfl rfl rfl fun a F => ?_
  refine dn ?_
  refine tn <| hK1 _ _ ?_
  refine sq fun K2 hK2 => ?_
  refine sq fun K3 hK3 => ?_
  refine rg ?_
  refine dv F (y_as rfl rfl) rfl rfl rfl fun a F => ?_
  refine dn ?_
  refine tn <| hK3 _ _ ?_
  refine bl ?_
  refine lp (fun m a w => ∃ i : Nat, m = x.t.reads.length - i ∧ (i ≤ x.t.reads.length) ∧ (∀ (j : Nat) (hj : j < x.t.reads.length), j < i → (seek known x.t.reads[j].path).isSome = true) ∧ Fr 42 a [(1, .slice KA known.length kc), (2, .pointer (some ⟨b2, 0, none⟩)), (6, .int .i64 (i : Int))] ∧ St w0 w [bk b2 35 (encTr x)]) (x.t.reads.length) ?_ ?_
  · exact ⟨0, rfl, Nat.zero_le _, fun j _ h => absurd h (Nat.not_lt_zero j), F.sub _ ⟨rfl, rfl, rfl, trivial⟩, S.pick [0] _ ⟨rfl, trivial⟩ rfl⟩
  · rintro m a w ⟨i, hm, hi, hall, F, S⟩
    refine sq fun K4 hK4 => ?_
    refine sq fun K5 hK5 => ?_
    refine rg ?_
    refine dv F (y_mv rfl rfl) rfl rfl rfl fun a F => ?_
    refine dv F (y_fa rfl rfl fi35_1) rfl rfl rfl fun a F => ?_
    refine dv F (y_ld rfl rfl (S.ld (i := 0) rfl (ntr32 _) Try.isAgg23)) rfl rfl rfl fun a F => ?_
    refine dv F (y_ln rfl rfl Try.underlying23) rfl rfl rfl fun a F => ?_
    refine dv F (y_lt rfl rfl rfl) rfl rfl rfl fun a F => ?_
    refine dn ?_
    refine tn <| hK5 _ _ ?_
    refine cd F rfl (fun h1 => ?_) (fun h1 => ?_)
    · refine wp_skip ?_
      refine tn <| hK4 _ _ ?_
      refine sq fun K6 hK6 => ?_
      refine bl ?_
      refine sq fun K7 hK7 => ?_
      have hlt : i < x.t.reads.length := by omega
      obtain ⟨ab, ao, eA, hab, _⟩ := (hx.rd.st S).at_ hlt
      refine rg ?_
      refine dv F (y_mv rfl rfl) rfl rfl rfl fun a F => ?_
      refine dv F (y_fa rfl rfl fi35_1) rfl rfl rfl fun a F => ?_
      refine dv F (y_ld rfl rfl (S.ld (i := 0) rfl (ntr32 _) Try.isAgg23)) rfl rfl rfl fun a F => ?_
      refine dv F (y_mv rfl rfl) rfl rfl rfl fun a F => ?_
      refine dv F (y_ia rfl rfl eA rfl Try.underlying23 Try.sizeOf37 i rfl hlt) rfl rfl rfl fun a F => ?_
      refine dv F (y_fa rfl rfl fi37_0) rfl rfl rfl fun a F => ?_
      refine dv F (y_ld rfl rfl (by
        obtain ⟨b', o', e, _, hcell⟩ := (hx.rd.st S).at_ hlt
        rw [eA] at e; cases e
        exact ld1 Try.isAgg9 (hcell 0 _ rfl))) rfl rfl rfl fun a F => ?_
      refine dc F (c_f rfl rfl rfl Try.call34) rfl rfl rfl (f34_c _ x.t.reads[i].path (hk.st S) hn) fun a v w' hr F => ?_
      obtain ⟨rfl, hb⟩ := hr
      replace S := S.call hb
      refine dv F (y_nt rfl rfl) rfl rfl rfl fun a F => ?_
      refine dn ?_
      refine tn <| hK7 _ _ ?_
      refine cb F rfl (fun h2 => ?_) (fun h2 => ?_)
      · refine sq fun K8 hK8 => ?_
        have hnone : seek known x.t.reads[i].path = none := by
          have : (seek known x.t.reads[i].path).isSome = false := by rw [← any_seek]; simpa using h2
          simpa using this
        refine rg ?_
        refine dv F (y_fa rfl rfl fi35_1) rfl rfl rfl fun a F => ?_
        refine dv F (y_ld rfl rfl (S.ld (i := 0) rfl (ntr32 _) Try.isAgg23)) rfl rfl rfl fun a F => ?_
        refine dv F (y_mv rfl rfl) rfl rfl rfl fun a F => ?_
        refine dv F (y_slh rfl rfl rfl Try.underlying23 Try.sizeOf37 rfl (by have := hx.rc; omega)) rfl rfl rfl fun a F => ?_
        refine dv F (y_bd rfl rfl (bd35_1)) rfl rfl rfl fun a F => ?_
        refine dv F (y_mv rfl rfl) rfl rfl rfl fun a F => ?_
        refine dc F (c_f rfl rfl rfl Try.call25) rfl rfl rfl (by have := f25_c (kc := kc) (cutTr x i) known _ ((hx.st S).cut i) (hk.st S) hn; rw [enc_cut x i hi] at this; exact this) fun a v w' hr F => ?_
        obtain ⟨rfl, hb⟩ := hr
        replace S := S.call hb
        refine dv F (y_mv rfl rfl) rfl rfl rfl fun a F => ?_
        refine dv F (y_ex rfl rfl rfl) rfl rfl rfl fun a F => ?_
        refine dv F (y_ex rfl rfl rfl) rfl rfl rfl fun a F => ?_
        refine dv F (y_as rfl rfl) rfl rfl rfl fun a F => ?_
        refine dv F (y_as rfl rfl) rfl rfl rfl fun a F => ?_
        refine dn ?_
        refine tn <| hK8 _ _ ?_
        refine sq fun K9 hK9 => ?_
        refine rg ?_
        refine dv F (y_fa rfl rfl fi35_1) rfl rfl rfl fun a F => ?_
        refine dv F (y_ld rfl rfl (S.ld (i := 0) rfl (ntr32 _) Try.isAgg23)) rfl rfl rfl fun a F => ?_
        refine dv F (y_mv rfl rfl) rfl rfl rfl fun a F => ?_
        refine dv F (y_ia rfl rfl eA rfl Try.underlying23 Try.sizeOf37 i rfl hlt) rfl rfl rfl fun a F => ?_
        refine dv F (y_fa rfl rfl fi37_0) rfl rfl rfl fun a F => ?_
        refine dv F (y_ld rfl rfl (by
          obtain ⟨b', o', e, _, hcell⟩ := (hx.rd.st S).at_ hlt
          rw [eA] at e; cases e
          exact ld1 Try.isAgg9 (hcell 0 _ rfl))) rfl rfl rfl fun a F => ?_
        refine dv F (y_mv rfl rfl) rfl rfl rfl fun a F => ?_
        refine dv F (y_as rfl rfl) rfl rfl rfl fun a F => ?_
        refine dv F (y_as rfl rfl) rfl rfl rfl fun a F => ?_
        refine dn ?_
        refine tn <| hK9 _ _ ?_
        refine wp_ret ?_
        refine br <| tr <| lr <| br <| tr <| ?_
        exact rt2 F rfl rfl rfl ⟨by rw [asks_go known _ [] i hlt hall hnone]; rfl, S.bel⟩
      · refine wp_skip ?_
        refine bn <| tn <| hK6 _ _ ?_
        refine rg ?_
        refine dv F (y_mv rfl rfl) rfl rfl rfl fun a F => ?_
        refine dv F (y_add rfl rfl rfl (by omega)) rfl rfl rfl fun a F => ?_
        refine dv F (y_as rfl rfl) rfl rfl rfl fun a F => ?_
        refine dn ?_
        exact ln (by omega) ⟨i + 1, rfl, by omega, allto hall hlt (by rw [← any_seek]; simpa using h2), F.sub _ ⟨rfl, rfl, rfl, trivial⟩, S.pick [0] _ ⟨rfl, trivial⟩ rfl⟩
    · refine wp_exit ?_
      refine tx <| lx <| bh <| tn <| hK2 _ _ ?_
      refine sq fun K10 hK10 => ?_
      refine rg ?_
      refine dv F (y_as rfl rfl) rfl rfl rfl fun a F => ?_
      refine dv F (y_as rfl rfl) rfl rfl rfl fun a F => ?_
      refine dn ?_
      refine tn <| hK10 _ _ ?_
      refine wp_ret ?_
      refine ?_
      exact rt2 F rfl rfl rfl ⟨by rw [asks_end known _ [] fun j hj => hall j hj (by omega)], S.bel⟩

theorem f13_c {KA GA : Option Addr} {kc gk : Nat} (x : TrV) (known : List Rd) (gone : List Dig) (w0 : World) (hx : TrOk w0 x) (hk : Sl w0 34 encRd KA known) (hn : known.length ≤ 140737488351232) (hg : Sl w0 32 encD GA gone) (hgn : gone.length ≤ 140737488351232) :
    Calls Try.prog 13 [.agg (encTr x).toArray, .slice KA known.length kc, .slice GA gone.length gk].toArray w0 (Ret fun v w' => v = .bool (may known gone x.t) ∧ Below w0.heap.size w0 w') := by
  refine ent Try.func13 Try.ntmps13 rfl rfl ?_
  intro a F
  have S := St.refl w0
  refine sq fun K1 hK1 => ?_
  refine rg ?_
  refine dbx F S rfl rfl rfl rfl rfl rfl fun a w b3 F S => ?_
  refine dv F (y_as rfl rfl) rfl rfl rfl fun a F => ?_
  refine dn ?_
  refine tn <| hK1 _ _ ?_
  refine sq fun K2 hK2 => ?_
  refine rg ?_
  refine dv F (y_ld rfl rfl (S.lda (i := 0) rfl Try.isAgg35 Try.sizeOf35 (len35 _))) rfl rfl rfl fun a F => ?_
  refine dv F (y_mv rfl rfl) rfl rfl rfl fun a F => ?_
  refine dc F (c_f rfl rfl rfl Try.call25) rfl rfl rfl (f25_c x known _ (hx.st S) (hk.st S) hn) fun a v w' hr F => ?_
  obtain ⟨rfl, hb⟩ := hr
  replace S := S.call hb
  refine dv F (y_mv rfl rfl) rfl rfl rfl fun a F => ?_
  refine dv F (y_ex rfl rfl rfl) rfl rfl rfl fun a F => ?_
  refine dv F (y_ex rfl rfl rfl) rfl rfl rfl fun a F => ?_
  refine dv F (y_as rfl rfl) rfl rfl rfl fun a F => ?_
  refine dv F (y_as rfl rfl) rfl rfl rfl fun a F => ?_
  refine dn ?_
  refine tn <| hK2 _ _ ?_
  refine sq fun K3 hK3 => ?_
  rcases Bool.eq_false_or_eq_true (holds known x.t.reads).1 with h | h
  · refine rg ?_
    refine dv F (y_mv rfl rfl) rfl rfl rfl fun a F => ?_
    refine dv F (y_mv rfl rfl) rfl rfl rfl fun a F => ?_
    refine gv F rfl rfl rfl h (y_ld rfl rfl (S.lda (i := 0) rfl Try.isAgg35 Try.sizeOf35 (len35 _))) rfl rfl fun a F => ?_
    refine gv F rfl rfl rfl h (y_mv rfl rfl) rfl rfl fun a F => ?_
    refine gc F rfl rfl rfl h (c_f rfl rfl rfl Try.call26) rfl rfl (f26_c x gone _ (hx.st S) (hg.st S) hgn) fun a v w' hr F => ?_
    obtain ⟨rfl, hb⟩ := hr
    replace S := S.call hb
    refine gv F rfl rfl rfl h (y_nt rfl rfl) rfl rfl fun a F => ?_
    refine dv F (y_pkt h rfl rfl rfl) rfl rfl rfl fun a F => ?_
    refine dv F (y_as rfl rfl) rfl rfl rfl fun a F => ?_
    refine dn ?_
    refine tn <| hK3 _ _ ?_
    refine wp_ret ?_
    refine ?_
    exact rt1 F rfl rfl ⟨by simp [may, h], S.bel⟩
  · refine rg ?_
    refine dv F (y_mv rfl rfl) rfl rfl rfl fun a F => ?_
    refine dv F (y_mv rfl rfl) rfl rfl rfl fun a F => ?_
    refine gs F rfl rfl rfl h rfl rfl fun a F => ?_
    refine gs F rfl rfl rfl h rfl rfl fun a F => ?_
    refine gs F rfl rfl rfl h rfl rfl fun a F => ?_
    refine gs F rfl rfl rfl h rfl rfl fun a F => ?_
    refine dv F (y_pkf h rfl rfl rfl) rfl rfl rfl fun a F => ?_
    refine dv F (y_as rfl rfl) rfl rfl rfl fun a F => ?_
    refine dn ?_
    refine tn <| hK3 _ _ ?_
    refine wp_ret ?_
    refine ?_
    exact rt1 F rfl rfl ⟨by simp [may, h], S.bel⟩

theorem f14_c {A KA GA : Option Addr} {c kc gk : Nat} (l : List TrV) (known : List Rd) (gone : List Dig) (w0 : World) (hl : Trs w0 A l) (hln : l.length ≤ 140737488351232) (hk : Sl w0 34 encRd KA known) (hn : known.length ≤ 140737488351232) (hg : Sl w0 32 encD GA gone) (hgn : gone.length ≤ 140737488351232) :
    Calls Try.prog 14 [.slice A l.length c, .slice KA known.length kc, .slice GA gone.length gk].toArray w0 (Ret fun v w' => v = .bool (!l.any fun x => may known gone x.t) ∧ Below w0.heap.size w0 w') := by
  refine ent Try.func14 Try.ntmps14 rfl rfl ?_
  intro a F
  have S := St.refl w0
  refine sq fun K1 hK1 => ?_
  refine rg ?_
  refine dv F (y_as rfl rfl) rfl rfl rfl fun a F => ?_
  refine dn ?_
  refine tn <| hK1 _ _ ?_
  refine sq fun K2 hK2 => ?_
  refine sq fun K3 hK3 => ?_
  refine rg ?_
  refine dv F (y_as rfl rfl) rfl rfl rfl fun a F => ?_
  refine dn ?_
  refine tn <| hK3 _ _ ?_
  refine bl ?_
  refine lp (fun m a w => ∃ i : Nat, m = l.length - i ∧ (i ≤ l.length) ∧ (∀ (j : Nat) (hj : j < l.length), j < i → may known gone l[j].t = false) ∧ Fr 21 a [(0, .slice A l.length c), (1, .slice KA known.length kc), (2, .slice GA gone.length gk), (7, .int .i64 (i : Int))] ∧ St w0 w []) (l.length) ?_ ?_
  · exact ⟨0, rfl, Nat.zero_le _, fun j _ h => absurd h (Nat.not_lt_zero j), F.sub _ ⟨rfl, rfl, rfl, rfl, trivial⟩, S.pick [] _ trivial rfl⟩
  · rintro m a w ⟨i, hm, hi, hno, F, S⟩
    refine sq fun K4 hK4 => ?_
    refine sq fun K5 hK5 => ?_
    refine rg ?_
    refine dv F (y_mv rfl rfl) rfl rfl rfl fun a F => ?_
    refine dv F (y_mv rfl rfl) rfl rfl rfl fun a F => ?_
    refine dv F (y_ln rfl rfl Try.underlying22) rfl rfl rfl fun a F => ?_
    refine dv F (y_lt rfl rfl rfl) rfl rfl rfl fun a F => ?_
    refine dn ?_
    refine tn <| hK5 _ _ ?_
    refine cd F rfl (fun h1 => ?_) (fun h1 => ?_)
    · refine wp_skip ?_
      refine tn <| hK4 _ _ ?_
      refine sq fun K6 hK6 => ?_
      refine bl ?_
      refine sq fun K7 hK7 => ?_
      refine rg ?_
      refine dv F (y_mv rfl rfl) rfl rfl rfl fun a F => ?_
      refine dv F (y_mv rfl rfl) rfl rfl rfl fun a F => ?_
      have hlt : i < l.length := by omega
      obtain ⟨ab, ao, eA, hab, hcell⟩ := (hl.st S).sl.at_ hlt
      refine dv F (y_ia rfl rfl eA rfl Try.underlying22 Try.sizeOf35 i rfl hlt) rfl rfl rfl fun a F => ?_
      refine dv F (y_ld rfl rfl (lda Try.isAgg35 Try.sizeOf35 (len35 _) hcell)) rfl rfl rfl fun a F => ?_
      refine dv F (y_mv rfl rfl) rfl rfl rfl fun a F => ?_
      refine dv F (y_mv rfl rfl) rfl rfl rfl fun a F => ?_
      refine dc F (c_f rfl rfl rfl Try.call13) rfl rfl rfl (f13_c l[i] known gone _ ((hl.st S).ok _ (List.getElem_mem hlt)) (hk.st S) hn (hg.st S) hgn) fun a v w' hr F => ?_
      obtain ⟨rfl, hb⟩ := hr
      replace S := S.call hb
      refine dn ?_
      refine tn <| hK7 _ _ ?_
      refine cb F rfl (fun h2 => ?_) (fun h2 => ?_)
      · refine sq fun K8 hK8 => ?_
        refine rg ?_
        refine dv F (y_as rfl rfl) rfl rfl rfl fun a F => ?_
        refine dn ?_
        refine tn <| hK8 _ _ ?_
        refine wp_ret ?_
        refine br <| tr <| lr <| br <| tr <| ?_
        exact rt1 F rfl rfl ⟨by rw [any_hit _ l i hlt h2]; rfl, S.bel⟩
      · refine wp_skip ?_
        refine bn <| tn <| hK6 _ _ ?_
        refine rg ?_
        refine dv F (y_mv rfl rfl) rfl rfl rfl fun a F => ?_
        refine dv F (y_add rfl rfl rfl (by omega)) rfl rfl rfl fun a F => ?_
        refine dv F (y_as rfl rfl) rfl rfl rfl fun a F => ?_
        refine dn ?_
        exact ln (by omega) ⟨i + 1, rfl, by omega, allto hno hlt h2, F.sub _ ⟨rfl, rfl, rfl, rfl, trivial⟩, S.pick [] _ trivial rfl⟩
    · refine wp_exit ?_
      refine tx <| lx <| bh <| tn <| hK2 _ _ ?_
      refine sq fun K9 hK9 => ?_
      refine rg ?_
      refine dv F (y_as rfl rfl) rfl rfl rfl fun a F => ?_
      refine dn ?_
      refine tn <| hK9 _ _ ?_
      refine wp_ret ?_
      refine ?_
      exact rt1 F rfl rfl ⟨by rw [any_miss _ l fun j hj => hno j hj (by omega)]; rfl, S.bel⟩

theorem f12_c {A KA GA : Option Addr} {c kc gk : Nat} (l : List TrV) (known : List Rd) (gone : List Dig) (w0 : World) (hl : Trs w0 A l) (hln : l.length ≤ 140737488351232) (hk : Sl w0 34 encRd KA known) (hn : known.length ≤ 140737488351232) (hg : Sl w0 32 encD GA gone) (hgn : gone.length ≤ 140737488351232) :
    Calls Try.prog 12 [.slice A l.length c, .slice KA known.length kc, .slice GA gone.length gk].toArray w0 (Ret fun v w' => v = .agg (encW (refNext known gone (l.map TrV.t) 0)).toArray ∧ Below w0.heap.size w0 w') := by
  refine ent Try.func12 Try.ntmps12 rfl rfl ?_
  intro a F
  have S := St.refl w0
  refine sq fun K1 hK1 => ?_
  refine rg ?_
  refine dal F S rfl Try.zeroValue28 rfl rfl rfl rfl fun a w b6 F S => ?_
  refine dn ?_
  refine tn <| hK1 _ _ ?_
  refine sq fun K2 hK2 => ?_
  refine sq fun K3 hK3 => ?_
  refine rg ?_
  refine dv F (y_as rfl rfl) rfl rfl rfl fun a F => ?_
  refine dn ?_
  refine tn <| hK3 _ _ ?_
  refine bl ?_
  refine lp (fun m a w => ∃ i : Nat, m = l.length - i ∧ (i ≤ l.length) ∧ (refNext known gone ((l.map TrV.t).drop i) i = refNext known gone (l.map TrV.t) 0) ∧ Fr 52 a [(0, .slice A l.length c), (1, .slice KA known.length kc), (2, .slice GA gone.length gk), (6, .pointer (some ⟨b6, 0, none⟩)), (7, .int .i64 (i : Int))] ∧ St w0 w [bk b6 28 [.int .i64 0, .string ⟨#[]⟩, .int .i64 0]]) (l.length) ?_ ?_
  · exact ⟨0, rfl, Nat.zero_le _, rfl, F.sub _ ⟨rfl, rfl, rfl, rfl, rfl, trivial⟩, S.pick [0] _ ⟨rfl, trivial⟩ rfl⟩
  · rintro m a w ⟨i, hm, hi, hrest, F, S⟩
    refine sq fun K4 hK4 => ?_
    refine sq fun K5 hK5 => ?_
    refine rg ?_
    refine dv F (y_mv rfl rfl) rfl rfl rfl fun a F => ?_
    refine dv F (y_mv rfl rfl) rfl rfl rfl fun a F => ?_
    refine dv F (y_ln rfl rfl Try.underlying22) rfl rfl rfl fun a F => ?_
    refine dv F (y_lt rfl rfl rfl) rfl rfl rfl fun a F => ?_
    refine dn ?_
    refine tn <| hK5 _ _ ?_
    refine cd F rfl (fun h1 => ?_) (fun h1 => ?_)
    · refine wp_skip ?_
      refine tn <| hK4 _ _ ?_
      refine sq fun K6 hK6 => ?_
      refine bl ?_
      refine sq fun K7 hK7 => ?_
      refine sq fun K8 hK8 => ?_
      have hlt : i < l.length := by omega
      have hlm : i < (l.map TrV.t).length := by simpa using hlt
      obtain ⟨ab, ao, eA, hab, _⟩ := (hl.st S).sl.at_ hlt
      refine rg ?_
      refine dv F (y_mv rfl rfl) rfl rfl rfl fun a F => ?_
      refine dv F (y_mv rfl rfl) rfl rfl rfl fun a F => ?_
      refine dv F (y_ia rfl rfl eA rfl Try.underlying22 Try.sizeOf35 i rfl hlt) rfl rfl rfl fun a F => ?_
      refine dv F (y_ld rfl rfl (by
        obtain ⟨b', o', e, _, hcell⟩ := (hl.st S).sl.at_ hlt
        rw [eA] at e; cases e
        exact lda Try.isAgg35 Try.sizeOf35 (len35 _) hcell)) rfl rfl rfl fun a F => ?_
      refine dv F (y_mv rfl rfl) rfl rfl rfl fun a F => ?_
      refine dc F (c_f rfl rfl rfl Try.call24) rfl rfl rfl (f24_c l[i] known _ ((hl.st S).ok _ (List.getElem_mem hlt)) (hk.st S) hn) fun a v w' hr F => ?_
      obtain ⟨rfl, hb⟩ := hr
      replace S := S.call hb
      refine dv F (y_mv rfl rfl) rfl rfl rfl fun a F => ?_
      refine dv F (y_ex rfl rfl rfl) rfl rfl rfl fun a F => ?_
      refine dv F (y_ex rfl rfl rfl) rfl rfl rfl fun a F => ?_
      refine dv F (y_as rfl rfl) rfl rfl rfl fun a F => ?_
      refine dv F (y_as rfl rfl) rfl rfl rfl fun a F => ?_
      refine dn ?_
      refine tn <| hK8 _ _ ?_
      refine sq fun K9 hK9 => ?_
      refine rg ?_
      refine dv F (y_mv rfl rfl) rfl rfl rfl fun a F => ?_
      refine dn ?_
      refine tn <| hK9 _ _ ?_
      refine cb F rfl (fun h2 => ?_) (fun h2 => ?_)
      · refine sq fun K10 hK10 => ?_
        refine rg ?_
        refine dv F (y_mv rfl rfl) rfl rfl rfl fun a F => ?_
        refine dv F (y_bd rfl rfl (bd28_0_1)) rfl rfl rfl fun a F => ?_
        refine dsw F S rfl rfl rfl Try.sizeOf28 (i := 0) rfl rfl rfl rfl (all1 rfl) rfl rfl fun a w F S => ?_
        refine dn ?_
        refine tn <| hK10 _ _ ?_
        refine wp_ret ?_
        refine tr <| br <| tr <| lr <| br <| tr <| ?_
        exact rc1 F rfl rfl (S.lda (i := 0) rfl Try.isAgg28 Try.sizeOf28 rfl) ⟨by rw [← hrest, ref_ask known gone _ i hlm (by simpa using h2)]; simp only [List.getElem_map]; rfl, S.bel⟩
      · refine wp_skip ?_
        refine tn <| hK7 _ _ ?_
        refine sq fun K11 hK11 => ?_
        refine rg ?_
        refine dv F (y_mv rfl rfl) rfl rfl rfl fun a F => ?_
        refine dv F (y_mv rfl rfl) rfl rfl rfl fun a F => ?_
        refine dv F (y_ia rfl rfl eA rfl Try.underlying22 Try.sizeOf35 i rfl hlt) rfl rfl rfl fun a F => ?_
        refine dv F (y_ld rfl rfl (by
          obtain ⟨b', o', e, _, hcell⟩ := (hl.st S).sl.at_ hlt
          rw [eA] at e; cases e
          exact lda Try.isAgg35 Try.sizeOf35 (len35 _) hcell)) rfl rfl rfl fun a F => ?_
        refine dv F (y_mv rfl rfl) rfl rfl rfl fun a F => ?_
        refine dc F (c_f rfl rfl rfl Try.call25) rfl rfl rfl (f25_c l[i] known _ ((hl.st S).ok _ (List.getElem_mem hlt)) (hk.st S) hn) fun a v w' hr F => ?_
        obtain ⟨rfl, hb⟩ := hr
        replace S := S.call hb
        refine dv F (y_mv rfl rfl) rfl rfl rfl fun a F => ?_
        refine dv F (y_ex rfl rfl rfl) rfl rfl rfl fun a F => ?_
        refine dv F (y_ex rfl rfl rfl) rfl rfl rfl fun a F => ?_
        refine dv F (y_as rfl rfl) rfl rfl rfl fun a F => ?_
        refine dv F (y_as rfl rfl) rfl rfl rfl fun a F => ?_
        refine dn ?_
        refine tn <| hK11 _ _ ?_
        refine sq fun K12 hK12 => ?_
        rcases Bool.eq_false_or_eq_true (holds known l[i].t.reads).1 with h | h
        · refine rg ?_
          refine dv F (y_mv rfl rfl) rfl rfl rfl fun a F => ?_
          refine dv F (y_mv rfl rfl) rfl rfl rfl fun a F => ?_
          refine gv F rfl rfl rfl h (y_mv rfl rfl) rfl rfl fun a F => ?_
          refine gv F rfl rfl rfl h (y_mv rfl rfl) rfl rfl fun a F => ?_
          refine gv F rfl rfl rfl h (y_ia rfl rfl eA rfl Try.underlying22 Try.sizeOf35 i rfl hlt) rfl rfl fun a F => ?_
          refine gv F rfl rfl rfl h (y_ld rfl rfl (by
            obtain ⟨b', o', e, _, hcell⟩ := (hl.st S).sl.at_ hlt
            rw [eA] at e; cases e
            exact lda Try.isAgg35 Try.sizeOf35 (len35 _) hcell)) rfl rfl fun a F => ?_
          refine gv F rfl rfl rfl h (y_mv rfl rfl) rfl rfl fun a F => ?_
          refine gc F rfl rfl rfl h (c_f rfl rfl rfl Try.call26) rfl rfl (f26_c l[i] gone _ ((hl.st S).ok _ (List.getElem_mem hlt)) (hg.st S) hgn) fun a v w' hr F => ?_
          obtain ⟨rfl, hb⟩ := hr
          replace S := S.call hb
          refine gv F rfl rfl rfl h (y_nt rfl rfl) rfl rfl fun a F => ?_
          refine dv F (y_pkt h rfl rfl rfl) rfl rfl rfl fun a F => ?_
          refine dn ?_
          refine tn <| hK12 _ _ ?_
          refine cb F rfl (fun h3 => ?_) (fun h3 => ?_)
          · refine sq fun K13 hK13 => ?_
            refine rg ?_
            refine dv F (y_mv rfl rfl) rfl rfl rfl fun a F => ?_
            refine dv F (y_bd rfl rfl (bd28_0_2)) rfl rfl rfl fun a F => ?_
            refine dsw F S rfl rfl rfl Try.sizeOf28 (i := 0) rfl rfl rfl rfl (all1 rfl) rfl rfl fun a w F S => ?_
            refine dn ?_
            refine tn <| hK13 _ _ ?_
            refine wp_ret ?_
            refine br <| tr <| lr <| br <| tr <| ?_
            exact rc1 F rfl rfl (S.lda (i := 0) rfl Try.isAgg28 Try.sizeOf28 rfl) ⟨by rw [← hrest, ref_take known gone _ i hlm (by simpa using h2) (by simpa [h] using h3)]; rfl, S.bel⟩
          · refine wp_skip ?_
            refine bn <| tn <| hK6 _ _ ?_
            refine rg ?_
            refine dv F (y_mv rfl rfl) rfl rfl rfl fun a F => ?_
            refine dv F (y_add rfl rfl rfl (by omega)) rfl rfl rfl fun a F => ?_
            refine dv F (y_as rfl rfl) rfl rfl rfl fun a F => ?_
            refine dn ?_
            exact ln (by omega) ⟨i + 1, rfl, by omega, by rw [← ref_on known gone _ i hlm (by simpa using h2) (by first | (simp [h]; done) | simpa [h] using h3), hrest], F.sub _ ⟨rfl, rfl, rfl, rfl, rfl, trivial⟩, S.pick [0] _ ⟨rfl, trivial⟩ rfl⟩
        · refine rg ?_
          refine dv F (y_mv rfl rfl) rfl rfl rfl fun a F => ?_
          refine dv F (y_mv rfl rfl) rfl rfl rfl fun a F => ?_
          refine gs F rfl rfl rfl h rfl rfl fun a F => ?_
          refine gs F rfl rfl rfl h rfl rfl fun a F => ?_
          refine gs F rfl rfl rfl h rfl rfl fun a F => ?_
          refine gs F rfl rfl rfl h rfl rfl fun a F => ?_
          refine gs F rfl rfl rfl h rfl rfl fun a F => ?_
          refine gs F rfl rfl rfl h rfl rfl fun a F => ?_
          refine gs F rfl rfl rfl h rfl rfl fun a F => ?_
          refine dv F (y_pkf h rfl rfl rfl) rfl rfl rfl fun a F => ?_
          refine dn ?_
          refine tn <| hK12 _ _ ?_
          refine cf F rfl rfl ?_
          refine wp_skip ?_
          refine bn <| tn <| hK6 _ _ ?_
          refine rg ?_
          refine dv F (y_mv rfl rfl) rfl rfl rfl fun a F => ?_
          refine dv F (y_add rfl rfl rfl (by omega)) rfl rfl rfl fun a F => ?_
          refine dv F (y_as rfl rfl) rfl rfl rfl fun a F => ?_
          refine dn ?_
          exact ln (by omega) ⟨i + 1, rfl, by omega, by rw [← ref_on known gone _ i hlm (by simpa using h2) (by first | (simp [h]; done) | simpa [h] using h3), hrest], F.sub _ ⟨rfl, rfl, rfl, rfl, rfl, trivial⟩, S.pick [0] _ ⟨rfl, trivial⟩ rfl⟩
    · refine wp_exit ?_
      refine tx <| lx <| bh <| tn <| hK2 _ _ ?_
      refine sq fun K14 hK14 => ?_
      refine rg ?_
      refine dv F (y_bd rfl rfl (bd28_0)) rfl rfl rfl fun a F => ?_
      refine dsw F S rfl rfl rfl Try.sizeOf28 (i := 0) rfl rfl rfl rfl (all1 rfl) rfl rfl fun a w F S => ?_
      refine dn ?_
      refine tn <| hK14 _ _ ?_
      refine wp_ret ?_
      refine ?_
      exact rc1 F rfl rfl (S.lda (i := 0) rfl Try.isAgg28 Try.sizeOf28 rfl) ⟨by rw [← hrest, List.drop_eq_nil_of_le (by simp; omega)]; rfl, S.bel⟩

end Go.Proofs.Ytpnhinbhhpeklaa
