/- Walks of layer 27, fifth part: Next. -/
import Derived.Test.YtpnhinbhhpeklaaD4
set_option linter.unusedVariables false
set_option linter.unusedSimpArgs false
namespace Go.Proofs.Ytpnhinbhhpeklaa
open Go.RowKit Go.Eng DirtyPlain

theorem any_flip (gone : List Dig) (y : Dig) : (gone.any fun x => decide (y = x)) = gone.any (fun g => decide (g = y)) := by
  congr 1; funext x; exact decide_eq_decide.2 eq_comm
theorem idx_neg (known : List Rd) (p : ByteArray) (h : idx (fun k => decide (k.path = p)) known < 0) : seek known p = none := by
  refine look_no known p fun j hj e => ?_
  have h1 := idx_any (fun k : Rd => decide (k.path = p)) known
  rw [decide_eq_false (by omega)] at h1
  have := List.any_eq_false.1 h1.symm known[j] (List.getElem_mem hj)
  simp [e] at this
theorem idx_look (known : List Rd) (p : ByteArray) (h : ¬ idx (fun k => decide (k.path = p)) known < 0) : ∃ m : Nat, ∃ hm : m < known.length, idx (fun k => decide (k.path = p)) known = (m : Int) ∧ seek known p = some known[m] := by
  unfold idx at h ⊢
  cases he : known.findIdx? (fun k => decide (k.path = p)) with
  | none => rw [he] at h; exact absurd (by decide) h
  | some m =>
    have he' := he
    rw [List.findIdx?_eq_some_iff_getElem] at he'
    obtain ⟨hm, h1, h2⟩ := he'
    exact ⟨m, hm, rfl, look_at known p m hm (by simpa using h1) fun j hj hlt => by simpa using h2 j hlt⟩
set_option maxHeartbeats 1000000 in
theorem f11_c {A KA GA : Option Addr} {c kc gk : Nat} (l : List TrV) (known : List Rd) (gone : List Dig) (w0 : World) (hl : Trs w0 A l) (hln : l.length ≤ 140737488351232) (hk : Sl w0 34 encRd KA known) (hn : known.length ≤ 140737488351232) (hg : Sl w0 32 encD GA gone) (hgn : gone.length ≤ 140737488351232) :
    Calls Try.prog 11 [.slice A l.length c, .slice KA known.length kc, .slice GA gone.length gk].toArray w0 (Ret fun v w' => v = .agg (encW (next known gone (l.map TrV.t) 0)).toArray ∧ Below w0.heap.size w0 w') := by
  refine ent Try.func11 Try.ntmps11 rfl rfl ?_
  intro a F
  have S := St.refl w0
  refine sq fun K1 hK1 => ?_
  refine rg ?_
  refine dal F S rfl Try.zeroValue28 rfl rfl rfl rfl fun a w b6 F S => ?_
  refine dn ?_
  refine tn <| hK1 _ _ ?_
  refine sp ?_
  refine sq fun K2 hK2 => ?_
  refine wp_label ?_
  refine tn <| hK2 _ _ ?_
  refine sq fun K3 hK3 => ?_
  refine sq fun K4 hK4 => ?_
  refine rg ?_
  refine dv F (y_mv rfl rfl) rfl rfl rfl fun a F => ?_
  refine dv F (y_ln rfl rfl Try.underlying22) rfl rfl rfl fun a F => ?_
  refine dv F (y_mv rfl rfl) rfl rfl rfl fun a F => ?_
  refine dn ?_
  refine tn <| hK4 _ _ ?_
  refine bl ?_
  refine lp (fun m a w => ∃ i : Nat, m = l.length - i ∧ (i ≤ l.length) ∧ (next known gone ((l.map TrV.t).drop i) i = next known gone (l.map TrV.t) 0) ∧ Fr 61 a [(0, .slice A l.length c), (1, .slice KA known.length kc), (2, .slice GA gone.length gk), (6, .pointer (some ⟨b6, 0, none⟩)), (14, .slice A l.length c), (15, .int .i64 (l.length : Int)), (16, .int .i64 (i : Int))] ∧ St w0 w [bk b6 28 [.int .i64 0, .string ⟨#[]⟩, .int .i64 0]]) (l.length) ?_ ?_
  · exact ⟨0, rfl, Nat.zero_le _, rfl, F.sub _ ⟨rfl, rfl, rfl, rfl, rfl, rfl, rfl, trivial⟩, S.pick [0] _ ⟨rfl, trivial⟩ rfl⟩
  · rintro m a w ⟨i, hm, hi, hrest, F, S⟩
    refine sq fun K5 hK5 => ?_
    refine rg ?_
    refine dv F (y_lt rfl rfl rfl) rfl rfl rfl fun a F => ?_
    refine dn ?_
    refine tn <| hK5 _ _ ?_
    refine sq fun K6 hK6 => ?_
    refine cd F rfl (fun h1 => ?_) (fun h1 => ?_)
    · refine wp_skip ?_
      refine tn <| hK6 _ _ ?_
      refine sq fun K7 hK7 => ?_
      refine bl ?_
      refine sq fun K8 hK8 => ?_
      have hlt : i < l.length := by omega
      have hlm : i < (l.map TrV.t).length := by simpa using hlt
      obtain ⟨ab, ao, eA, hab, _⟩ := (hl.st S).sl.at_ hlt
      refine rg ?_
      refine dv F (y_mv rfl rfl) rfl rfl rfl fun a F => ?_
      refine dv F (y_ia rfl rfl eA rfl Try.underlying22 Try.sizeOf35 i rfl hlt) rfl rfl rfl fun a F => ?_
      refine dv F (y_ld rfl rfl (by
        obtain ⟨b', o', e, _, hcell⟩ := (hl.st S).sl.at_ hlt
        rw [eA] at e; cases e
        exact lda Try.isAgg35 Try.sizeOf35 (len35 _) hcell)) rfl rfl rfl fun a F => ?_
      refine dal F S rfl Try.zeroValue35 rfl rfl rfl rfl fun a w b8 F S => ?_
      refine dv F (y_as rfl rfl) rfl rfl rfl fun a F => ?_
      refine dsw F S rfl rfl rfl Try.sizeOf35 (i := 1) rfl rfl (len35 _) rfl (one35 _) rfl rfl fun a w F S => ?_
      refine dn ?_
      refine tn <| hK8 _ _ ?_
      refine sq fun K9 hK9 => ?_
      refine sq fun K10 hK10 => ?_
      have hx := hl.ok _ (List.getElem_mem hlt)
      have hlr := hx.lr
      have hlo := hx.lo
      refine rg ?_
      refine dv F (y_fa rfl rfl fi35_1) rfl rfl rfl fun a F => ?_
      refine dv F (y_ld rfl rfl (S.ld (i := 1) rfl (ntr32 _) Try.isAgg23)) rfl rfl rfl fun a F => ?_
      refine dv F (y_ln rfl rfl Try.underlying23) rfl rfl rfl fun a F => ?_
      refine dv F (y_mv rfl rfl) rfl rfl rfl fun a F => ?_
      refine dn ?_
      refine tn <| hK10 _ _ ?_
      refine bl ?_
      refine lp (fun m a w => ∃ j : Nat, m = l[i].t.reads.length - j ∧ (j ≤ l[i].t.reads.length) ∧ (scan known (l[i].t.reads.take j) = .ok) ∧ Fr 61 a [(0, .slice A l.length c), (1, .slice KA known.length kc), (2, .slice GA gone.length gk), (6, .pointer (some ⟨b6, 0, none⟩)), (14, .slice A l.length c), (15, .int .i64 (l.length : Int)), (16, .int .i64 (i : Int)), (7, .int .i64 (i : Int)), (8, .pointer (some ⟨b8, 0, none⟩)), (22, .slice l[i].RA l[i].t.reads.length l[i].Rc), (23, .int .i64 (l[i].t.reads.length : Int)), (24, .int .i64 (j : Int))] ∧ St w0 w [bk b6 28 [.int .i64 0, .string ⟨#[]⟩, .int .i64 0], bk b8 35 (encTr l[i])]) (l[i].t.reads.length) ?_ ?_
      · exact ⟨0, rfl, Nat.zero_le _, rfl, F.sub _ ⟨rfl, rfl, rfl, rfl, rfl, rfl, rfl, rfl, rfl, rfl, rfl, rfl, trivial⟩, S.pick [0, 1] _ ⟨rfl, rfl, trivial⟩ rfl⟩
      · rintro m a w ⟨j, hm, hj, hok, F, S⟩
        refine sq fun K11 hK11 => ?_
        refine rg ?_
        refine dv F (y_lt rfl rfl rfl) rfl rfl rfl fun a F => ?_
        refine dn ?_
        refine tn <| hK11 _ _ ?_
        refine sq fun K12 hK12 => ?_
        refine cd F rfl (fun h2 => ?_) (fun h2 => ?_)
        · refine wp_skip ?_
          refine tn <| hK12 _ _ ?_
          refine sq fun K13 hK13 => ?_
          refine bl ?_
          refine sq fun K14 hK14 => ?_
          have hj2 : j < l[i].t.reads.length := by omega
          obtain ⟨rb, ro, eR, hrb, _⟩ := (hx.st S).rd.at_ hj2
          refine rg ?_
          refine dv F (y_ia rfl rfl eR rfl Try.underlying23 Try.sizeOf37 j rfl hj2) rfl rfl rfl fun a F => ?_
          refine dv F (y_ld rfl rfl (by
            obtain ⟨b', o', e, _, hcell⟩ := (hx.st S).rd.at_ hj2
            rw [eR] at e; cases e
            exact lda Try.isAgg37 Try.sizeOf37 (len37 _) hcell)) rfl rfl rfl fun a F => ?_
          refine dal F S rfl Try.zeroValue37 rfl rfl rfl rfl fun a w b10 F S => ?_
          refine dsw F S rfl rfl rfl Try.sizeOf37 (i := 2) rfl rfl (len37 _) rfl (one37 _) rfl rfl fun a w F S => ?_
          refine dn ?_
          refine tn <| hK14 _ _ ?_
          refine sq fun K15 hK15 => ?_
          refine rg ?_
          refine dv F (y_mv rfl rfl) rfl rfl rfl fun a F => ?_
          refine dv F (y_mf rfl rfl) rfl rfl rfl fun a F => ?_
          refine dc F (c_f rfl rfl rfl Try.call21) rfl rfl rfl (f21_c (c := kc) _ (fun k => decide (k.path = l[i].t.reads[j].path)) 22 [Value.pointer (some ⟨b10, 0, none⟩)] Try.call22 (fun y W hB => f22_c y l[i].t.reads[j] b10 W ((hB.block b10 ((S.own 2 _ rfl).2 b10 rfl).2).trans (S.ok (i := 2) rfl))) (hk.st S) hn) fun a v w' hr F => ?_
          obtain ⟨rfl, hb⟩ := hr
          replace S := S.call hb
          refine dv F (y_as rfl rfl) rfl rfl rfl fun a F => ?_
          refine dn ?_
          refine tn <| hK15 _ _ ?_
          refine bl ?_
          refine sq fun K16 hK16 => ?_
          refine rg ?_
          refine dv F (y_mv rfl rfl) rfl rfl rfl fun a F => ?_
          refine dv F (y_lt rfl rfl rfl) rfl rfl rfl fun a F => ?_
          refine dv F (y_as rfl rfl) rfl rfl rfl fun a F => ?_
          refine dn ?_
          refine tn <| hK16 _ _ ?_
          refine cd F rfl (fun h3 => ?_) (fun h3 => ?_)
          · refine sq fun K17 hK17 => ?_
            refine rg ?_
            refine dv F (y_fa rfl rfl fi37_0) rfl rfl rfl fun a F => ?_
            refine dv F (y_ld rfl rfl (S.ld (i := 2) rfl rfl Try.isAgg9)) rfl rfl rfl fun a F => ?_
            refine dv F (y_bd rfl rfl (bd28_0_1)) rfl rfl rfl fun a F => ?_
            refine dsw F S rfl rfl rfl Try.sizeOf28 (i := 0) rfl rfl rfl rfl (all1 rfl) rfl rfl fun a w F S => ?_
            refine dn ?_
            refine tn <| hK17 _ _ ?_
            refine wp_ret ?_
            refine br <| br <| tr <| lr <| br <| tr <| br <| tr <| lr <| br <| tr <| sr <| ?_
            exact rc1 F rfl rfl (S.lda (i := 0) rfl Try.isAgg28 Try.sizeOf28 rfl) ⟨by rw [← hrest, next_ask known gone _ i hlm (by simpa using scan_ask known _ j hj2 hok (idx_neg known _ h3))]; rfl, S.bel⟩
          · refine sq fun K18 hK18 => ?_
            obtain ⟨m, hm, eidx, hlk⟩ := idx_look known l[i].t.reads[j].path h3
            obtain ⟨kb, ko, eK, hkb, _⟩ := (hk.st S).at_ hm
            refine rq (C := fun w => St _ w _) Try.mixed (by kernel_rfl) (S.drewN 1) ?_
            refine qv F (fun w S => y_mv rfl rfl) rfl rfl rfl fun a F => ?_
            refine qv F (fun w S => y_mv rfl rfl) rfl rfl rfl fun a F => ?_
            refine qv F (fun w S => y_ia rfl rfl eK rfl Try.underlying23 Try.sizeOf37 m eidx hm) rfl rfl rfl fun a F => ?_
            refine qv F (fun w S => y_ld rfl rfl (by
              obtain ⟨b', o', e, _, hcell⟩ := (hk.st S).at_ hm
              rw [eK] at e; cases e
              exact lda Try.isAgg37 Try.sizeOf37 (len37 _) hcell)) rfl rfl rfl fun a F => ?_
            refine qv F (fun w S => y_ld rfl rfl (S.lda (i := 2) rfl Try.isAgg37 Try.sizeOf37 (len37 _))) rfl rfl rfl fun a F => ?_
            refine qv F (fun w S => y_ne37 rfl rfl rfl) rfl rfl rfl fun a F => ?_
            refine qv F (fun w S => y_as rfl rfl) rfl rfl rfl fun a F => ?_
            refine qn fun w S => ?_
            refine tn <| hK18 _ _ ?_
            refine cb F rfl (fun h5 => ?_) (fun h5 => ?_)
            · have hstep : next known gone ((l.map TrV.t).drop (i + 1)) (i + 1) = next known gone (l.map TrV.t) 0 := by
                rw [← next_fail known gone _ i hlm (by simpa using scan_fail known _ j hj2 hok _ hlk (by simpa using h5)), hrest]
              refine wp_exit ?_
              refine bm rfl <| bm rfl <| tx <| lx <| bm rfl <| tx <| bh <| tn <| hK7 _ _ ?_
              refine rg ?_
              refine dv F (y_add rfl rfl rfl (by omega)) rfl rfl rfl fun a F => ?_
              refine dv F (y_mv rfl rfl) rfl rfl rfl fun a F => ?_
              refine dn ?_
              exact ln (by omega) ⟨i + 1, rfl, by omega, hstep, F.sub _ ⟨rfl, rfl, rfl, rfl, rfl, rfl, rfl, trivial⟩, S.pick [0] _ ⟨rfl, trivial⟩ rfl⟩
            · refine wp_skip ?_
              refine bn <| bn <| tn <| hK13 _ _ ?_
              refine rg ?_
              refine dv F (y_add rfl rfl rfl (by omega)) rfl rfl rfl fun a F => ?_
              refine dv F (y_mv rfl rfl) rfl rfl rfl fun a F => ?_
              refine dn ?_
              exact ln (by omega) ⟨j + 1, rfl, by omega, scan_ok known _ j hj2 hok (by rw [hlk]; congr 1; simpa using h5), F.sub _ ⟨rfl, rfl, rfl, rfl, rfl, rfl, rfl, rfl, rfl, rfl, rfl, rfl, trivial⟩, S.pick [0, 1] _ ⟨rfl, rfl, trivial⟩ rfl⟩
        · refine wp_exit ?_
          refine tx <| lx <| bh <| tn <| hK9 _ _ ?_
          refine sq fun K19 hK19 => ?_
          refine sq fun K20 hK20 => ?_
          have hsok : scan known l[i].t.reads = .ok := by
            rw [← List.take_of_length_le (show l[i].t.reads.length ≤ j by omega)]; exact hok
          refine rg ?_
          refine dv F (y_fa rfl rfl fi35_2) rfl rfl rfl fun a F => ?_
          refine dv F (y_ld rfl rfl (S.ld (i := 1) rfl (ntr33 _) Try.isAgg33)) rfl rfl rfl fun a F => ?_
          refine dv F (y_ln rfl rfl Try.underlying33) rfl rfl rfl fun a F => ?_
          refine dv F (y_mv rfl rfl) rfl rfl rfl fun a F => ?_
          refine dn ?_
          refine tn <| hK20 _ _ ?_
          refine bl ?_
          refine lp (fun m a w => ∃ k : Nat, m = l[i].t.outs.length - k ∧ (k ≤ l[i].t.outs.length) ∧ (∀ (j : Nat) (hj : j < l[i].t.outs.length), j < k → gone.any (fun g => decide (g = l[i].t.outs[j].sum)) = false) ∧ Fr 61 a [(0, .slice A l.length c), (1, .slice KA known.length kc), (2, .slice GA gone.length gk), (6, .pointer (some ⟨b6, 0, none⟩)), (14, .slice A l.length c), (15, .int .i64 (l.length : Int)), (16, .int .i64 (i : Int)), (7, .int .i64 (i : Int)), (8, .pointer (some ⟨b8, 0, none⟩)), (46, .slice l[i].OA l[i].t.outs.length l[i].Oc), (47, .int .i64 (l[i].t.outs.length : Int)), (48, .int .i64 (k : Int))] ∧ St w0 w [bk b6 28 [.int .i64 0, .string ⟨#[]⟩, .int .i64 0], bk b8 35 (encTr l[i])]) (l[i].t.outs.length) ?_ ?_
          · exact ⟨0, rfl, Nat.zero_le _, fun j _ h => absurd h (Nat.not_lt_zero j), F.sub _ ⟨rfl, rfl, rfl, rfl, rfl, rfl, rfl, rfl, rfl, rfl, rfl, rfl, trivial⟩, S.pick [0, 1] _ ⟨rfl, rfl, trivial⟩ rfl⟩
          · rintro m a w ⟨k, hm, hk1, hno, F, S⟩
            refine sq fun K21 hK21 => ?_
            refine rg ?_
            refine dv F (y_lt rfl rfl rfl) rfl rfl rfl fun a F => ?_
            refine dn ?_
            refine tn <| hK21 _ _ ?_
            refine sq fun K22 hK22 => ?_
            refine cd F rfl (fun h4 => ?_) (fun h4 => ?_)
            · refine wp_skip ?_
              refine tn <| hK22 _ _ ?_
              refine sq fun K23 hK23 => ?_
              refine bl ?_
              refine sq fun K24 hK24 => ?_
              have hk2 : k < l[i].t.outs.length := by omega
              obtain ⟨rb, ro, eR, hrb, _⟩ := (hx.st S).md.at_ hk2
              refine rg ?_
              refine dv F (y_ia rfl rfl eR rfl Try.underlying33 Try.sizeOf58 k rfl hk2) rfl rfl rfl fun a F => ?_
              refine dv F (y_ld rfl rfl (by
                obtain ⟨b', o', e, _, hcell⟩ := (hx.st S).md.at_ hk2
                rw [eR] at e; cases e
                exact lda Try.isAgg58 Try.sizeOf58 (len58 _) hcell)) rfl rfl rfl fun a F => ?_
              refine dal F S rfl Try.zeroValue58 rfl rfl rfl rfl fun a w b13 F S => ?_
              refine dsw F S rfl rfl rfl Try.sizeOf58 (i := 2) rfl rfl (len58 _) rfl (one58 _) rfl rfl fun a w F S => ?_
              refine dn ?_
              refine tn <| hK24 _ _ ?_
              refine sq fun K25 hK25 => ?_
              refine rg ?_
              refine dv F (y_mv rfl rfl) rfl rfl rfl fun a F => ?_
              refine dv F (y_fa rfl rfl fi58_1) rfl rfl rfl fun a F => ?_
              refine dv F (y_ld rfl rfl (lda Try.isAgg32 Try.sizeOf32 (len32 _) (fun j v hv => S.cell (i := 2) rfl (by rw [nth_eq, show 0 + 1 + j = j + 1 by omega]; exact hv)))) rfl rfl rfl fun a F => ?_
              refine dc F (c_f rfl rfl rfl Try.call23) rfl rfl rfl (f23_c _ l[i].t.outs[k].sum (hg.st S) hgn) fun a v w' hr F => ?_
              obtain ⟨rfl, hb⟩ := hr
              replace S := S.call hb
              refine dn ?_
              refine tn <| hK25 _ _ ?_
              refine cb F rfl (fun h6 => ?_) (fun h6 => ?_)
              · have hstep : next known gone ((l.map TrV.t).drop (i + 1)) (i + 1) = next known gone (l.map TrV.t) 0 := by
                  rw [← next_gone known gone _ i hlm (by simpa using hsok) (by simpa using (show goneB l[i].t gone = true by rw [goneB]; exact any_hit (fun m : Md => gone.any fun g => decide (g = m.sum)) _ k hk2 (by rw [← any_flip]; exact h6))), hrest]
                refine wp_exit ?_
                refine bm rfl <| tx <| lx <| bm rfl <| tx <| bh <| tn <| hK7 _ _ ?_
                refine rg ?_
                refine dv F (y_add rfl rfl rfl (by omega)) rfl rfl rfl fun a F => ?_
                refine dv F (y_mv rfl rfl) rfl rfl rfl fun a F => ?_
                refine dn ?_
                exact ln (by omega) ⟨i + 1, rfl, by omega, hstep, F.sub _ ⟨rfl, rfl, rfl, rfl, rfl, rfl, rfl, trivial⟩, S.pick [0] _ ⟨rfl, trivial⟩ rfl⟩
              · refine wp_skip ?_
                refine bn <| tn <| hK23 _ _ ?_
                refine rg ?_
                refine dv F (y_add rfl rfl rfl (by omega)) rfl rfl rfl fun a F => ?_
                refine dv F (y_mv rfl rfl) rfl rfl rfl fun a F => ?_
                refine dn ?_
                exact ln (by omega) ⟨k + 1, rfl, by omega, allto hno hk2 (by rw [← any_flip]; exact h6), F.sub _ ⟨rfl, rfl, rfl, rfl, rfl, rfl, rfl, rfl, rfl, rfl, rfl, rfl, trivial⟩, S.pick [0, 1] _ ⟨rfl, rfl, trivial⟩ rfl⟩
            · refine wp_exit ?_
              refine tx <| lx <| bh <| tn <| hK19 _ _ ?_
              refine sq fun K26 hK26 => ?_
              refine rg ?_
              refine dv F (y_mv rfl rfl) rfl rfl rfl fun a F => ?_
              refine dv F (y_bd rfl rfl (bd28_0_2)) rfl rfl rfl fun a F => ?_
              refine dsw F S rfl rfl rfl Try.sizeOf28 (i := 0) rfl rfl rfl rfl (all1 rfl) rfl rfl fun a w F S => ?_
              refine dn ?_
              refine tn <| hK26 _ _ ?_
              refine wp_ret ?_
              refine br <| tr <| lr <| br <| tr <| sr <| ?_
              exact rc1 F rfl rfl (S.lda (i := 0) rfl Try.isAgg28 Try.sizeOf28 rfl) ⟨by rw [← hrest, next_take known gone _ i hlm (by simpa using hsok) (by simpa using (show goneB l[i].t gone = false by rw [goneB]; exact any_miss (fun m : Md => gone.any fun g => decide (g = m.sum)) _ fun j hj => hno j hj (by omega)))]; rfl, S.bel⟩
    · refine wp_exit ?_
      refine tx <| lx <| bh <| tn <| hK3 _ _ ?_
      refine sq fun K27 hK27 => ?_
      refine rg ?_
      refine dv F (y_bd rfl rfl (bd28_0)) rfl rfl rfl fun a F => ?_
      refine dsw F S rfl rfl rfl Try.sizeOf28 (i := 0) rfl rfl rfl rfl (all1 rfl) rfl rfl fun a w F S => ?_
      refine dn ?_
      refine tn <| hK27 _ _ ?_
      refine wp_ret ?_
      refine sr <| ?_
      exact rc1 F rfl rfl (S.lda (i := 0) rfl Try.isAgg28 Try.sizeOf28 rfl) ⟨by rw [← hrest, List.drop_eq_nil_of_le (by simp; omega)]; rfl, S.bel⟩

end Go.Proofs.Ytpnhinbhhpeklaa
