/- Walks of layer 27, third part. -/
import Derived.Test.YtpnhinbhhpeklaaD2
set_option linter.unusedVariables false
set_option linter.unusedSimpArgs false
namespace Go.Proofs.Ytpnhinbhhpeklaa
open Go.RowKit Go.Eng DirtyPlain
theorem fi58_1 : FieldIs Try.prog 58 1 1 := fieldIs (z := 31) Try.underlying58 rfl rfl rfl Try.sizeOf32
/-- what 'at' says when all from k on has been looked at -/
def AtP (known : List Rd) (p : ByteArray) (k : Nat) (at_ : Int) : Prop :=
  (at_ = -1 ∧ ∀ (j : Nat) (hj : j < known.length), k ≤ j → known[j].path ≠ p) ∨
  (∃ m : Nat, ∃ hm : m < known.length, at_ = (m : Int) ∧ k ≤ m ∧ known[m].path = p ∧ ∀ (j : Nat) (hj : j < known.length), k ≤ j → j < m → known[j].path ≠ p)
theorem atp_none (known : List Rd) (p : ByteArray) (at_ : Int) (h : AtP known p 0 at_) (hneg : at_ < 0) : seek known p = none := by
  rcases h with ⟨_, h⟩ | ⟨m, hm, rfl, _⟩
  · exact look_no known p fun j hj => h j hj (Nat.zero_le _)
  · omega
theorem atp_some (known : List Rd) (p : ByteArray) (at_ : Int) (h : AtP known p 0 at_) (hneg : ¬ at_ < 0) : ∃ m : Nat, ∃ hm : m < known.length, at_ = (m : Int) ∧ seek known p = some known[m] := by
  rcases h with ⟨rfl, h⟩ | ⟨m, hm, rfl, _, h1, h2⟩
  · omega
  · exact ⟨m, hm, rfl, look_at known p m hm h1 fun j hj hlt => h2 j hj (Nat.zero_le _) hlt⟩
theorem atp_step (known : List Rd) (p : ByteArray) (k : Nat) (at_ : Int) (hk0 : 0 < k) (hk : k ≤ known.length) (h : AtP known p k at_) (hne : ¬ known[k - 1].path = p) : AtP known p (k - 1) at_ := by
  rcases h with ⟨e, h⟩ | ⟨m, hm, e, hle, h1, h2⟩
  · refine .inl ⟨e, fun j hj hle => ?_⟩
    by_cases e' : j = k - 1
    · subst e'; exact hne
    · exact h j hj (by omega)
  · refine .inr ⟨m, hm, e, by omega, h1, fun j hj hle' hlt => ?_⟩
    by_cases e' : j = k - 1
    · subst e'; exact hne
    · exact h2 j hj (by omega) hlt
theorem atp_hit (known : List Rd) (p : ByteArray) (k : Nat) (hk0 : 0 < k) (hk : k ≤ known.length) (h : known[k - 1].path = p) : AtP known p (k - 1) ((k : Int) - 1) :=
  .inr ⟨k - 1, by omega, by omega, Nat.le_refl _, h, fun j hj h1 h2 => by omega⟩
theorem f25_c {KA : Option Addr} {kc : Nat} (x : TrV) (known : List Rd) (w0 : World) (hx : TrOk w0 x) (hk : Sl w0 34 encRd KA known) (hn : known.length ≤ 140737488351232) :
    Calls Try.prog 25 [.agg (encTr x).toArray, .slice KA known.length kc].toArray w0 (Ret fun v w' => v = .tuple [.bool (holds known x.t.reads).1, .string (holds known x.t.reads).2].toArray ∧ Below w0.heap.size w0 w') := by
  have hlr := hx.lr
  refine ent Try.func25 Try.ntmps25 rfl rfl ?_
  intro a F
  have S := St.refl w0
  refine sq fun K1 hK1 => ?_
  refine rg ?_
  refine dbx F S rfl rfl rfl rfl rfl rfl fun a w b2 F S => ?_
  refine dv F (y_as rfl rfl) rfl rfl rfl fun a F => ?_
  refine dv F (y_as rfl rfl) rfl rfl rfl fun a F => ?_
  refine dn ?_
  refine tn <| hK1 _ _ ?_
  refine sq fun K2 hK2 => ?_
  refine sq fun K3 hK3 => ?_
  refine rg ?_
  refine dv F (y_as rfl rfl) rfl rfl rfl fun a F => ?_
  refine dn ?_
  refine tn <| hK3 _ _ ?_
  refine bl ?_
  refine lp (fun m a w => ∃ i : Nat, m = x.t.reads.length - i ∧ (i ≤ x.t.reads.length) ∧ (scan known (x.t.reads.take i) = .ok) ∧ Fr 54 a [(1, .slice KA known.length kc), (2, .pointer (some ⟨b2, 0, none⟩)), (6, .int .i64 (i : Int))] ∧ St w0 w [bk b2 35 (encTr x)]) (x.t.reads.length) ?_ ?_
  · exact ⟨0, rfl, Nat.zero_le _, rfl, F.sub _ ⟨rfl, rfl, rfl, trivial⟩, S.pick [0] _ ⟨rfl, trivial⟩ rfl⟩
  · rintro m a w ⟨i, hm, hi, hok, F, S⟩
    refine sq fun K4 hK4 => ?_
    refine sq fun K5 hK5 => ?_
    refine rg ?_
    refine dv F (y_mv rfl rfl) rfl rfl rfl fun a F => ?_
    refine dv F (y_fa rfl rfl fi35_1) rfl rfl rfl fun a F => ?_
    refine dv F (y_ld rfl rfl (S.ld (i := 0) rfl (ntr32 _) Try.isAgg23)) rfl rfl rfl fun a F => ?_
    refine dv F (y_ln rfl rfl Try.underlying23) rfl rfl rfl fun a F => ?_
    refine dv F (y_lt rfl rfl rfl) rfl rfl rfl fun a F => ?_
    refine dn ?_
    refine tn <| hK5 _ _ ?_
    refine cd F rfl (fun h1 => ?_) (fun h1 => ?_)
    · refine wp_skip ?_
      refine tn <| hK4 _ _ ?_
      refine sq fun K6 hK6 => ?_
      refine bl ?_
      refine sq fun K7 hK7 => ?_
      have hlt : i < x.t.reads.length := by omega
      refine rg ?_
      refine dv F (y_as rfl rfl) rfl rfl rfl fun a F => ?_
      refine dn ?_
      refine tn <| hK7 _ _ ?_
      refine sq fun K8 hK8 => ?_
      refine sq fun K9 hK9 => ?_
      refine rg ?_
      refine dv F (y_mv rfl rfl) rfl rfl rfl fun a F => ?_
      refine dv F (y_ln rfl rfl Try.underlying23) rfl rfl rfl fun a F => ?_
      refine dv F (y_sub rfl rfl rfl (by omega)) rfl rfl rfl fun a F => ?_
      refine dv F (y_as rfl rfl) rfl rfl rfl fun a F => ?_
      refine dn ?_
      refine tn <| hK9 _ _ ?_
      refine bl ?_
      refine lp (fun m a w => ∃ (k : Nat) (at_ : Int), m = k ∧ (k ≤ known.length) ∧ (AtP known x.t.reads[i].path k at_) ∧ Fr 54 a [(1, .slice KA known.length kc), (2, .pointer (some ⟨b2, 0, none⟩)), (6, .int .i64 (i : Int)), (7, .int .i64 at_), (8, .int .i64 ((k : Int) - 1))] ∧ St w0 w [bk b2 35 (encTr x)]) (known.length) ?_ ?_
      · exact ⟨known.length, -1, rfl, Nat.le_refl _, .inl ⟨rfl, fun j hj h => by omega⟩, F.sub _ ⟨rfl, rfl, rfl, rfl, rfl, trivial⟩, S.pick [0] _ ⟨rfl, trivial⟩ rfl⟩
      · rintro m a w ⟨k, at_, hm, hk1, hat, F, S⟩
        refine sq fun K10 hK10 => ?_
        refine sq fun K11 hK11 => ?_
        refine rg ?_
        refine dv F (y_mv rfl rfl) rfl rfl rfl fun a F => ?_
        refine dv F (y_ge rfl rfl rfl) rfl rfl rfl fun a F => ?_
        refine dn ?_
        refine tn <| hK11 _ _ ?_
        refine cd F rfl (fun h2 => ?_) (fun h2 => ?_)
        · refine wp_skip ?_
          refine tn <| hK10 _ _ ?_
          refine sq fun K12 hK12 => ?_
          refine bl ?_
          refine sq fun K13 hK13 => ?_
          have hk0 : 0 < k := by omega
          obtain ⟨kb, ko, eK, hkb, _⟩ := (hk.st S).at_ (j := k - 1) (by omega)
          obtain ⟨ab, ao, eA, hab, _⟩ := (hx.rd.st S).at_ hlt
          refine rq (C := fun w => St _ w _) Try.mixed (by kernel_rfl) (S.drewN 1) ?_
          refine qv F (fun w S => y_mv rfl rfl) rfl rfl rfl fun a F => ?_
          refine qv F (fun w S => y_mv rfl rfl) rfl rfl rfl fun a F => ?_
          refine qv F (fun w S => y_ia rfl rfl eK rfl Try.underlying23 Try.sizeOf37 (k - 1) (by omega) (by omega)) rfl rfl rfl fun a F => ?_
          refine qv F (fun w S => y_fa rfl rfl fi37_0) rfl rfl rfl fun a F => ?_
          refine qv F (fun w S => y_ld rfl rfl (by
            obtain ⟨b', o', e, _, hcell⟩ := (hk.st S).at_ (j := k - 1) (by omega)
            rw [eK] at e; cases e
            exact ld1 Try.isAgg9 (hcell 0 _ rfl))) rfl rfl rfl fun a F => ?_
          refine qv F (fun w S => y_fa rfl rfl fi35_1) rfl rfl rfl fun a F => ?_
          refine qv F (fun w S => y_ld rfl rfl (S.ld (i := 0) rfl (ntr32 x) Try.isAgg23)) rfl rfl rfl fun a F => ?_
          refine qv F (fun w S => y_mv rfl rfl) rfl rfl rfl fun a F => ?_
          refine qv F (fun w S => y_ia rfl rfl eA rfl Try.underlying23 Try.sizeOf37 i rfl hlt) rfl rfl rfl fun a F => ?_
          refine qv F (fun w S => y_fa rfl rfl fi37_0) rfl rfl rfl fun a F => ?_
          refine qv F (fun w S => y_ld rfl rfl (by
            obtain ⟨b', o', e, _, hcell⟩ := (hx.rd.st S).at_ hlt
            rw [eA] at e; cases e
            exact ld1 Try.isAgg9 (hcell 0 _ rfl))) rfl rfl rfl fun a F => ?_
          refine qv F (fun w S => y_se rfl rfl rfl) rfl rfl rfl fun a F => ?_
          refine qn fun w S => ?_
          refine tn <| hK13 _ _ ?_
          refine cd F rfl (fun h3 => ?_) (fun h3 => ?_)
          · refine rg ?_
            refine dv F (y_mv rfl rfl) rfl rfl rfl fun a F => ?_
            refine dv F (y_as rfl rfl) rfl rfl rfl fun a F => ?_
            refine dn ?_
            refine bn <| tn <| hK12 _ _ ?_
            refine rg ?_
            refine dv F (y_mv rfl rfl) rfl rfl rfl fun a F => ?_
            refine dv F (y_sub rfl rfl rfl (by omega)) rfl rfl rfl fun a F => ?_
            refine dv F (y_as rfl rfl) rfl rfl rfl fun a F => ?_
            refine dn ?_
            have ec : (((k - 1 : Nat) : Int)) = (k : Int) - 1 := by omega
            have F := F.sub [(1, _), (2, _), (6, _), (7, _), (8, Value.int .i64 (((k - 1 : Nat) : Int) - 1))] ⟨rfl, rfl, rfl, rfl, by rw [ec]; rfl, trivial⟩
            exact ln (by omega) ⟨k - 1, _, rfl, by omega, (by first | exact atp_step known _ k at_ hk0 hk1 hat h3 | exact atp_hit known _ k hk0 hk1 h3), F.sub _ ⟨rfl, rfl, rfl, rfl, rfl, trivial⟩, S.pick [0] _ ⟨rfl, trivial⟩ rfl⟩
          · refine wp_skip ?_
            refine bn <| tn <| hK12 _ _ ?_
            refine rg ?_
            refine dv F (y_mv rfl rfl) rfl rfl rfl fun a F => ?_
            refine dv F (y_sub rfl rfl rfl (by omega)) rfl rfl rfl fun a F => ?_
            refine dv F (y_as rfl rfl) rfl rfl rfl fun a F => ?_
            refine dn ?_
            have ec : (((k - 1 : Nat) : Int)) = (k : Int) - 1 := by omega
            have F := F.sub [(1, _), (2, _), (6, _), (7, _), (8, Value.int .i64 (((k - 1 : Nat) : Int) - 1))] ⟨rfl, rfl, rfl, rfl, by rw [ec]; rfl, trivial⟩
            exact ln (by omega) ⟨k - 1, _, rfl, by omega, (by first | exact atp_step known _ k at_ hk0 hk1 hat h3 | exact atp_hit known _ k hk0 hk1 h3), F.sub _ ⟨rfl, rfl, rfl, rfl, rfl, trivial⟩, S.pick [0] _ ⟨rfl, trivial⟩ rfl⟩
        · refine wp_exit ?_
          refine tx <| lx <| bh <| tn <| hK8 _ _ ?_
          refine sq fun K14 hK14 => ?_
          refine sq fun K15 hK15 => ?_
          have hat0 : AtP known x.t.reads[i].path 0 at_ := by
            rw [show (0 : Nat) = k by omega]; exact hat
          refine rg ?_
          refine dv F (y_mv rfl rfl) rfl rfl rfl fun a F => ?_
          refine dv F (y_lt rfl rfl rfl) rfl rfl rfl fun a F => ?_
          refine dn ?_
          refine tn <| hK15 _ _ ?_
          refine cd F rfl (fun h4 => ?_) (fun h4 => ?_)
          · refine sq fun K16 hK16 => ?_
            have hl4 := atp_none known _ _ hat0 (by omega)
            obtain ⟨ab, ao, eA, hab, _⟩ := (hx.rd.st S).at_ hlt
            refine rq (C := fun w => St _ w _) Try.mixed (by kernel_rfl) (S.drewN 1) ?_
            refine qv F (fun w S => y_fa rfl rfl fi35_1) rfl rfl rfl fun a F => ?_
            refine qv F (fun w S => y_ld rfl rfl (S.ld (i := 0) rfl (ntr32 x) Try.isAgg23)) rfl rfl rfl fun a F => ?_
            refine qv F (fun w S => y_mv rfl rfl) rfl rfl rfl fun a F => ?_
            refine qv F (fun w S => y_ia rfl rfl eA rfl Try.underlying23 Try.sizeOf37 i rfl hlt) rfl rfl rfl fun a F => ?_
            refine qv F (fun w S => y_fa rfl rfl fi37_0) rfl rfl rfl fun a F => ?_
            refine qv F (fun w S => y_ld rfl rfl (by
              obtain ⟨b', o', e, _, hcell⟩ := (hx.rd.st S).at_ hlt
              rw [eA] at e; cases e
              exact ld1 Try.isAgg9 (hcell 0 _ rfl))) rfl rfl rfl fun a F => ?_
            refine qv F (fun w S => y_as rfl rfl) rfl rfl rfl fun a F => ?_
            refine qv F (fun w S => y_as rfl rfl) rfl rfl rfl fun a F => ?_
            refine qn fun w S => ?_
            refine tn <| hK16 _ _ ?_
            refine wp_ret ?_
            refine tr <| br <| tr <| lr <| br <| tr <| ?_
            exact rt2 F rfl rfl rfl ⟨by rw [holds, scan_ask known _ i hlt hok hl4], S.bel⟩
          · refine wp_skip ?_
            refine tn <| hK14 _ _ ?_
            refine sq fun K17 hK17 => ?_
            obtain ⟨m, hm, hat3, hat4⟩ := atp_some known _ _ hat0 (by omega)
            obtain ⟨kb, ko, eK, hkb, _⟩ := (hk.st S).at_ hm
            obtain ⟨ab, ao, eA, hab, _⟩ := (hx.rd.st S).at_ hlt
            refine rq (C := fun w => St _ w _) Try.mixed (by kernel_rfl) (S.drewN 1) ?_
            refine qv F (fun w S => y_mv rfl rfl) rfl rfl rfl fun a F => ?_
            refine qv F (fun w S => y_mv rfl rfl) rfl rfl rfl fun a F => ?_
            refine qv F (fun w S => y_ia rfl rfl eK rfl Try.underlying23 Try.sizeOf37 m hat3 hm) rfl rfl rfl fun a F => ?_
            refine qv F (fun w S => y_ld rfl rfl (by
              obtain ⟨b', o', e, _, hcell⟩ := (hk.st S).at_ hm
              rw [eK] at e; cases e
              exact lda Try.isAgg37 Try.sizeOf37 (len37 _) hcell)) rfl rfl rfl fun a F => ?_
            refine qv F (fun w S => y_fa rfl rfl fi35_1) rfl rfl rfl fun a F => ?_
            refine qv F (fun w S => y_ld rfl rfl (S.ld (i := 0) rfl (ntr32 x) Try.isAgg23)) rfl rfl rfl fun a F => ?_
            refine qv F (fun w S => y_mv rfl rfl) rfl rfl rfl fun a F => ?_
            refine qv F (fun w S => y_ia rfl rfl eA rfl Try.underlying23 Try.sizeOf37 i rfl hlt) rfl rfl rfl fun a F => ?_
            refine qv F (fun w S => y_ld rfl rfl (by
              obtain ⟨b', o', e, _, hcell⟩ := (hx.rd.st S).at_ hlt
              rw [eA] at e; cases e
              exact lda Try.isAgg37 Try.sizeOf37 (len37 _) hcell)) rfl rfl rfl fun a F => ?_
            refine qv F (fun w S => y_ne37 rfl rfl rfl) rfl rfl rfl fun a F => ?_
            refine qn fun w S => ?_
            refine tn <| hK17 _ _ ?_
            refine cb F rfl (fun h5 => ?_) (fun h5 => ?_)
            · refine sq fun K18 hK18 => ?_
              refine rg ?_
              refine dv F (y_as rfl rfl) rfl rfl rfl fun a F => ?_
              refine dv F (y_as rfl rfl) rfl rfl rfl fun a F => ?_
              refine dn ?_
              refine tn <| hK18 _ _ ?_
              refine wp_ret ?_
              refine br <| tr <| lr <| br <| tr <| ?_
              exact rt2 F rfl rfl rfl ⟨by rw [holds, scan_fail known _ i hlt hok _ hat4 (by simpa using h5)], S.bel⟩
            · refine wp_skip ?_
              refine bn <| tn <| hK6 _ _ ?_
              have hh : known[m] = x.t.reads[i] := by simpa using h5
              refine rg ?_
              refine dv F (y_mv rfl rfl) rfl rfl rfl fun a F => ?_
              refine dv F (y_add rfl rfl rfl (by omega)) rfl rfl rfl fun a F => ?_
              refine dv F (y_as rfl rfl) rfl rfl rfl fun a F => ?_
              refine dn ?_
              exact ln (by omega) ⟨i + 1, rfl, by omega, scan_ok known _ i hlt hok (by rw [hat4, hh]), F.sub _ ⟨rfl, rfl, rfl, trivial⟩, S.pick [0] _ ⟨rfl, trivial⟩ rfl⟩
    · refine wp_exit ?_
      refine tx <| lx <| bh <| tn <| hK2 _ _ ?_
      refine sq fun K19 hK19 => ?_
      refine rg ?_
      refine dv F (y_as rfl rfl) rfl rfl rfl fun a F => ?_
      refine dv F (y_as rfl rfl) rfl rfl rfl fun a F => ?_
      refine dn ?_
      refine tn <| hK19 _ _ ?_
      refine wp_ret ?_
      refine ?_
      exact rt2 F rfl rfl rfl ⟨by rw [holds, ← List.take_of_length_le (show x.t.reads.length ≤ i by omega), hok], S.bel⟩

theorem f26_c {GA : Option Addr} {gk : Nat} (x : TrV) (gone : List Dig) (w0 : World) (hx : TrOk w0 x) (hg : Sl w0 32 encD GA gone) (hn : gone.length ≤ 140737488351232) :
    Calls Try.prog 26 [.agg (encTr x).toArray, .slice GA gone.length gk].toArray w0 (Ret fun v w' => v = .bool (goneB x.t gone) ∧ Below w0.heap.size w0 w') := by
  have hlo := hx.lo
  refine ent Try.func26 Try.ntmps26 rfl rfl ?_
  intro a F
  have S := St.refl w0
  refine sq fun K1 hK1 => ?_
  refine rg ?_
  refine dbx F S rfl rfl rfl rfl rfl rfl fun a w b2 F S => ?_
  refine dv F (y_as rfl rfl) rfl rfl rfl fun a F => ?_
  refine dn ?_
  refine tn <| hK1 _ _ ?_
  refine sq fun K2 hK2 => ?_
  refine sq fun K3 hK3 => ?_
  refine rg ?_
  refine dv F (y_as rfl rfl) rfl rfl rfl fun a F => ?_
  refine dn ?_
  refine tn <| hK3 _ _ ?_
  refine bl ?_
  refine lp (fun m a w => ∃ i : Nat, m = x.t.outs.length - i ∧ (i ≤ x.t.outs.length) ∧ (∀ (j : Nat) (hj : j < x.t.outs.length), j < i → gone.any (fun g => decide (g = x.t.outs[j].sum)) = false) ∧ Fr 31 a [(1, .slice GA gone.length gk), (2, .pointer (some ⟨b2, 0, none⟩)), (5, .int .i64 (i : Int))] ∧ St w0 w [bk b2 35 (encTr x)]) (x.t.outs.length) ?_ ?_
  · exact ⟨0, rfl, Nat.zero_le _, fun j _ h => absurd h (Nat.not_lt_zero j), F.sub _ ⟨rfl, rfl, rfl, trivial⟩, S.pick [0] _ ⟨rfl, trivial⟩ rfl⟩
  · rintro m a w ⟨i, hm, hi, hno, F, S⟩
    refine sq fun K4 hK4 => ?_
    refine sq fun K5 hK5 => ?_
    refine rg ?_
    refine dv F (y_mv rfl rfl) rfl rfl rfl fun a F => ?_
    refine dv F (y_fa rfl rfl fi35_2) rfl rfl rfl fun a F => ?_
    refine dv F (y_ld rfl rfl (S.ld (i := 0) rfl (ntr33 _) Try.isAgg33)) rfl rfl rfl fun a F => ?_
    refine dv F (y_ln rfl rfl Try.underlying33) rfl rfl rfl fun a F => ?_
    refine dv F (y_lt rfl rfl rfl) rfl rfl rfl fun a F => ?_
    refine dn ?_
    refine tn <| hK5 _ _ ?_
    refine cd F rfl (fun h1 => ?_) (fun h1 => ?_)
    · refine wp_skip ?_
      refine tn <| hK4 _ _ ?_
      refine sq fun K6 hK6 => ?_
      refine bl ?_
      refine sq fun K7 hK7 => ?_
      have hlt : i < x.t.outs.length := by omega
      refine rg ?_
      refine dv F (y_as rfl rfl) rfl rfl rfl fun a F => ?_
      refine dn ?_
      refine tn <| hK7 _ _ ?_
      refine bl ?_
      refine lp (fun m a w => ∃ k : Nat, m = gone.length - k ∧ (k ≤ gone.length) ∧ (∀ (j : Nat) (hj : j < gone.length), j < k → decide (gone[j] = x.t.outs[i].sum) = false) ∧ Fr 31 a [(1, .slice GA gone.length gk), (2, .pointer (some ⟨b2, 0, none⟩)), (5, .int .i64 (i : Int)), (6, .int .i64 (k : Int))] ∧ St w0 w [bk b2 35 (encTr x)]) (gone.length) ?_ ?_
      · exact ⟨0, rfl, Nat.zero_le _, fun j _ h => absurd h (Nat.not_lt_zero j), F.sub _ ⟨rfl, rfl, rfl, rfl, trivial⟩, S.pick [0] _ ⟨rfl, trivial⟩ rfl⟩
      · rintro m a w ⟨k, hm, hk, hno2, F, S⟩
        refine sq fun K8 hK8 => ?_
        refine sq fun K9 hK9 => ?_
        refine rg ?_
        refine dv F (y_mv rfl rfl) rfl rfl rfl fun a F => ?_
        refine dv F (y_mv rfl rfl) rfl rfl rfl fun a F => ?_
        refine dv F (y_ln rfl rfl Try.underlying24) rfl rfl rfl fun a F => ?_
        refine dv F (y_lt rfl rfl rfl) rfl rfl rfl fun a F => ?_
        refine dn ?_
        refine tn <| hK9 _ _ ?_
        refine cd F rfl (fun h2 => ?_) (fun h2 => ?_)
        · refine wp_skip ?_
          refine tn <| hK8 _ _ ?_
          refine sq fun K10 hK10 => ?_
          refine bl ?_
          refine sq fun K11 hK11 => ?_
          have hlk : k < gone.length := by omega
          obtain ⟨kb, ko, eK, hkb, _⟩ := (hg.st S).at_ hlk
          obtain ⟨ab, ao, eA, hab, _⟩ := (hx.md.st S).at_ hlt
          refine rq (C := fun w => St _ w _) Try.mixed (by kernel_rfl) (S.drewN 1) ?_
          refine qv F (fun w S => y_fa rfl rfl fi35_2) rfl rfl rfl fun a F => ?_
          refine qv F (fun w S => y_ld rfl rfl (S.ld (i := 0) rfl (ntr33 x) Try.isAgg33)) rfl rfl rfl fun a F => ?_
          refine qv F (fun w S => y_mv rfl rfl) rfl rfl rfl fun a F => ?_
          refine qv F (fun w S => y_ia rfl rfl eA rfl Try.underlying33 Try.sizeOf58 i rfl hlt) rfl rfl rfl fun a F => ?_
          refine qv F (fun w S => y_fa rfl rfl fi58_1) rfl rfl rfl fun a F => ?_
          refine qv F (fun w S => y_ld rfl rfl (by
            obtain ⟨b', o', e, _, hcell⟩ := (hx.md.st S).at_ hlt
            rw [eA] at e; cases e
            exact lda Try.isAgg32 Try.sizeOf32 (len32 x.t.outs[i].sum) (fun j v hv => by rw [Nat.add_assoc]; exact hcell (1 + j) v (by rw [Nat.add_comm 1 j]; exact hv)))) rfl rfl rfl fun a F => ?_
          refine qv F (fun w S => y_mv rfl rfl) rfl rfl rfl fun a F => ?_
          refine qv F (fun w S => y_mv rfl rfl) rfl rfl rfl fun a F => ?_
          refine qv F (fun w S => y_ia rfl rfl eK rfl Try.underlying24 Try.sizeOf32 k rfl hlk) rfl rfl rfl fun a F => ?_
          refine qv F (fun w S => y_ld rfl rfl (by
            obtain ⟨b', o', e, _, hcell⟩ := (hg.st S).at_ hlk
            rw [eK] at e; cases e
            exact lda Try.isAgg32 Try.sizeOf32 (len32 _) hcell)) rfl rfl rfl fun a F => ?_
          refine qv F (fun w S => y_eq32 rfl rfl rfl) rfl rfl rfl fun a F => ?_
          refine qn fun w S => ?_
          refine tn <| hK11 _ _ ?_
          refine cd F rfl (fun h3 => ?_) (fun h3 => ?_)
          · refine sq fun K12 hK12 => ?_
            refine rg ?_
            refine dv F (y_as rfl rfl) rfl rfl rfl fun a F => ?_
            refine dn ?_
            refine tn <| hK12 _ _ ?_
            refine wp_ret ?_
            refine br <| tr <| lr <| br <| br <| tr <| lr <| br <| tr <| ?_
            exact rt1 F rfl rfl ⟨by rw [goneB, any_hit _ _ i hlt (any_hit _ gone k hlk (decide_eq_true h3.symm))], S.bel⟩
          · refine wp_skip ?_
            refine bn <| tn <| hK10 _ _ ?_
            refine rg ?_
            refine dv F (y_mv rfl rfl) rfl rfl rfl fun a F => ?_
            refine dv F (y_add rfl rfl rfl (by omega)) rfl rfl rfl fun a F => ?_
            refine dv F (y_as rfl rfl) rfl rfl rfl fun a F => ?_
            refine dn ?_
            exact ln (by omega) ⟨k + 1, rfl, by omega, allto hno2 hlk (decide_eq_false fun e => h3 e.symm), F.sub _ ⟨rfl, rfl, rfl, rfl, trivial⟩, S.pick [0] _ ⟨rfl, trivial⟩ rfl⟩
        · refine wp_exit ?_
          refine tx <| lx <| bh <| bn <| tn <| hK6 _ _ ?_
          refine rg ?_
          refine dv F (y_mv rfl rfl) rfl rfl rfl fun a F => ?_
          refine dv F (y_add rfl rfl rfl (by omega)) rfl rfl rfl fun a F => ?_
          refine dv F (y_as rfl rfl) rfl rfl rfl fun a F => ?_
          refine dn ?_
          exact ln (by omega) ⟨i + 1, rfl, by omega, allto hno hlt (any_miss _ gone fun j hj => hno2 j hj (by omega)), F.sub _ ⟨rfl, rfl, rfl, trivial⟩, S.pick [0] _ ⟨rfl, trivial⟩ rfl⟩
    · refine wp_exit ?_
      refine tx <| lx <| bh <| tn <| hK2 _ _ ?_
      refine sq fun K13 hK13 => ?_
      refine rg ?_
      refine dv F (y_as rfl rfl) rfl rfl rfl fun a F => ?_
      refine dn ?_
      refine tn <| hK13 _ _ ?_
      refine wp_ret ?_
      refine ?_
      exact rt1 F rfl rfl ⟨by rw [goneB, any_miss _ _ fun j hj => hno j hj (by omega)], S.bel⟩

end Go.Proofs.Ytpnhinbhhpeklaa
