/- Walks of layer 2: the reference's sum. -/
import Derived.Test.YtpnhinbhhpeklaaD18
import Derived.Test.YtpnhinbhhpeklaaShaR
set_option linter.unusedVariables false
set_option linter.unusedSimpArgs false
namespace Go.Proofs.Ytpnhinbhhpeklaa
open Go.RowKit Go.Eng DirtyPlain

open Sha
theorem padded_len (bs : List Int) : (padded bs).length = bs.length + 1 + zpad bs.length + 8 := by
  simp [padded]; omega
theorem padded_mod (bs : List Int) : (padded bs).length % 64 = 0 := by
  rw [padded_len]; simp only [zpad]; omega
def S0 : S8 := ⟨H0.getD 0 0, H0.getD 1 0, H0.getD 2 0, H0.getD 3 0, H0.getD 4 0, H0.getD 5 0, H0.getD 6 0, H0.getD 7 0⟩
def digest (bs : List Int) : List Int := outB (absorb S0 (padded bs) ((padded bs).length / 64))
theorem S0_l : S0.l = H0 := by decide +kernel
def ob8 (t : S8) (i : Nat) : List Int := (outB t).take i ++ List.replicate (32 - i) 0
theorem outB_len (t : S8) : (outB t).length = 32 := by simp [outB]
theorem ob8_len (t : S8) {i : Nat} (h : i ≤ 32) : (ob8 t i).length = 32 := by
  rw [ob8, List.length_append, List.length_take, outB_len, List.length_replicate]; omega
theorem ob8_succ (t : S8) {i : Nat} (h : i < 32) : (ob8 t i).set i (IntKind.u8.wrap (shrI .u32 (t.l.getD (i / 4) 0) (24 - 8 * (i % 4)))) = ob8 t (i + 1) := by
  have hl : ((outB t).take i).length = i := by rw [List.length_take, outB_len]; omega
  rw [ob8, ob8, List.set_append_right _ _ (by omega), hl, Nat.sub_self, show 32 - i = (32 - (i + 1)) + 1 by omega, List.replicate_succ, List.take_succ_eq_append_getElem (by rw [outB_len]; exact h), List.append_assoc]
  simp [outB]
theorem setO {G : List Int} {k : Nat} {x : Int} (h : k < G.length) : putl (G.flatMap encU8) (0 + k * 1) (cellsOf (.int .u8 x)) = (G.set k x).flatMap encU8 := by
  rw [flatU8, flatU8, Nat.zero_add, Nat.mul_one]
  refine List.ext_getElem? fun i => ?_
  rw [(putl_get _ _ _ (by show k + 1 ≤ _; simp; omega)).2 i]
  show (if k ≤ i ∧ i < k + 1 then [Value.int .u8 x][i - k]? else _) = _
  rw [List.getElem?_map, List.getElem?_map, List.getElem?_set]
  by_cases hik : k = i
  · subst hik; simp [h]
  · rw [if_neg (by omega), if_neg hik]
theorem padded_range (bs : List Int) (h : ∀ b ∈ bs, 0 ≤ b ∧ b < 256) : ∀ b ∈ padded bs, 0 ≤ b ∧ b < 256 := by
  intro b hb
  simp only [padded, List.mem_append, List.mem_cons, List.mem_map] at hb
  rcases hb with (hb | rfl | hb) | ⟨j, _, rfl⟩
  · exact h b hb
  · decide
  · rw [List.eq_of_mem_replicate hb]; decide
  · rw [lb, IntKind.wrap_u8]; omega
set_option maxRecDepth 4000
set_option maxHeartbeats 1000000 in
theorem f31_c (sg : ByteArray) (hs : sg.size ≤ 1000000) (w0 : World) :
    Calls Try.prog 31 [.string sg].toArray w0 (Ret fun v w' => v = .agg ((digest (bI sg)).map (Value.int .u8)).toArray ∧ Below w0.heap.size w0 w') := by
  refine ent Try.func31 Try.ntmps31 rfl rfl ?_
  intro a F
  have S := St.refl w0
  refine sq fun K1 hK1 => ?_
  refine rg ?_
  refine dal F S rfl Try.zeroValue32 rfl rfl rfl rfl fun a w b2 F S => ?_
  refine dn ?_
  refine tn <| hK1 _ _ ?_
  refine sq fun K2 hK2 => ?_
  refine rg ?_
  refine dbs (cs := (S0.l.flatMap encU32)) (e := 85) F S rfl rfl (fun w => by kernel_rfl) rfl rfl rfl fun a w b8 F S => ?_
  refine dv F (y_as rfl rfl) rfl rfl rfl fun a F => ?_
  refine dn ?_
  refine tn <| hK2 _ _ ?_
  refine sq fun K3 hK3 => ?_
  replace S := ow_of_bk S (i := 1) (n := 8) (z := 1) rfl rfl (by decide)
  refine rg ?_
  refine dv F (y_mv rfl rfl) rfl rfl rfl fun a F => ?_
  refine dc F (c_f rfl rfl rfl Try.call40) rfl rfl rfl (f40_c sg hs _) fun a v w' hr F => ?_
  obtain ⟨⟨AP, cP, rfl, hP, hPb⟩, hb⟩ := hr
  replace S := S.addOw hb rfl hP hPb
  refine dv F (y_as rfl rfl) rfl rfl rfl fun a F => ?_
  refine dn ?_
  refine tn <| hK3 _ _ ?_
  refine sq fun K4 hK4 => ?_
  refine sq fun K5 hK5 => ?_
  have hz63 : zpad (bI sg).length < 64 := Nat.mod_lt _ (by decide)
  have hPm := padded_mod (bI sg)
  have hPl := padded_len (bI sg)
  have hbl := bI_len sg
  have hPr := padded_range (bI sg) (bI_range sg)
  refine rg ?_
  refine dv F (y_as rfl rfl) rfl rfl rfl fun a F => ?_
  refine dn ?_
  refine tn <| hK5 _ _ ?_
  refine bl ?_
  refine lp (fun m a w => ∃ (k : Nat) (A3 : Option Addr) (c3 : Nat), m = (padded (bI sg)).length / 64 - k ∧ (64 * k ≤ (padded (bI sg)).length) ∧ Fr 43 a [(2, .pointer (some ⟨b2, 0, none⟩)), (3, .slice A3 8 c3), (4, .slice AP (padded (bI sg)).length cP), (5, .int .i64 (64 * (k : Int)))] ∧ St w0 w [bk b2 32 (encD dig0), ow 85 1 (.slice A3 8 c3) 8 ((absorb S0 (padded (bI sg)) k).l.flatMap encU32), ow 5 1 (.slice AP (padded (bI sg)).length cP) (padded (bI sg)).length ((padded (bI sg)).flatMap encU8)]) ((padded (bI sg)).length / 64) ?_ ?_
  · exact ⟨0, _, _, rfl, Nat.zero_le _, F.sub _ ⟨rfl, rfl, rfl, rfl, trivial⟩, S.pick [0, 1, 2] _ ⟨rfl, rfl, rfl, trivial⟩ rfl⟩
  · rintro m a w ⟨k, A3, c3, hm, hk, F, S⟩
    refine sq fun K6 hK6 => ?_
    refine sq fun K7 hK7 => ?_
    refine rg ?_
    refine dv F (y_mv rfl rfl) rfl rfl rfl fun a F => ?_
    refine dv F (y_mv rfl rfl) rfl rfl rfl fun a F => ?_
    refine dv F (y_ln rfl rfl Try.underlying87) rfl rfl rfl fun a F => ?_
    refine dv F (y_lt rfl rfl rfl) rfl rfl rfl fun a F => ?_
    refine dn ?_
    refine tn <| hK7 _ _ ?_
    refine cd F rfl (fun h1 => ?_) (fun h1 => ?_)
    · refine wp_skip ?_
      refine tn <| hK6 _ _ ?_
      refine sq fun K8 hK8 => ?_
      refine bl ?_
      have hq : (((padded (bI sg)).drop (64 * k)).take 64).length = 64 := by simp; omega
      obtain ⟨_, _, hv_, _, hcP, _⟩ := S.ok (i := 2) rfl
      cases hv_
      refine rg ?_
      refine dv F (y_mv rfl rfl) rfl rfl rfl fun a F => ?_
      refine dv F (y_mv rfl rfl) rfl rfl rfl fun a F => ?_
      refine dv F (y_mv rfl rfl) rfl rfl rfl fun a F => ?_
      refine dv F (y_mv rfl rfl) rfl rfl rfl fun a F => ?_
      refine dv F (y_add rfl rfl rfl (by omega)) rfl rfl rfl fun a F => ?_
      refine dv F (y_slr (lo := 64 * k) (hi := 64 * k + 64) (N := (((padded (bI sg)).drop (64 * k)).take 64).length) rfl rfl rfl rfl Try.underlying87 Try.sizeOf5 (by omega) (by omega) (by omega) (by omega) (by omega)) rfl rfl rfl fun a F => ?_
      refine dc F (c_f rfl rfl rfl Try.call41) rfl rfl rfl (f41_c (absorb S0 (padded (bI sg)) k) (((padded (bI sg)).drop (64 * k)).take 64) _ (S.ows (i := 1) (ys := (absorb S0 (padded (bI sg)) k).l) rfl lenU32 (by decide)) ((S.ows (i := 2) (ys := padded (bI sg)) rfl lenU8 (by decide)).slr hcP (64 * k) 64) hq (by omega) (fun b hb => hPr b (List.mem_of_mem_drop (List.mem_of_mem_take hb)))) fun a v w' hr F => ?_
      obtain ⟨⟨A4, c4, rfl, hO, hOb⟩, hb⟩ := hr
      replace S := S.addOw hb rfl hO hOb
      refine dv F (y_as rfl rfl) rfl rfl rfl fun a F => ?_
      refine dn ?_
      refine bn <| tn <| hK8 _ _ ?_
      refine rg ?_
      refine dv F (y_mv rfl rfl) rfl rfl rfl fun a F => ?_
      refine dv F (y_add rfl rfl rfl (by omega)) rfl rfl rfl fun a F => ?_
      refine dv F (y_as rfl rfl) rfl rfl rfl fun a F => ?_
      refine dn ?_
      rw [show 64 * (k : Int) + 64 = 64 * ((k + 1 : Nat) : Int) by omega] at F
      exact ln (by omega) ⟨k + 1, _, _, rfl, by omega, F.sub _ ⟨rfl, rfl, rfl, rfl, trivial⟩, S.pick [0, 3, 2] _ ⟨rfl, rfl, rfl, trivial⟩ rfl⟩
    · refine wp_exit ?_
      refine tx <| lx <| bh <| tn <| hK4 _ _ ?_
      refine sq fun K9 hK9 => ?_
      obtain ⟨t, ht⟩ : ∃ t, t = absorb S0 (padded (bI sg)) k := ⟨_, rfl⟩
      rw [← ht] at S
      have hkk : k = (padded (bI sg)).length / 64 := by omega
      refine rg ?_
      refine dv F (y_bd (v := .agg (encD dig0).toArray) rfl rfl (fun w => by kernel_rfl)) rfl rfl rfl fun a F => ?_
      refine dal F S rfl Try.zeroValue32 rfl rfl rfl rfl fun a w b6 F S => ?_
      refine dsw F S rfl rfl rfl Try.sizeOf32 (i := 3) rfl rfl rfl rfl (one32 _) rfl rfl fun a w F S => ?_
      refine dn ?_
      refine tn <| hK9 _ _ ?_
      refine sq fun K10 hK10 => ?_
      refine sq fun K11 hK11 => ?_
      refine rg ?_
      refine dv F (y_as rfl rfl) rfl rfl rfl fun a F => ?_
      refine dn ?_
      refine tn <| hK11 _ _ ?_
      refine bl ?_
      refine lp (fun m a w => ∃ i : Nat, m = 32 - i ∧ (i ≤ 32) ∧ Fr 43 a [(2, .pointer (some ⟨b2, 0, none⟩)), (3, .slice A3 8 c3), (6, .pointer (some ⟨b6, 0, none⟩)), (7, .int .i64 (i : Int))] ∧ St w0 w [bk b2 32 (encD dig0), ow 85 1 (.slice A3 8 c3) 8 (t.l.flatMap encU32), bk b6 32 ((ob8 t i).flatMap encU8)]) (32) ?_ ?_
      · exact ⟨0, rfl, Nat.zero_le _, F.sub _ ⟨rfl, rfl, rfl, rfl, trivial⟩, S.pick [0, 1, 3] _ ⟨rfl, rfl, rfl, trivial⟩ rfl⟩
      · rintro m a w ⟨i, hm, hi, F, S⟩
        refine sq fun K12 hK12 => ?_
        refine sq fun K13 hK13 => ?_
        refine rg ?_
        refine dv F (y_mv rfl rfl) rfl rfl rfl fun a F => ?_
        refine dv F (y_lt rfl rfl rfl) rfl rfl rfl fun a F => ?_
        refine dn ?_
        refine tn <| hK13 _ _ ?_
        refine cd F rfl (fun h2 => ?_) (fun h2 => ?_)
        · refine wp_skip ?_
          refine tn <| hK12 _ _ ?_
          refine sq fun K14 hK14 => ?_
          refine bl ?_
          have hi2 : i < 32 := by omega
          obtain ⟨tb, to, eT, htb, _⟩ := (S.ows (i := 1) (ys := t.l) rfl lenU32 (by decide)).at_ (j := 0) (show 0 < 8 by decide)
          refine rg ?_
          refine dv F (y_mv rfl rfl) rfl rfl rfl fun a F => ?_
          refine dv F (y_mv rfl rfl) rfl rfl rfl fun a F => ?_
          refine dv F (y_mv rfl rfl) rfl rfl rfl fun a F => ?_
          refine dv F (y_quo rfl rfl rfl (by omega)) rfl rfl rfl fun a F => ?_
          refine dv F (y_ia rfl rfl eT rfl Try.underlying86 Try.sizeOf85 (i / 4) (by omega) (by omega)) rfl rfl rfl fun a F => ?_
          refine dv F (y_ld rfl rfl (ldD (S.ows (i := 1) (ys := t.l) rfl lenU32 (by decide)) eT Try.isAgg85 (i / 4) (show i / 4 < 8 by omega))) rfl rfl rfl fun a F => ?_
          refine dv F (y_mv rfl rfl) rfl rfl rfl fun a F => ?_
          refine dv F (y_rem rfl rfl rfl (by omega)) rfl rfl rfl fun a F => ?_
          refine dv F (y_mul rfl rfl rfl (by omega)) rfl rfl rfl fun a F => ?_
          refine dv F (y_sub rfl rfl rfl (by omega)) rfl rfl rfl fun a F => ?_
          refine dv F (y_shr (m := 24 - 8 * (i % 4)) rfl rfl rfl (by omega)) rfl rfl rfl fun a F => ?_
          refine dv F (y_cvt rfl rfl ⟨_, Try.underlying85⟩ Try.underlying5) rfl rfl rfl fun a F => ?_
          refine dv F (y_ip rfl rfl rfl Try.underlying32 Try.sizeOf5 i rfl hi2) rfl rfl rfl fun a F => ?_
          refine dst F S rfl rfl rfl Try.sizeOf5 (i := 2) rfl rfl (by rw [flat_len lenU8, ob8_len t hi]; omega) one1 rfl rfl fun a w F S => ?_
          rw [setO (by rw [ob8_len t hi]; exact hi2), ob8_succ t hi2] at S
          refine dn ?_
          refine bn <| tn <| hK14 _ _ ?_
          refine rg ?_
          refine dv F (y_mv rfl rfl) rfl rfl rfl fun a F => ?_
          refine dv F (y_add rfl rfl rfl (by omega)) rfl rfl rfl fun a F => ?_
          refine dv F (y_as rfl rfl) rfl rfl rfl fun a F => ?_
          refine dn ?_
          exact ln (by omega) ⟨i + 1, rfl, by omega, F.sub _ ⟨rfl, rfl, rfl, rfl, trivial⟩, S.pick [0, 1, 2] _ ⟨rfl, rfl, rfl, trivial⟩ rfl⟩
        · refine wp_exit ?_
          refine tx <| lx <| bh <| tn <| hK10 _ _ ?_
          refine sq fun K15 hK15 => ?_
          obtain rfl : i = 32 := by omega
          have hO32 : ((ob8 t 32).flatMap encU8).length = 32 := by rw [flat_len lenU8, ob8_len t (by omega)]
          refine rg ?_
          refine dv F (y_ld rfl rfl (S.lda (i := 2) rfl Try.isAgg32 Try.sizeOf32 hO32)) rfl rfl rfl fun a F => ?_
          refine dsw F S rfl rfl rfl Try.sizeOf32 (i := 0) rfl rfl hO32 rfl (allflat one_U8 _) rfl rfl fun a w F S => ?_
          refine dn ?_
          refine tn <| hK15 _ _ ?_
          refine wp_ret ?_
          refine ?_
          exact rc1 F rfl rfl (S.lda (i := 0) rfl Try.isAgg32 Try.sizeOf32 hO32) ⟨by rw [show ob8 t 32 = outB t by simp [ob8, outB_len, List.take_of_length_le], ht, hkk, ← flatU8]; rfl, S.bel⟩

end Go.Proofs.Ytpnhinbhhpeklaa
