/- Walks of layer 2: the schedule. -/
import Derived.Test.YtpnhinbhhpeklaaD14
import Derived.Test.YtpnhinbhhpeklaaShaQ
set_option linter.unusedVariables false
set_option linter.unusedSimpArgs false
namespace Go.Proofs.Ytpnhinbhhpeklaa
open Go.RowKit Go.Eng DirtyPlain

open Sha
theorem setU {G : List Int} {k : Nat} {x : Int} (h : k < G.length) : putl (G.flatMap encU32) (0 + k * 1) (cellsOf (.int .u32 x)) = (G.set k x).flatMap encU32 := by
  have fl : ∀ G : List Int, G.flatMap encU32 = G.map (Value.int .u32) := fun G => by
    induction G with
    | nil => rfl
    | cons g G ih => rw [List.flatMap_cons, ih]; rfl
  rw [fl, fl, Nat.zero_add, Nat.mul_one]
  refine List.ext_getElem? fun i => ?_
  rw [(putl_get _ _ _ (by show k + 1 ≤ _; simp; omega)).2 i]
  show (if k ≤ i ∧ i < k + 1 then [Value.int .u32 x][i - k]? else _) = _
  rw [List.getElem?_map, List.getElem?_map, List.getElem?_set]
  by_cases hik : k = i
  · subst hik; simp [h]
  · rw [if_neg (by omega), if_neg hik]
theorem arrU {w0 w : World} {hs : List Res} {i b e t j : Nat} {xs : List Int} (S : St w0 w hs) (h : nth hs i = some (bk b e (xs.flatMap encU32))) (hA : ∀ w, (isAgg t).run Try.prog w = .ok false w) (hj : j < xs.length) : Ld Try.prog w t ⟨b, 0 + j * 1, none⟩ (.int .u32 xs[j]) :=
  Sl.ld1c (S.sl h lenU32) rfl hA j hj rfl
def gatA (bs : List Int) : Nat → List Int
  | 0 => List.replicate 64 0
  | j + 1 => (gatA bs j).set (j / 4) (gat ((gatA bs j).getD (j / 4) 0) (bs.getD j 0))
theorem gatA_len (bs : List Int) : ∀ j, (gatA bs j).length = 64
  | 0 => by simp [gatA]
  | j + 1 => by rw [gatA, List.length_set, gatA_len bs j]
theorem gatA_succ (bs : List Int) {j : Nat} (hj : j < bs.length) (h : j / 4 < (gatA bs j).length) : (gatA bs j).set (j / 4) (orI .u32 (shlI .u32 (gatA bs j)[j / 4] 8) (IntKind.u32.wrap bs[j])) = gatA bs (j + 1) := by
  rw [gatA, gat]
  simp [hj, h]
theorem gatA_at (bs : List Int) (hb : bs.length = 64) (hr : ∀ b ∈ bs, 0 ≤ b ∧ b < 256) : ∀ i, i ≤ 16 → gatA bs (4 * i) = (List.range i).map (wordAt bs) ++ List.replicate (64 - i) 0
  | 0, _ => by simp [gatA]
  | i + 1, hi => by
    have ih := gatA_at bs hb hr i (by omega)
    have hrr : ∀ j, 0 ≤ bs.getD j 0 ∧ bs.getD j 0 < 256 := fun j => by
      by_cases hj : j < bs.length
      · have := hr bs[j] (List.getElem_mem hj)
        simpa [hj] using this
      · simp [hj]
    rw [show 4 * (i + 1) = 4 * i + 1 + 1 + 1 + 1 by omega]
    simp only [gatA, ih]
    rw [show (4 * i) / 4 = i by omega, show (4 * i + 1) / 4 = i by omega, show (4 * i + 1 + 1) / 4 = i by omega, show (4 * i + 1 + 1 + 1) / 4 = i by omega]
    have hl : ((List.range i).map (wordAt bs)).length = i := by simp
    have e0 : List.replicate (64 - i) (0 : Int) = 0 :: List.replicate (64 - (i + 1)) 0 := by
      rw [show 64 - i = (64 - (i + 1)) + 1 by omega, List.replicate_succ]
    rw [e0]
    have st : ∀ (x y : Int) (r : List Int), ((List.range i).map (wordAt bs) ++ x :: r).set i y = (List.range i).map (wordAt bs) ++ y :: r := fun x y r => by
      rw [List.set_append_right _ _ (by omega), hl, Nat.sub_self]; rfl
    have gt : ∀ (x : Int) (r : List Int), ((List.range i).map (wordAt bs) ++ x :: r).getD i 0 = x := fun x r => by
      rw [List.getD_eq_getElem?_getD, List.getElem?_append_right (by omega), hl, Nat.sub_self]; rfl
    simp only [st, gt]
    rw [gat_word (hrr _) (hrr _) (hrr _) (hrr _), List.range_succ, List.map_append, List.append_assoc]
    rfl
def wz (bs : List Int) (k : Nat) : List Int := wpre bs k ++ List.replicate (64 - k) 0
theorem gatA_end (bs : List Int) (hb : bs.length = 64) (hr : ∀ b ∈ bs, 0 ≤ b ∧ b < 256) : gatA bs 64 = wz bs 16 := by
  rw [show 64 = 4 * 16 from rfl, gatA_at bs hb hr 16 (Nat.le_refl _)]; rfl
theorem wz_len (bs : List Int) {k : Nat} (hk : k ≤ 64) : (wz bs k).length = 64 := by
  rw [wz, List.length_append, wpre_len, List.length_replicate]; omega
theorem wz64 (bs : List Int) : ((wz bs 64).flatMap encU32).length = 64 := by rw [flat_len lenU32, wz_len bs (Nat.le_refl _)]
theorem wz_end (bs : List Int) : wz bs 64 = wpre bs 64 := by rw [wz]; simp
theorem wz_get (bs : List Int) {k j : Nat} (hj : j < k) (h : j < (wz bs k).length) : (wz bs k)[j] = (wpre bs k)[j]'(by rw [wpre_len]; exact hj) := by
  simp only [wz]
  rw [List.getElem_append_left]
theorem wz_succ (bs : List Int) {k : Nat} (hk : 16 ≤ k ∧ k ≤ 64) (hk2 : k < 64) (hl : (wz bs k).length = 64) :
    (wz bs k).set k (IntKind.u32.wrap (IntKind.u32.wrap (IntKind.u32.wrap ((wz bs k)[k - 16]'(by omega) + xorI .u32 (xorI .u32 (rot ((wz bs k)[k - 15]'(by omega)) 7) (rot ((wz bs k)[k - 15]'(by omega)) 18)) (shrI .u32 ((wz bs k)[k - 15]'(by omega)) 3)) + (wz bs k)[k - 7]'(by omega)) + xorI .u32 (xorI .u32 (rot ((wz bs k)[k - 2]'(by omega)) 17) (rot ((wz bs k)[k - 2]'(by omega)) 19)) (shrI .u32 ((wz bs k)[k - 2]'(by omega)) 10))) = wz bs (k + 1) := by
  have hw := wpre_len bs k
  rw [wz_get bs (by omega), wz_get bs (by omega), wz_get bs (by omega), wz_get bs (by omega)]
  have st : ∀ y : Int, (wpre bs k ++ List.replicate (64 - k) 0).set k y = wpre bs k ++ y :: List.replicate (64 - (k + 1)) 0 := fun y => by
    rw [List.set_append_right _ _ (by omega), hw, Nat.sub_self, show 64 - k = (64 - (k + 1)) + 1 by omega, List.replicate_succ]; rfl
  rw [wz, wz, st, wpre_hi bs hk.1, nx_at _ (by omega), List.append_assoc]
  simp only [hw]
  rfl
set_option maxRecDepth 4000
set_option maxHeartbeats 2000000 in
theorem f48_c {A : Option Addr} {c : Nat} (bs : List Int) (w0 : World) (hA : Sl w0 1 encU8 A bs) (hb : bs.length = 64) (hr : ∀ b ∈ bs, 0 ≤ b ∧ b < 256) :
    Calls Try.prog 48 [.slice A bs.length c].toArray w0 (Ret fun v w' => v = .agg ((wpre bs 64).flatMap encU32).toArray ∧ Below w0.heap.size w0 w') := by
  refine ent Try.func48 Try.ntmps48 rfl rfl ?_
  intro a F
  have S := St.refl w0
  refine sq fun K1 hK1 => ?_
  refine rg ?_
  refine dal F S rfl Try.zeroValue102 rfl rfl rfl rfl fun a w b2 F S => ?_
  refine dn ?_
  refine tn <| hK1 _ _ ?_
  refine sq fun K2 hK2 => ?_
  refine rg ?_
  refine dal F S rfl Try.zeroValue102 rfl rfl rfl rfl fun a w b3 F S => ?_
  refine dn ?_
  refine tn <| hK2 _ _ ?_
  refine sq fun K3 hK3 => ?_
  refine sq fun K4 hK4 => ?_
  refine rg ?_
  refine dv F (y_mv rfl rfl) rfl rfl rfl fun a F => ?_
  refine dv F (y_ln rfl rfl Try.underlying87) rfl rfl rfl fun a F => ?_
  refine dv F (y_mv rfl rfl) rfl rfl rfl fun a F => ?_
  refine dn ?_
  refine tn <| hK4 _ _ ?_
  refine bl ?_
  refine lp (fun m a w => ∃ j : Nat, m = bs.length - j ∧ (j ≤ bs.length) ∧ Fr 74 a [(2, .pointer (some ⟨b2, 0, none⟩)), (3, .pointer (some ⟨b3, 0, none⟩)), (11, .slice A bs.length c), (12, .int .i64 (bs.length : Int)), (13, .int .i64 (j : Int))] ∧ St w0 w [bk b2 102 ((List.replicate 64 0).flatMap encU32), bk b3 102 ((gatA bs j).flatMap encU32)]) (bs.length) ?_ ?_
  · exact ⟨0, rfl, Nat.zero_le _, F.sub _ ⟨rfl, rfl, rfl, rfl, rfl, trivial⟩, S.pick [0, 1] _ ⟨rfl, rfl, trivial⟩ rfl⟩
  · rintro m a w ⟨j, hm, hj, F, S⟩
    refine sq fun K5 hK5 => ?_
    refine rg ?_
    refine dv F (y_lt rfl rfl rfl) rfl rfl rfl fun a F => ?_
    refine dn ?_
    refine tn <| hK5 _ _ ?_
    refine sq fun K6 hK6 => ?_
    refine cd F rfl (fun h1 => ?_) (fun h1 => ?_)
    · refine wp_skip ?_
      refine tn <| hK6 _ _ ?_
      refine sq fun K7 hK7 => ?_
      refine bl ?_
      refine sq fun K8 hK8 => ?_
      have hj2 : j < bs.length := by omega
      have hgl := gatA_len bs j
      obtain ⟨ab, ao, eA, hab, _⟩ := (hA.st S).at_ hj2
      refine rg ?_
      refine dv F (y_mv rfl rfl) rfl rfl rfl fun a F => ?_
      refine dv F (y_ia rfl rfl eA rfl Try.underlying87 Try.sizeOf5 j rfl hj2) rfl rfl rfl fun a F => ?_
      refine dv F (y_ld rfl rfl (Sl.ld1c (hA.st S) eA Try.isAgg5 j hj2 rfl)) rfl rfl rfl fun a F => ?_
      refine dv F (y_as rfl rfl) rfl rfl rfl fun a F => ?_
      refine dv F (y_as rfl rfl) rfl rfl rfl fun a F => ?_
      refine dn ?_
      refine tn <| hK8 _ _ ?_
      refine rg ?_
      refine dv F (y_mv rfl rfl) rfl rfl rfl fun a F => ?_
      refine dv F (y_quo rfl rfl rfl (by omega)) rfl rfl rfl fun a F => ?_
      refine dv F (y_mv rfl rfl) rfl rfl rfl fun a F => ?_
      refine dv F (y_quo rfl rfl rfl (by omega)) rfl rfl rfl fun a F => ?_
      refine dv F (y_ip rfl rfl rfl Try.underlying102 Try.sizeOf85 (j / 4) (by omega) (by omega)) rfl rfl rfl fun a F => ?_
      refine dv F (y_ld rfl rfl (arrU S (i := 1) rfl Try.isAgg85 (j := j / 4) (by omega))) rfl rfl rfl fun a F => ?_
      refine dv F (y_shl (m := 8) rfl rfl rfl rfl) rfl rfl rfl fun a F => ?_
      refine dv F (y_mv rfl rfl) rfl rfl rfl fun a F => ?_
      refine dv F (y_cvt rfl rfl ⟨_, Try.underlying5⟩ Try.underlying85) rfl rfl rfl fun a F => ?_
      refine dv F (y_or rfl rfl rfl) rfl rfl rfl fun a F => ?_
      refine dv F (y_ip rfl rfl rfl Try.underlying102 Try.sizeOf85 (j / 4) (by omega) (by omega)) rfl rfl rfl fun a F => ?_
      refine dst F S rfl rfl rfl Try.sizeOf85 (i := 1) rfl rfl (by rw [flat_len lenU32]; omega) one1 rfl rfl fun a w F S => ?_
      rw [setU (by omega), gatA_succ bs hj2 (by omega)] at S
      refine dn ?_
      refine bn <| tn <| hK7 _ _ ?_
      refine rg ?_
      refine dv F (y_add rfl rfl rfl (by omega)) rfl rfl rfl fun a F => ?_
      refine dv F (y_mv rfl rfl) rfl rfl rfl fun a F => ?_
      refine dn ?_
      exact ln (by omega) ⟨j + 1, rfl, by omega, F.sub _ ⟨rfl, rfl, rfl, rfl, rfl, trivial⟩, S.pick [0, 1] _ ⟨rfl, rfl, trivial⟩ rfl⟩
    · refine wp_exit ?_
      refine tx <| lx <| bh <| tn <| hK3 _ _ ?_
      refine sq fun K9 hK9 => ?_
      refine sq fun K10 hK10 => ?_
      obtain rfl : j = bs.length := by omega
      rw [hb, gatA_end bs hb hr] at S
      refine rg ?_
      refine dv F (y_as rfl rfl) rfl rfl rfl fun a F => ?_
      refine dn ?_
      refine tn <| hK10 _ _ ?_
      refine bl ?_
      refine lp (fun m a w => ∃ k : Nat, m = 64 - k ∧ (16 ≤ k ∧ k ≤ 64) ∧ Fr 74 a [(2, .pointer (some ⟨b2, 0, none⟩)), (3, .pointer (some ⟨b3, 0, none⟩)), (6, .int .i64 (k : Int))] ∧ St w0 w [bk b2 102 ((List.replicate 64 0).flatMap encU32), bk b3 102 ((wz bs k).flatMap encU32)]) (48) ?_ ?_
      · exact ⟨16, rfl, by omega, F.sub _ ⟨rfl, rfl, rfl, trivial⟩, S.pick [0, 1] _ ⟨rfl, rfl, trivial⟩ rfl⟩
      · rintro m a w ⟨k, hm, hk, F, S⟩
        refine sq fun K11 hK11 => ?_
        refine sq fun K12 hK12 => ?_
        refine rg ?_
        refine dv F (y_mv rfl rfl) rfl rfl rfl fun a F => ?_
        refine dv F (y_lt rfl rfl rfl) rfl rfl rfl fun a F => ?_
        refine dn ?_
        refine tn <| hK12 _ _ ?_
        refine cd F rfl (fun h2 => ?_) (fun h2 => ?_)
        · refine wp_skip ?_
          refine tn <| hK11 _ _ ?_
          refine sq fun K13 hK13 => ?_
          refine bl ?_
          refine sq fun K14 hK14 => ?_
          have hk2 : k < 64 := by omega
          have hzl := wz_len bs (k := k) (by omega)
          refine rq (C := fun w => St _ w _) Try.mixed (by kernel_rfl) (S.drewN 1) ?_
          refine qv F (fun w S => y_mv rfl rfl) rfl rfl rfl fun a F => ?_
          refine qv F (fun w S => y_sub rfl rfl rfl (by omega)) rfl rfl rfl fun a F => ?_
          refine qv F (fun w S => y_ip rfl rfl rfl Try.underlying102 Try.sizeOf85 (k - 15) (by omega) (by omega)) rfl rfl rfl fun a F => ?_
          refine qv F (fun w S => y_ld rfl rfl (arrU S (i := 1) rfl Try.isAgg85 (j := k - 15) (by omega))) rfl rfl rfl fun a F => ?_
          refine qv F (fun w S => y_mv rfl rfl) rfl rfl rfl fun a F => ?_
          refine qv F (fun w S => y_sub rfl rfl rfl (by omega)) rfl rfl rfl fun a F => ?_
          refine qv F (fun w S => y_ip rfl rfl rfl Try.underlying102 Try.sizeOf85 (k - 2) (by omega) (by omega)) rfl rfl rfl fun a F => ?_
          refine qv F (fun w S => y_ld rfl rfl (arrU S (i := 1) rfl Try.isAgg85 (j := k - 2) (by omega))) rfl rfl rfl fun a F => ?_
          refine qv F (fun w S => y_as rfl rfl) rfl rfl rfl fun a F => ?_
          refine qv F (fun w S => y_as rfl rfl) rfl rfl rfl fun a F => ?_
          refine qn fun w S => ?_
          refine tn <| hK14 _ _ ?_
          refine sq fun K15 hK15 => ?_
          refine rg ?_
          refine dv F (y_mv rfl rfl) rfl rfl rfl fun a F => ?_
          refine dc F (c_f rfl rfl rfl Try.call49) rfl rfl rfl (f49_c _ 7 (by decide) _) fun a v w' hr F => ?_
          obtain ⟨rfl, hb⟩ := hr
          replace S := S.call hb
          refine dv F (y_mv rfl rfl) rfl rfl rfl fun a F => ?_
          refine dc F (c_f rfl rfl rfl Try.call49) rfl rfl rfl (f49_c _ 18 (by decide) _) fun a v w' hr F => ?_
          obtain ⟨rfl, hb⟩ := hr
          replace S := S.call hb
          refine dv F (y_xor rfl rfl rfl) rfl rfl rfl fun a F => ?_
          refine dv F (y_mv rfl rfl) rfl rfl rfl fun a F => ?_
          refine dv F (y_shr (m := 3) rfl rfl rfl rfl) rfl rfl rfl fun a F => ?_
          refine dv F (y_xor rfl rfl rfl) rfl rfl rfl fun a F => ?_
          refine dv F (y_as rfl rfl) rfl rfl rfl fun a F => ?_
          refine dn ?_
          refine tn <| hK15 _ _ ?_
          refine sq fun K16 hK16 => ?_
          refine rg ?_
          refine dv F (y_mv rfl rfl) rfl rfl rfl fun a F => ?_
          refine dc F (c_f rfl rfl rfl Try.call49) rfl rfl rfl (f49_c _ 17 (by decide) _) fun a v w' hr F => ?_
          obtain ⟨rfl, hb⟩ := hr
          replace S := S.call hb
          refine dv F (y_mv rfl rfl) rfl rfl rfl fun a F => ?_
          refine dc F (c_f rfl rfl rfl Try.call49) rfl rfl rfl (f49_c _ 19 (by decide) _) fun a v w' hr F => ?_
          obtain ⟨rfl, hb⟩ := hr
          replace S := S.call hb
          refine dv F (y_xor rfl rfl rfl) rfl rfl rfl fun a F => ?_
          refine dv F (y_mv rfl rfl) rfl rfl rfl fun a F => ?_
          refine dv F (y_shr (m := 10) rfl rfl rfl rfl) rfl rfl rfl fun a F => ?_
          refine dv F (y_xor rfl rfl rfl) rfl rfl rfl fun a F => ?_
          refine dv F (y_as rfl rfl) rfl rfl rfl fun a F => ?_
          refine dn ?_
          refine tn <| hK16 _ _ ?_
          refine rp [.p, .p, .p, .p, .p, .p, .p, .p, .p, .p, .p, .p, .p, .p, .p] 15 [[], [], [1], [1, 2], [1, 2, 3], [], [1, 2, 3, 4, 5], [], [7], [7, 8], [7, 8, 9], [1, 2, 3, 4, 5, 6, 7, 8, 9, 10], [], [1, 2, 3, 4, 5, 6, 7, 8, 9, 10, 11, 12], [0, 1, 2, 3, 4, 5, 6, 7, 8, 9, 10, 11, 12, 13]] [(2, _), (3, _), (6, _), (7, _), (8, _), (9, _), (10, _), (30, _), (31, _), (34, _), (35, _), (36, _), (37, _), (38, _), (39, _), (40, _), (41, _), (42, _), (43, _), (44, _), (45, _), (46, _), (47, _), (48, _), (49, _), (50, _), (51, _), (52, _), (53, _), (54, _), (55, _), (56, _), (57, _)] F ⟨rfl, rfl, rfl, rfl, rfl, rfl, rfl, rfl, rfl, rfl, rfl, rfl, rfl, rfl, rfl, rfl, rfl, rfl, rfl, rfl, rfl, rfl, rfl, rfl, rfl, rfl, rfl, rfl, rfl, rfl, rfl, rfl, rfl, trivial⟩ Try.mixed (by kernel_rfl) rfl (.inr ⟨by decide, by kernel_rfl, by kernel_rfl⟩) (by kernel_rfl) ⟨?_, ?_, ?_, ?_, ?_, ?_, ?_, ?_, ?_, ?_, ?_, ?_, ?_, ?_, ?_, trivial⟩ fun a w1 J => ?_
          · intro a w1 hB F hA
            have S0 := S
            replace S := S.call hB
            exact pv F (fun w2 hB2 => have S := S.call hB2; y_mv rfl rfl) rfl rfl rfl (by decide)
          · intro a w1 hB F hA
            have S0 := S
            replace S := S.call hB
            exact pv F (fun w2 hB2 => have S := S.call hB2; y_mv rfl rfl) rfl rfl rfl (by decide)
          · intro a w1 hB F hA
            have S0 := S
            replace S := S.call hB
            replace F := F.eP (hA 1 (by decide)) rfl (d := 59) rfl rfl (y_mv rfl rfl)
            exact pv F (fun w2 hB2 => have S := S.call hB2; y_sub rfl rfl rfl (by omega)) rfl rfl rfl (by decide)
          · intro a w1 hB F hA
            have S0 := S
            replace S := S.call hB
            replace F := F.eP (hA 1 (by decide)) rfl (d := 59) rfl rfl (y_mv rfl rfl)
            replace F := F.eP (hA 2 (by decide)) rfl (d := 60) rfl rfl (y_sub rfl rfl rfl (by omega))
            exact pv F (fun w2 hB2 => have S := S.call hB2; y_ip rfl rfl rfl Try.underlying102 Try.sizeOf85 (k - 16) (by omega) (by omega)) rfl rfl rfl (by decide)
          · intro a w1 hB F hA
            have S0 := S
            replace S := S.call hB
            replace F := F.eP (hA 1 (by decide)) rfl (d := 59) rfl rfl (y_mv rfl rfl)
            replace F := F.eP (hA 2 (by decide)) rfl (d := 60) rfl rfl (y_sub rfl rfl rfl (by omega))
            replace F := F.eP (hA 3 (by decide)) rfl (d := 61) rfl rfl (y_ip rfl rfl rfl Try.underlying102 Try.sizeOf85 (k - 16) (by omega) (by omega))
            exact pv F (fun w2 hB2 => have S := S.call hB2; y_ld rfl rfl (arrU S (i := 1) rfl Try.isAgg85 (j := k - 16) (by omega))) rfl rfl rfl (by decide)
          · intro a w1 hB F hA
            have S0 := S
            replace S := S.call hB
            exact pv F (fun w2 hB2 => have S := S.call hB2; y_mv rfl rfl) rfl rfl rfl (by decide)
          · intro a w1 hB F hA
            have S0 := S
            replace S := S.call hB
            replace F := F.eP (hA 1 (by decide)) rfl (d := 59) rfl rfl (y_mv rfl rfl)
            replace F := F.eP (hA 2 (by decide)) rfl (d := 60) rfl rfl (y_sub rfl rfl rfl (by omega))
            replace F := F.eP (hA 3 (by decide)) rfl (d := 61) rfl rfl (y_ip rfl rfl rfl Try.underlying102 Try.sizeOf85 (k - 16) (by omega) (by omega))
            replace F := F.eP (hA 4 (by decide)) rfl (d := 62) rfl rfl (y_ld rfl rfl (arrU S (i := 1) rfl Try.isAgg85 (j := k - 16) (by omega)))
            replace F := F.eP (hA 5 (by decide)) rfl (d := 63) rfl rfl (y_mv rfl rfl)
            exact pv F (fun w2 hB2 => have S := S.call hB2; y_wa rfl rfl rfl) rfl rfl rfl (by decide)
          · intro a w1 hB F hA
            have S0 := S
            replace S := S.call hB
            exact pv F (fun w2 hB2 => have S := S.call hB2; y_mv rfl rfl) rfl rfl rfl (by decide)
          · intro a w1 hB F hA
            have S0 := S
            replace S := S.call hB
            replace F := F.eP (hA 7 (by decide)) rfl (d := 65) rfl rfl (y_mv rfl rfl)
            exact pv F (fun w2 hB2 => have S := S.call hB2; y_sub rfl rfl rfl (by omega)) rfl rfl rfl (by decide)
          · intro a w1 hB F hA
            have S0 := S
            replace S := S.call hB
            replace F := F.eP (hA 7 (by decide)) rfl (d := 65) rfl rfl (y_mv rfl rfl)
            replace F := F.eP (hA 8 (by decide)) rfl (d := 66) rfl rfl (y_sub rfl rfl rfl (by omega))
            exact pv F (fun w2 hB2 => have S := S.call hB2; y_ip rfl rfl rfl Try.underlying102 Try.sizeOf85 (k - 7) (by omega) (by omega)) rfl rfl rfl (by decide)
          · intro a w1 hB F hA
            have S0 := S
            replace S := S.call hB
            replace F := F.eP (hA 7 (by decide)) rfl (d := 65) rfl rfl (y_mv rfl rfl)
            replace F := F.eP (hA 8 (by decide)) rfl (d := 66) rfl rfl (y_sub rfl rfl rfl (by omega))
            replace F := F.eP (hA 9 (by decide)) rfl (d := 67) rfl rfl (y_ip rfl rfl rfl Try.underlying102 Try.sizeOf85 (k - 7) (by omega) (by omega))
            exact pv F (fun w2 hB2 => have S := S.call hB2; y_ld rfl rfl (arrU S (i := 1) rfl Try.isAgg85 (j := k - 7) (by omega))) rfl rfl rfl (by decide)
          · intro a w1 hB F hA
            have S0 := S
            replace S := S.call hB
            replace F := F.eP (hA 1 (by decide)) rfl (d := 59) rfl rfl (y_mv rfl rfl)
            replace F := F.eP (hA 2 (by decide)) rfl (d := 60) rfl rfl (y_sub rfl rfl rfl (by omega))
            replace F := F.eP (hA 3 (by decide)) rfl (d := 61) rfl rfl (y_ip rfl rfl rfl Try.underlying102 Try.sizeOf85 (k - 16) (by omega) (by omega))
            replace F := F.eP (hA 4 (by decide)) rfl (d := 62) rfl rfl (y_ld rfl rfl (arrU S (i := 1) rfl Try.isAgg85 (j := k - 16) (by omega)))
            replace F := F.eP (hA 5 (by decide)) rfl (d := 63) rfl rfl (y_mv rfl rfl)
            replace F := F.eP (hA 6 (by decide)) rfl (d := 64) rfl rfl (y_wa rfl rfl rfl)
            replace F := F.eP (hA 7 (by decide)) rfl (d := 65) rfl rfl (y_mv rfl rfl)
            replace F := F.eP (hA 8 (by decide)) rfl (d := 66) rfl rfl (y_sub rfl rfl rfl (by omega))
            replace F := F.eP (hA 9 (by decide)) rfl (d := 67) rfl rfl (y_ip rfl rfl rfl Try.underlying102 Try.sizeOf85 (k - 7) (by omega) (by omega))
            replace F := F.eP (hA 10 (by decide)) rfl (d := 68) rfl rfl (y_ld rfl rfl (arrU S (i := 1) rfl Try.isAgg85 (j := k - 7) (by omega)))
            exact pv F (fun w2 hB2 => have S := S.call hB2; y_wa rfl rfl rfl) rfl rfl rfl (by decide)
          · intro a w1 hB F hA
            have S0 := S
            replace S := S.call hB
            exact pv F (fun w2 hB2 => have S := S.call hB2; y_mv rfl rfl) rfl rfl rfl (by decide)
          · intro a w1 hB F hA
            have S0 := S
            replace S := S.call hB
            replace F := F.eP (hA 1 (by decide)) rfl (d := 59) rfl rfl (y_mv rfl rfl)
            replace F := F.eP (hA 2 (by decide)) rfl (d := 60) rfl rfl (y_sub rfl rfl rfl (by omega))
            replace F := F.eP (hA 3 (by decide)) rfl (d := 61) rfl rfl (y_ip rfl rfl rfl Try.underlying102 Try.sizeOf85 (k - 16) (by omega) (by omega))
            replace F := F.eP (hA 4 (by decide)) rfl (d := 62) rfl rfl (y_ld rfl rfl (arrU S (i := 1) rfl Try.isAgg85 (j := k - 16) (by omega)))
            replace F := F.eP (hA 5 (by decide)) rfl (d := 63) rfl rfl (y_mv rfl rfl)
            replace F := F.eP (hA 6 (by decide)) rfl (d := 64) rfl rfl (y_wa rfl rfl rfl)
            replace F := F.eP (hA 7 (by decide)) rfl (d := 65) rfl rfl (y_mv rfl rfl)
            replace F := F.eP (hA 8 (by decide)) rfl (d := 66) rfl rfl (y_sub rfl rfl rfl (by omega))
            replace F := F.eP (hA 9 (by decide)) rfl (d := 67) rfl rfl (y_ip rfl rfl rfl Try.underlying102 Try.sizeOf85 (k - 7) (by omega) (by omega))
            replace F := F.eP (hA 10 (by decide)) rfl (d := 68) rfl rfl (y_ld rfl rfl (arrU S (i := 1) rfl Try.isAgg85 (j := k - 7) (by omega)))
            replace F := F.eP (hA 11 (by decide)) rfl (d := 69) rfl rfl (y_wa rfl rfl rfl)
            replace F := F.eP (hA 12 (by decide)) rfl (d := 70) rfl rfl (y_mv rfl rfl)
            exact pv F (fun w2 hB2 => have S := S.call hB2; y_wa rfl rfl rfl) rfl rfl rfl (by decide)
          · intro a w1 hB F hA
            have S0 := S
            replace S := S.call hB
            replace F := F.eP (hA 0 (by decide)) rfl (d := 58) rfl rfl (y_mv rfl rfl)
            replace F := F.eP (hA 1 (by decide)) rfl (d := 59) rfl rfl (y_mv rfl rfl)
            replace F := F.eP (hA 2 (by decide)) rfl (d := 60) rfl rfl (y_sub rfl rfl rfl (by omega))
            replace F := F.eP (hA 3 (by decide)) rfl (d := 61) rfl rfl (y_ip rfl rfl rfl Try.underlying102 Try.sizeOf85 (k - 16) (by omega) (by omega))
            replace F := F.eP (hA 4 (by decide)) rfl (d := 62) rfl rfl (y_ld rfl rfl (arrU S (i := 1) rfl Try.isAgg85 (j := k - 16) (by omega)))
            replace F := F.eP (hA 5 (by decide)) rfl (d := 63) rfl rfl (y_mv rfl rfl)
            replace F := F.eP (hA 6 (by decide)) rfl (d := 64) rfl rfl (y_wa rfl rfl rfl)
            replace F := F.eP (hA 7 (by decide)) rfl (d := 65) rfl rfl (y_mv rfl rfl)
            replace F := F.eP (hA 8 (by decide)) rfl (d := 66) rfl rfl (y_sub rfl rfl rfl (by omega))
            replace F := F.eP (hA 9 (by decide)) rfl (d := 67) rfl rfl (y_ip rfl rfl rfl Try.underlying102 Try.sizeOf85 (k - 7) (by omega) (by omega))
            replace F := F.eP (hA 10 (by decide)) rfl (d := 68) rfl rfl (y_ld rfl rfl (arrU S (i := 1) rfl Try.isAgg85 (j := k - 7) (by omega)))
            replace F := F.eP (hA 11 (by decide)) rfl (d := 69) rfl rfl (y_wa rfl rfl rfl)
            replace F := F.eP (hA 12 (by decide)) rfl (d := 70) rfl rfl (y_mv rfl rfl)
            replace F := F.eP (hA 13 (by decide)) rfl (d := 71) rfl rfl (y_wa rfl rfl rfl)
            exact pv F (fun w2 hB2 => have S := S.call hB2; y_ip rfl rfl rfl Try.underlying102 Try.sizeOf85 k (by omega) (by omega)) rfl rfl rfl (by decide)
          have F := J.fr
          have E := EX.start J S
          have hle := S.bel.size
          replace S := S.call J.bel
          replace F := F.eP (J.at 0 rfl) rfl (d := 58) rfl rfl (y_mv rfl rfl)
          replace F := F.eP (J.at 1 rfl) rfl (d := 59) rfl rfl (y_mv rfl rfl)
          replace F := F.eP (J.at 2 rfl) rfl (d := 60) rfl rfl (y_sub rfl rfl rfl (by omega))
          replace F := F.eP (J.at 3 rfl) rfl (d := 61) rfl rfl (y_ip rfl rfl rfl Try.underlying102 Try.sizeOf85 (k - 16) (by omega) (by omega))
          replace F := F.eP (J.at 4 rfl) rfl (d := 62) rfl rfl (y_ld rfl rfl (arrU S (i := 1) rfl Try.isAgg85 (j := k - 16) (by omega)))
          replace F := F.eP (J.at 5 rfl) rfl (d := 63) rfl rfl (y_mv rfl rfl)
          replace F := F.eP (J.at 6 rfl) rfl (d := 64) rfl rfl (y_wa rfl rfl rfl)
          replace F := F.eP (J.at 7 rfl) rfl (d := 65) rfl rfl (y_mv rfl rfl)
          replace F := F.eP (J.at 8 rfl) rfl (d := 66) rfl rfl (y_sub rfl rfl rfl (by omega))
          replace F := F.eP (J.at 9 rfl) rfl (d := 67) rfl rfl (y_ip rfl rfl rfl Try.underlying102 Try.sizeOf85 (k - 7) (by omega) (by omega))
          replace F := F.eP (J.at 10 rfl) rfl (d := 68) rfl rfl (y_ld rfl rfl (arrU S (i := 1) rfl Try.isAgg85 (j := k - 7) (by omega)))
          replace F := F.eP (J.at 11 rfl) rfl (d := 69) rfl rfl (y_wa rfl rfl rfl)
          replace F := F.eP (J.at 12 rfl) rfl (d := 70) rfl rfl (y_mv rfl rfl)
          replace F := F.eP (J.at 13 rfl) rfl (d := 71) rfl rfl (y_wa rfl rfl rfl)
          replace F := F.eP (J.at 14 rfl) rfl (d := 72) rfl rfl (y_ip rfl rfl rfl Try.underlying102 Try.sizeOf85 k (by omega) (by omega))
          replace S := E.st
          clear E J
          refine dst F S rfl rfl rfl Try.sizeOf85 (i := 1) rfl rfl (by rw [flat_len lenU32]; omega) one1 rfl rfl fun a w F S => ?_
          rw [setU (by omega), wz_succ bs hk hk2 hzl] at S
          refine dn ?_
          refine bn <| tn <| hK13 _ _ ?_
          refine rg ?_
          refine dv F (y_mv rfl rfl) rfl rfl rfl fun a F => ?_
          refine dv F (y_add rfl rfl rfl (by omega)) rfl rfl rfl fun a F => ?_
          refine dv F (y_as rfl rfl) rfl rfl rfl fun a F => ?_
          refine dn ?_
          exact ln (by omega) ⟨k + 1, rfl, by omega, F.sub _ ⟨rfl, rfl, rfl, trivial⟩, S.pick [0, 1] _ ⟨rfl, rfl, trivial⟩ rfl⟩
        · refine wp_exit ?_
          refine tx <| lx <| bh <| tn <| hK9 _ _ ?_
          refine sq fun K17 hK17 => ?_
          obtain rfl : k = 64 := by omega
          obtain ⟨zs, hzs⟩ : ∃ zs, zs = wz bs 64 := ⟨_, rfl⟩
          rw [← hzs] at S
          have hz64 : (zs.flatMap encU32).length = 64 := by rw [hzs]; exact wz64 bs
          refine rg ?_
          refine dv F (y_ld rfl rfl (S.lda (i := 1) rfl Try.isAgg102 Try.sizeOf102 hz64)) rfl rfl rfl fun a F => ?_
          refine dsw F S rfl rfl rfl Try.sizeOf102 (i := 0) rfl rfl hz64 (by rw [flat_len lenU32]; rfl) (allflat one_U32 _) rfl rfl fun a w F S => ?_
          refine dn ?_
          refine tn <| hK17 _ _ ?_
          refine wp_ret ?_
          refine ?_
          exact rc1 F rfl rfl (S.lda (i := 0) rfl Try.isAgg102 Try.sizeOf102 hz64) ⟨by rw [← wz_end, ← hzs]; rfl, S.bel⟩

end Go.Proofs.Ytpnhinbhhpeklaa
