/- Walks of layer 2: a block is taken. -/
import Derived.Test.YtpnhinbhhpeklaaD15
set_option linter.unusedVariables false
set_option linter.unusedSimpArgs false
namespace Go.Proofs.Ytpnhinbhhpeklaa
open Go.RowKit Go.Eng DirtyPlain

open Sha
/-- resources taken as one -/
def pk (hs : List Res) : Res := ⟨fun k => ∃ i r, nth hs i = some r ∧ r.fp k, fun w => ∀ i r, nth hs i = some r → r.ok w, fun w w' h ho i r hi => r.loc w w' (fun k hk => h k ⟨i, r, hi, hk⟩) (ho i r hi)⟩
theorem _root_.Go.Eng.St.pack {w0 w : World} {x : Res} {hs : List Res} (S : St w0 w (x :: hs)) : St w0 w [x, pk hs] := by
  refine ⟨S.bel, fun i r h => ?_, fun i j r s h h' hne k hk hs' => ?_⟩
  · match i, h with
    | 0, h => cases h; exact S.own 0 _ rfl
    | 1, h => cases h; exact ⟨fun i r hi => (S.own (i + 1) r hi).1, fun k ⟨i, r, hi, hk⟩ => (S.own (i + 1) r hi).2 k hk⟩
  · match i, j, h, h', hne with
    | 0, 1, h, h', _ => cases h; cases h'; obtain ⟨i, r, hi, hk'⟩ := hs'; exact S.sep 0 (i + 1) _ _ rfl hi (by omega) k hk hk'
    | 1, 0, h, h', _ => cases h; cases h'; obtain ⟨i, r, hi, hk'⟩ := hk; exact S.sep (i + 1) 0 _ _ hi rfl (by omega) k hk' hs'
    | 0, 0, _, _, hne => exact hne rfl
    | 1, 1, _, _, hne => exact hne rfl
theorem _root_.Go.Eng.St.unpack {w0 w w' : World} {x x' : Res} {hs : List Res} (S : St w0 w' [x', pk hs]) (S0 : St w0 w (x :: hs)) : St w0 w' (x' :: hs) := by
  have h1 := S.own 1 _ rfl
  refine ⟨S.bel, fun i r h => ?_, fun i j r s h h' hne k hk hs' => ?_⟩
  · match i, h with
    | 0, h => cases h; exact S.own 0 _ rfl
    | i + 1, h => exact ⟨h1.1 i r h, fun k hk => h1.2 k ⟨i, r, h, hk⟩⟩
  · match i, j, h, h', hne with
    | 0, 0, _, _, hne => exact hne rfl
    | 0, j + 1, h, h', _ => cases h; exact S.sep 0 1 _ _ rfl rfl (by omega) k hk ⟨j, s, h', hs'⟩
    | i + 1, 0, h, h', _ => cases h'; exact S.sep 1 0 _ _ rfl rfl (by omega) k ⟨i, r, h, hk⟩ hs'
    | i + 1, j + 1, h, h', hne => exact S0.sep (i + 1) (j + 1) r s h h' hne k hk hs'
theorem flatU (G : List Int) : G.flatMap encU32 = G.map (Value.int .u32) := by
  induction G with
  | nil => rfl
  | cons g G ih => rw [List.flatMap_cons, ih]; rfl
theorem flatU_get {G : List Int} {i : Nat} (h : i < G.length) : (G.flatMap encU32)[i]? = some (.int .u32 (G.getD i 0)) := by
  rw [flatU]; simp [h]
theorem K_len : K.length = 64 := by decide +kernel
section
variable {w0 w : World} {hs : List Res} {i b e t j : Nat} {xs : List Int} {rest : List Value}
theorem arrUR (S : St w0 w hs) (h : nth hs i = some (bk b e (xs.flatMap encU32 ++ rest))) (hA : ∀ w, (isAgg t).run Try.prog w = .ok false w) (hj : j < xs.length) : Ld Try.prog w t ⟨b, 0 + j * 1, none⟩ (.int .u32 (xs.getD j 0)) := by
  rw [Nat.zero_add, Nat.mul_one]
  exact S.ld h (by rw [nth_eq, List.getElem?_append_left (by rw [flat_len lenU32]; omega), flatU_get hj]) hA
theorem arrUD (S : St w0 w hs) (h : nth hs i = some (bk b e (xs.flatMap encU32))) (hA : ∀ w, (isAgg t).run Try.prog w = .ok false w) (hj : j < xs.length) : Ld Try.prog w t ⟨b, 0 + j * 1, none⟩ (.int .u32 (xs.getD j 0)) :=
  arrUR (rest := []) S (by rw [List.append_nil]; exact h) hA hj
theorem ldS8 {s : S8} (S : St w0 w hs) (h : nth hs i = some (bk b e (s.l.flatMap encU32 ++ rest))) : Ld Try.prog w 91 ⟨b, 0, none⟩ (.agg (s.l.flatMap encU32).toArray) :=
  lda Try.isAgg91 Try.sizeOf91 (by rw [flat_len lenU32]; rfl) fun j v hv => by
    rw [Nat.zero_add]
    exact S.cell h (by rw [nth_eq, List.getElem?_append_left (List.getElem?_eq_some_iff.1 hv).1]; exact hv)
theorem ldS8' {s : S8} (S : St w0 w hs) (h : nth hs i = some (bk b e (s.l.flatMap encU32))) : Ld Try.prog w 91 ⟨b, 0, none⟩ (.agg (s.l.flatMap encU32).toArray) :=
  ldS8 (rest := []) S (by rw [List.append_nil]; exact h)
theorem setUR {G : List Int} {k : Nat} {x : Int} (h : k < G.length) : putl (G.flatMap encU32 ++ rest) (0 + k * 1) (cellsOf (.int .u32 x)) = (G.set k x).flatMap encU32 ++ rest := by
  rw [flatU G, Nat.zero_add, Nat.mul_one]
  refine List.ext_getElem? fun i => ?_
  rw [(putl_get _ _ _ (by show k + 1 ≤ _; simp; omega)).2 i]
  show (if k ≤ i ∧ i < k + 1 then [Value.int .u32 x][i - k]? else _) = _
  by_cases hik : k = i
  · subst hik
    rw [if_pos ⟨Nat.le_refl _, by omega⟩, Nat.sub_self, flatU, List.getElem?_append_left (by simp; omega), List.getElem?_map, List.getElem?_set]
    simp [h]
  · rw [if_neg (by omega), flatU]
    simp only [List.getElem?_append, List.length_map, List.length_set, List.getElem?_map, List.getElem?_set, if_neg hik]
end
/-- the first i of the state are renewed -/
def fl (s t : S8) (i : Nat) : List Int := (fin s t).l.take i ++ s.l.drop i
theorem fl_len (s t : S8) {i : Nat} (h : i ≤ 8) : (fl s t i).length = 8 := by
  have h1 : (fin s t).l.length = 8 := rfl
  have h2 : s.l.length = 8 := rfl
  rw [fl, List.length_append, List.length_take, List.length_drop]; omega
theorem fl_end (s t : S8) : fl s t 8 = (fin s t).l := rfl
theorem fl_succ (s t : S8) {i : Nat} (h : i < 8) : (fl s t i).set i (IntKind.u32.wrap ((fl s t i).getD i 0 + t.l.getD i 0)) = fl s t (i + 1) := by
  rcases i with _ | _ | _ | _ | _ | _ | _ | _ | i
  all_goals first | rfl | omega
theorem bd91_0_1_2_3_4_5_6_7 {a b c d e f g h : Int} (w : World) : (Instr.build 91 [(0, .int .u32 a), (1, .int .u32 b), (2, .int .u32 c), (3, .int .u32 d), (4, .int .u32 e), (5, .int .u32 f), (6, .int .u32 g), (7, .int .u32 h)].toArray).run Try.prog w = .ok (.agg ([a, b, c, d, e, f, g, h].flatMap encU32).toArray) w := by kernel_rfl
set_option maxRecDepth 4000
set_option maxHeartbeats 1000000 in
theorem f43_c {w0 W0 : World} {bb e : Nat} {mr : Res} {rest : List Value} {A : Option Addr} {c : Nat} (s : S8) (bs : List Int) (S : St w0 W0 [bk bb e (s.l.flatMap encU32 ++ rest), mr]) (hm : ∀ w, mr.ok w → Sl w 1 encU8 A bs) (hb : bs.length = 64) (hr : ∀ b ∈ bs, 0 ≤ b ∧ b < 256) :
    Calls Try.prog 43 [.pointer (some ⟨bb, 0, none⟩), .slice A bs.length c].toArray W0 (Ret fun v W' => St w0 W' [bk bb e ((blk s (wpre bs 64)).l.flatMap encU32 ++ rest), mr]) := by
  refine ent Try.func43 Try.ntmps43 rfl rfl ?_
  intro a F
  refine sq fun K1 hK1 => ?_
  refine rp [.p, .p, .p, HK.v (.agg (K.flatMap encU32).toArray), .b 91 (mkP) [] (fun _ => ((List.replicate 8 0).flatMap encU32)), .b 102 (mkP) [] (fun _ => ((List.replicate 64 0).flatMap encU32))] 6 [[], [0], [0, 1], [], [], []] [(0, _), (1, _)] F ⟨rfl, rfl, trivial⟩ Try.mixed (by kernel_rfl) rfl (.inr ⟨by decide, by kernel_rfl, by kernel_rfl⟩) (by kernel_rfl) ⟨?_, ?_, ?_, ?_, ?_, ?_, trivial⟩ fun a w1 J => ?_
  · intro a w1 hB F hA
    have S0 := S
    replace S := S.call hB
    exact pv F (fun w2 hB2 => have S := S.call hB2; y_mv rfl rfl) rfl rfl rfl (by decide)
  · intro a w1 hB F hA
    have S0 := S
    replace S := S.call hB
    replace F := F.eP (hA 0 (by decide)) rfl (d := 14) rfl rfl (y_mv rfl rfl)
    exact pv F (fun w2 hB2 => have S := S.call hB2; y_nc rfl rfl) rfl rfl rfl (by decide)
  · intro a w1 hB F hA
    have S0 := S
    replace S := S.call hB
    replace F := F.eP (hA 0 (by decide)) rfl (d := 14) rfl rfl (y_mv rfl rfl)
    replace F := F.eP (hA 1 (by decide)) rfl (d := 15) rfl rfl (y_nc rfl rfl)
    exact pv F (fun w2 hB2 => have S := S.call hB2; y_ld rfl rfl (ldS8 S (i := 0) rfl)) rfl rfl rfl (by decide)
  · intro a w1 hB F hA
    have S0 := S
    replace S := S.call hB
    refine pcv F (c_f rfl rfl rfl Try.call47) rfl rfl ?_
    exact f47_c _
  · intro a w1 hB F hA
    have S0 := S
    replace S := S.call hB
    exact pb F rfl (y_al rfl Try.zeroValue91 rfl) (fun _ => rfl) rfl rfl rfl
  · intro a w1 hB F hA
    have S0 := S
    replace S := S.call hB
    exact pb F rfl (y_al rfl Try.zeroValue102 rfl) (fun _ => rfl) rfl rfl rfl
  have F := J.fr
  have E := EX.start J S
  have hle := S.bel.size
  replace S := S.call J.bel
  replace F := F.eP (J.at 0 rfl) rfl (d := 14) rfl rfl (y_mv rfl rfl)
  replace F := F.eP (J.at 1 rfl) rfl (d := 15) rfl rfl (y_nc rfl rfl)
  replace F := F.eP (J.at 2 rfl) rfl (d := 16) rfl rfl (y_ld rfl rfl (ldS8 S (i := 0) rfl))
  replace F := F.eV (P := Try.prog) (J.at 3 rfl) rfl (d := 17) rfl rfl
  obtain ⟨b4, F, hb4, ho4⟩ := F.eB (P := Try.prog) (e := 91) (mk := mkP) (xs := []) (cs := fun _ => ((List.replicate 8 0).flatMap encU32)) (J.at 4 rfl) rfl (d := 4) rfl rfl rfl
  have E := EX.row J hle E 4 rfl rfl (d := 4) (e := 91) (cs := ((List.replicate 8 0).flatMap encU32)) rfl hb4 ho4
  obtain ⟨b5, F, hb5, ho5⟩ := F.eB (P := Try.prog) (e := 102) (mk := mkP) (xs := []) (cs := fun _ => ((List.replicate 64 0).flatMap encU32)) (J.at 5 rfl) rfl (d := 5) rfl rfl rfl
  have E := EX.row J hle E 5 rfl rfl (d := 5) (e := 102) (cs := ((List.replicate 64 0).flatMap encU32)) rfl hb5 ho5
  replace S := E.st
  clear E J
  refine dsw F S rfl rfl rfl Try.sizeOf91 (i := 2) rfl rfl rfl rfl (allflat one_U32 _) rfl rfl fun a w F S => ?_
  refine dsw F S rfl rfl rfl Try.sizeOf102 (i := 3) rfl rfl (show (K.flatMap encU32).length = 64 by rw [flat_len lenU32, K_len]) rfl (allflat one_U32 _) rfl rfl fun a w F S => ?_
  refine dn ?_
  refine tn <| hK1 _ _ ?_
  refine sq fun K2 hK2 => ?_
  refine sq fun K3 hK3 => ?_
  obtain ⟨W, hW⟩ : ∃ W, W = wpre bs 64 := ⟨_, rfl⟩
  have hWl : W.length = 64 := by rw [hW, wpre_len]
  refine rg ?_
  refine dv F (y_mv rfl rfl) rfl rfl rfl fun a F => ?_
  refine dc F (c_f rfl rfl rfl Try.call48) rfl rfl rfl (f48_c bs _ (hm _ (S.ok (i := 1) rfl)) hb hr) fun a v w' hr F => ?_
  obtain ⟨rfl, hb2⟩ := hr
  replace S := S.call hb2
  rw [← hW] at F
  refine dv F (y_mv rfl rfl) rfl rfl rfl fun a F => ?_
  refine dn ?_
  refine tn <| hK3 _ _ ?_
  refine bl ?_
  refine lp (fun m a w => ∃ i : Nat, m = 64 - i ∧ (i ≤ 64) ∧ Fr 114 a [(0, .pointer (some ⟨bb, 0, none⟩)), (4, .pointer (some ⟨b4, 0, none⟩)), (5, .pointer (some ⟨b5, 0, none⟩)), (19, .agg (W.flatMap encU32).toArray), (20, .int .i64 (i : Int))] ∧ St w0 w [bk bb e (s.l.flatMap encU32 ++ rest), mr, bk b4 91 ((rnds W s i).l.flatMap encU32), bk b5 102 (K.flatMap encU32)]) (64) ?_ ?_
  · exact ⟨0, rfl, Nat.zero_le _, F.sub _ ⟨rfl, rfl, rfl, rfl, rfl, trivial⟩, S.pick [0, 1, 2, 3] _ ⟨rfl, rfl, rfl, rfl, trivial⟩ rfl⟩
  · rintro m a w ⟨i, hm, hi, F, S⟩
    refine sq fun K4 hK4 => ?_
    refine rg ?_
    refine dv F (y_lt rfl rfl rfl) rfl rfl rfl fun a F => ?_
    refine dn ?_
    refine tn <| hK4 _ _ ?_
    refine sq fun K5 hK5 => ?_
    refine cd F rfl (fun h1 => ?_) (fun h1 => ?_)
    · refine wp_skip ?_
      refine tn <| hK5 _ _ ?_
      refine sq fun K6 hK6 => ?_
      refine bl ?_
      refine sq fun K7 hK7 => ?_
      have hi2 : i < 64 := by omega
      refine rg ?_
      refine dv F (y_mv rfl rfl) rfl rfl rfl fun a F => ?_
      refine dv F (y_ix rfl rfl rfl Try.underlying102 Try.sizeOf85 Try.isAgg85 i rfl hi2 (flatU_get (by omega))) rfl rfl rfl fun a F => ?_
      refine dv F (y_as rfl rfl) rfl rfl rfl fun a F => ?_
      refine dv F (y_as rfl rfl) rfl rfl rfl fun a F => ?_
      refine dn ?_
      refine tn <| hK7 _ _ ?_
      refine sq fun K8 hK8 => ?_
      refine rq (C := fun w => St _ w _) Try.mixed (by kernel_rfl) (S.drewN 1) ?_
      refine qv F (fun w S => y_ip rfl rfl rfl Try.underlying91 Try.sizeOf85 0 rfl (by decide)) rfl rfl rfl fun a F => ?_
      refine qv F (fun w S => y_ld rfl rfl (S.ld (i := 2) rfl rfl Try.isAgg85)) rfl rfl rfl fun a F => ?_
      refine qv F (fun w S => y_ip rfl rfl rfl Try.underlying91 Try.sizeOf85 4 rfl (by decide)) rfl rfl rfl fun a F => ?_
      refine qv F (fun w S => y_ld rfl rfl (S.ld (i := 2) rfl rfl Try.isAgg85)) rfl rfl rfl fun a F => ?_
      refine qv F (fun w S => y_as rfl rfl) rfl rfl rfl fun a F => ?_
      refine qv F (fun w S => y_as rfl rfl) rfl rfl rfl fun a F => ?_
      refine qn fun w S => ?_
      refine tn <| hK8 _ _ ?_
      refine sq fun K9 hK9 => ?_
      refine rq (C := fun w => St _ w _) Try.mixed (by kernel_rfl) (S.drewN 1) ?_
      refine qv F (fun w S => y_ip rfl rfl rfl Try.underlying91 Try.sizeOf85 7 rfl (by decide)) rfl rfl rfl fun a F => ?_
      refine qv F (fun w S => y_ld rfl rfl (S.ld (i := 2) rfl rfl Try.isAgg85)) rfl rfl rfl fun a F => ?_
      refine qv F (fun w S => y_mv rfl rfl) rfl rfl rfl fun a F => ?_
      refine qc F (.int .u32 (rot (rnds W s i).e 6)) (fun w S => (c_f rfl rfl rfl Try.call49)) rfl rfl rfl (fun w S => (f49_c _ 6 (by decide) _).mono (Ret.mono fun v w' h => ⟨h.1, S.call h.2⟩)) fun a F => ?_
      refine qv F (fun w S => y_mv rfl rfl) rfl rfl rfl fun a F => ?_
      refine qc F (.int .u32 (rot (rnds W s i).e 11)) (fun w S => (c_f rfl rfl rfl Try.call49)) rfl rfl rfl (fun w S => (f49_c _ 11 (by decide) _).mono (Ret.mono fun v w' h => ⟨h.1, S.call h.2⟩)) fun a F => ?_
      refine qv F (fun w S => y_xor rfl rfl rfl) rfl rfl rfl fun a F => ?_
      refine qv F (fun w S => y_mv rfl rfl) rfl rfl rfl fun a F => ?_
      refine qc F (.int .u32 (rot (rnds W s i).e 25)) (fun w S => (c_f rfl rfl rfl Try.call49)) rfl rfl rfl (fun w S => (f49_c _ 25 (by decide) _).mono (Ret.mono fun v w' h => ⟨h.1, S.call h.2⟩)) fun a F => ?_
      refine qv F (fun w S => y_xor rfl rfl rfl) rfl rfl rfl fun a F => ?_
      refine qv F (fun w S => y_wa rfl rfl rfl) rfl rfl rfl fun a F => ?_
      refine qv F (fun w S => y_mv rfl rfl) rfl rfl rfl fun a F => ?_
      refine qv F (fun w S => y_ip rfl rfl rfl Try.underlying91 Try.sizeOf85 5 rfl (by decide)) rfl rfl rfl fun a F => ?_
      refine qv F (fun w S => y_ld rfl rfl (S.ld (i := 2) rfl rfl Try.isAgg85)) rfl rfl rfl fun a F => ?_
      refine qv F (fun w S => y_and rfl rfl rfl) rfl rfl rfl fun a F => ?_
      refine qv F (fun w S => y_mv rfl rfl) rfl rfl rfl fun a F => ?_
      refine qv F (fun w S => y_com rfl rfl) rfl rfl rfl fun a F => ?_
      refine qv F (fun w S => y_ip rfl rfl rfl Try.underlying91 Try.sizeOf85 6 rfl (by decide)) rfl rfl rfl fun a F => ?_
      refine qv F (fun w S => y_ld rfl rfl (S.ld (i := 2) rfl rfl Try.isAgg85)) rfl rfl rfl fun a F => ?_
      refine qv F (fun w S => y_and rfl rfl rfl) rfl rfl rfl fun a F => ?_
      refine qv F (fun w S => y_xor rfl rfl rfl) rfl rfl rfl fun a F => ?_
      refine qv F (fun w S => y_wa rfl rfl rfl) rfl rfl rfl fun a F => ?_
      refine qv F (fun w S => y_mv rfl rfl) rfl rfl rfl fun a F => ?_
      refine qv F (fun w S => y_ip rfl rfl rfl Try.underlying102 Try.sizeOf85 i rfl hi2) rfl rfl rfl fun a F => ?_
      refine qv F (fun w S => y_ld rfl rfl (arrUD S (i := 3) rfl Try.isAgg85 (j := i) (by rw [K_len]; exact hi2))) rfl rfl rfl fun a F => ?_
      refine qv F (fun w S => y_wa rfl rfl rfl) rfl rfl rfl fun a F => ?_
      refine qv F (fun w S => y_mv rfl rfl) rfl rfl rfl fun a F => ?_
      refine qv F (fun w S => y_wa rfl rfl rfl) rfl rfl rfl fun a F => ?_
      refine qv F (fun w S => y_as rfl rfl) rfl rfl rfl fun a F => ?_
      refine qn fun w S => ?_
      refine tn <| hK9 _ _ ?_
      refine sq fun K10 hK10 => ?_
      refine rq (C := fun w => St _ w _) Try.mixed (by kernel_rfl) (S.drewN 1) ?_
      refine qv F (fun w S => y_mv rfl rfl) rfl rfl rfl fun a F => ?_
      refine qc F (.int .u32 (rot (rnds W s i).a 2)) (fun w S => (c_f rfl rfl rfl Try.call49)) rfl rfl rfl (fun w S => (f49_c _ 2 (by decide) _).mono (Ret.mono fun v w' h => ⟨h.1, S.call h.2⟩)) fun a F => ?_
      refine qv F (fun w S => y_mv rfl rfl) rfl rfl rfl fun a F => ?_
      refine qc F (.int .u32 (rot (rnds W s i).a 13)) (fun w S => (c_f rfl rfl rfl Try.call49)) rfl rfl rfl (fun w S => (f49_c _ 13 (by decide) _).mono (Ret.mono fun v w' h => ⟨h.1, S.call h.2⟩)) fun a F => ?_
      refine qv F (fun w S => y_xor rfl rfl rfl) rfl rfl rfl fun a F => ?_
      refine qv F (fun w S => y_mv rfl rfl) rfl rfl rfl fun a F => ?_
      refine qc F (.int .u32 (rot (rnds W s i).a 22)) (fun w S => (c_f rfl rfl rfl Try.call49)) rfl rfl rfl (fun w S => (f49_c _ 22 (by decide) _).mono (Ret.mono fun v w' h => ⟨h.1, S.call h.2⟩)) fun a F => ?_
      refine qv F (fun w S => y_xor rfl rfl rfl) rfl rfl rfl fun a F => ?_
      refine qv F (fun w S => y_mv rfl rfl) rfl rfl rfl fun a F => ?_
      refine qv F (fun w S => y_ip rfl rfl rfl Try.underlying91 Try.sizeOf85 1 rfl (by decide)) rfl rfl rfl fun a F => ?_
      refine qv F (fun w S => y_ld rfl rfl (S.ld (i := 2) rfl rfl Try.isAgg85)) rfl rfl rfl fun a F => ?_
      refine qv F (fun w S => y_and rfl rfl rfl) rfl rfl rfl fun a F => ?_
      refine qv F (fun w S => y_mv rfl rfl) rfl rfl rfl fun a F => ?_
      refine qv F (fun w S => y_ip rfl rfl rfl Try.underlying91 Try.sizeOf85 2 rfl (by decide)) rfl rfl rfl fun a F => ?_
      refine qv F (fun w S => y_ld rfl rfl (S.ld (i := 2) rfl rfl Try.isAgg85)) rfl rfl rfl fun a F => ?_
      refine qv F (fun w S => y_and rfl rfl rfl) rfl rfl rfl fun a F => ?_
      refine qv F (fun w S => y_xor rfl rfl rfl) rfl rfl rfl fun a F => ?_
      refine qv F (fun w S => y_ip rfl rfl rfl Try.underlying91 Try.sizeOf85 1 rfl (by decide)) rfl rfl rfl fun a F => ?_
      refine qv F (fun w S => y_ld rfl rfl (S.ld (i := 2) rfl rfl Try.isAgg85)) rfl rfl rfl fun a F => ?_
      refine qv F (fun w S => y_ip rfl rfl rfl Try.underlying91 Try.sizeOf85 2 rfl (by decide)) rfl rfl rfl fun a F => ?_
      refine qv F (fun w S => y_ld rfl rfl (S.ld (i := 2) rfl rfl Try.isAgg85)) rfl rfl rfl fun a F => ?_
      refine qv F (fun w S => y_and rfl rfl rfl) rfl rfl rfl fun a F => ?_
      refine qv F (fun w S => y_xor rfl rfl rfl) rfl rfl rfl fun a F => ?_
      refine qv F (fun w S => y_wa rfl rfl rfl) rfl rfl rfl fun a F => ?_
      refine qv F (fun w S => y_as rfl rfl) rfl rfl rfl fun a F => ?_
      refine qn fun w S => ?_
      refine tn <| hK10 _ _ ?_
      refine rg ?_
      refine dv F (y_mv rfl rfl) rfl rfl rfl fun a F => ?_
      refine dv F (y_mv rfl rfl) rfl rfl rfl fun a F => ?_
      refine dv F (y_wa rfl rfl rfl) rfl rfl rfl fun a F => ?_
      refine dv F (y_mv rfl rfl) rfl rfl rfl fun a F => ?_
      refine dv F (y_ip rfl rfl rfl Try.underlying91 Try.sizeOf85 1 rfl (by decide)) rfl rfl rfl fun a F => ?_
      refine dv F (y_ld rfl rfl (S.ld (i := 2) rfl rfl Try.isAgg85)) rfl rfl rfl fun a F => ?_
      refine dv F (y_ip rfl rfl rfl Try.underlying91 Try.sizeOf85 2 rfl (by decide)) rfl rfl rfl fun a F => ?_
      refine dv F (y_ld rfl rfl (S.ld (i := 2) rfl rfl Try.isAgg85)) rfl rfl rfl fun a F => ?_
      refine dv F (y_ip rfl rfl rfl Try.underlying91 Try.sizeOf85 3 rfl (by decide)) rfl rfl rfl fun a F => ?_
      refine dv F (y_ld rfl rfl (S.ld (i := 2) rfl rfl Try.isAgg85)) rfl rfl rfl fun a F => ?_
      refine dv F (y_mv rfl rfl) rfl rfl rfl fun a F => ?_
      refine dv F (y_wa rfl rfl rfl) rfl rfl rfl fun a F => ?_
      refine dv F (y_mv rfl rfl) rfl rfl rfl fun a F => ?_
      refine dv F (y_ip rfl rfl rfl Try.underlying91 Try.sizeOf85 5 rfl (by decide)) rfl rfl rfl fun a F => ?_
      refine dv F (y_ld rfl rfl (S.ld (i := 2) rfl rfl Try.isAgg85)) rfl rfl rfl fun a F => ?_
      refine dv F (y_ip rfl rfl rfl Try.underlying91 Try.sizeOf85 6 rfl (by decide)) rfl rfl rfl fun a F => ?_
      refine dv F (y_ld rfl rfl (S.ld (i := 2) rfl rfl Try.isAgg85)) rfl rfl rfl fun a F => ?_
      refine dv F (y_bd rfl rfl (bd91_0_1_2_3_4_5_6_7)) rfl rfl rfl fun a F => ?_
      refine dsw F S rfl rfl rfl Try.sizeOf91 (i := 2) rfl rfl rfl rfl (allflat one_U32 _) rfl rfl fun a w F S => ?_
      refine dn ?_
      refine bn <| tn <| hK6 _ _ ?_
      refine rg ?_
      refine dv F (y_add rfl rfl rfl (by omega)) rfl rfl rfl fun a F => ?_
      refine dv F (y_mv rfl rfl) rfl rfl rfl fun a F => ?_
      refine dn ?_
      exact ln (by omega) ⟨i + 1, rfl, by omega, F.sub _ ⟨rfl, rfl, rfl, rfl, rfl, trivial⟩, S.pick [0, 1, 2, 3] _ ⟨rfl, rfl, rfl, rfl, trivial⟩ rfl⟩
    · refine wp_exit ?_
      refine tx <| lx <| bh <| tn <| hK2 _ _ ?_
      refine sq fun K11 hK11 => ?_
      obtain rfl : i = 64 := by omega
      obtain ⟨t, ht⟩ : ∃ t, t = rnds W s 64 := ⟨_, rfl⟩
      rw [← ht] at S
      refine rg ?_
      refine dv F (y_ld rfl rfl (ldS8' S (i := 2) rfl)) rfl rfl rfl fun a F => ?_
      refine dv F (y_mv rfl rfl) rfl rfl rfl fun a F => ?_
      refine dn ?_
      refine tn <| hK11 _ _ ?_
      refine bl ?_
      refine lp (fun m a w => ∃ i : Nat, m = 8 - i ∧ (i ≤ 8) ∧ Fr 114 a [(0, .pointer (some ⟨bb, 0, none⟩)), (99, .agg (t.l.flatMap encU32).toArray), (100, .int .i64 (i : Int))] ∧ St w0 w [bk bb e ((fl s t i).flatMap encU32 ++ rest), mr]) (8) ?_ ?_
      · exact ⟨0, rfl, Nat.zero_le _, F.sub _ ⟨rfl, rfl, rfl, trivial⟩, S.pick [0, 1] _ ⟨rfl, rfl, trivial⟩ rfl⟩
      · rintro m a w ⟨i, hm, hi, F, S⟩
        refine sq fun K12 hK12 => ?_
        refine rg ?_
        refine dv F (y_lt rfl rfl rfl) rfl rfl rfl fun a F => ?_
        refine dn ?_
        refine tn <| hK12 _ _ ?_
        refine sq fun K13 hK13 => ?_
        refine cd F rfl (fun h2 => ?_) (fun h2 => ?_)
        · refine wp_skip ?_
          refine tn <| hK13 _ _ ?_
          refine sq fun K14 hK14 => ?_
          refine bl ?_
          refine sq fun K15 hK15 => ?_
          have hi2 : i < 8 := by omega
          refine rg ?_
          refine dv F (y_mv rfl rfl) rfl rfl rfl fun a F => ?_
          refine dv F (y_ix rfl rfl rfl Try.underlying91 Try.sizeOf85 Try.isAgg85 i rfl hi2 (flatU_get (by exact hi2))) rfl rfl rfl fun a F => ?_
          refine dv F (y_as rfl rfl) rfl rfl rfl fun a F => ?_
          refine dv F (y_as rfl rfl) rfl rfl rfl fun a F => ?_
          refine dn ?_
          refine tn <| hK15 _ _ ?_
          refine rp [.p, .p, .p, .p, .p, .p, .p, .p, .p] 9 [[], [], [0], [0, 1, 2], [0, 1, 2, 3], [], [0, 1, 2, 3, 4, 5], [0], [0, 1, 2, 3, 4, 5, 6, 7]] [(0, _), (12, _), (13, _), (99, _), (100, _), (101, _), (102, _), (103, _)] F ⟨rfl, rfl, rfl, rfl, rfl, rfl, rfl, rfl, trivial⟩ Try.mixed (by kernel_rfl) rfl (.inr ⟨by decide, by kernel_rfl, by kernel_rfl⟩) (by kernel_rfl) ⟨?_, ?_, ?_, ?_, ?_, ?_, ?_, ?_, ?_, trivial⟩ fun a w1 J => ?_
          · intro a w1 hB F hA
            have S0 := S
            replace S := S.call hB
            exact pv F (fun w2 hB2 => have S := S.call hB2; y_mv rfl rfl) rfl rfl rfl (by decide)
          · intro a w1 hB F hA
            have S0 := S
            replace S := S.call hB
            exact pv F (fun w2 hB2 => have S := S.call hB2; y_mv rfl rfl) rfl rfl rfl (by decide)
          · intro a w1 hB F hA
            have S0 := S
            replace S := S.call hB
            replace F := F.eP (hA 0 (by decide)) rfl (d := 104) rfl rfl (y_mv rfl rfl)
            exact pv F (fun w2 hB2 => have S := S.call hB2; y_nc rfl rfl) rfl rfl rfl (by decide)
          · intro a w1 hB F hA
            have S0 := S
            replace S := S.call hB
            replace F := F.eP (hA 0 (by decide)) rfl (d := 104) rfl rfl (y_mv rfl rfl)
            replace F := F.eP (hA 1 (by decide)) rfl (d := 105) rfl rfl (y_mv rfl rfl)
            replace F := F.eP (hA 2 (by decide)) rfl (d := 106) rfl rfl (y_nc rfl rfl)
            exact pv F (fun w2 hB2 => have S := S.call hB2; y_ip rfl rfl rfl Try.underlying91 Try.sizeOf85 i rfl hi2) rfl rfl rfl (by decide)
          · intro a w1 hB F hA
            have S0 := S
            replace S := S.call hB
            replace F := F.eP (hA 0 (by decide)) rfl (d := 104) rfl rfl (y_mv rfl rfl)
            replace F := F.eP (hA 1 (by decide)) rfl (d := 105) rfl rfl (y_mv rfl rfl)
            replace F := F.eP (hA 2 (by decide)) rfl (d := 106) rfl rfl (y_nc rfl rfl)
            replace F := F.eP (hA 3 (by decide)) rfl (d := 107) rfl rfl (y_ip rfl rfl rfl Try.underlying91 Try.sizeOf85 i rfl hi2)
            exact pv F (fun w2 hB2 => have S := S.call hB2; y_ld rfl rfl (arrUR S (i := 0) rfl Try.isAgg85 (j := i) (by rw [fl_len s t hi]; exact hi2))) rfl rfl rfl (by decide)
          · intro a w1 hB F hA
            have S0 := S
            replace S := S.call hB
            exact pv F (fun w2 hB2 => have S := S.call hB2; y_mv rfl rfl) rfl rfl rfl (by decide)
          · intro a w1 hB F hA
            have S0 := S
            replace S := S.call hB
            replace F := F.eP (hA 0 (by decide)) rfl (d := 104) rfl rfl (y_mv rfl rfl)
            replace F := F.eP (hA 1 (by decide)) rfl (d := 105) rfl rfl (y_mv rfl rfl)
            replace F := F.eP (hA 2 (by decide)) rfl (d := 106) rfl rfl (y_nc rfl rfl)
            replace F := F.eP (hA 3 (by decide)) rfl (d := 107) rfl rfl (y_ip rfl rfl rfl Try.underlying91 Try.sizeOf85 i rfl hi2)
            replace F := F.eP (hA 4 (by decide)) rfl (d := 108) rfl rfl (y_ld rfl rfl (arrUR S (i := 0) rfl Try.isAgg85 (j := i) (by rw [fl_len s t hi]; exact hi2)))
            replace F := F.eP (hA 5 (by decide)) rfl (d := 109) rfl rfl (y_mv rfl rfl)
            exact pv F (fun w2 hB2 => have S := S.call hB2; y_wa rfl rfl rfl) rfl rfl rfl (by decide)
          · intro a w1 hB F hA
            have S0 := S
            replace S := S.call hB
            replace F := F.eP (hA 0 (by decide)) rfl (d := 104) rfl rfl (y_mv rfl rfl)
            exact pv F (fun w2 hB2 => have S := S.call hB2; y_nc rfl rfl) rfl rfl rfl (by decide)
          · intro a w1 hB F hA
            have S0 := S
            replace S := S.call hB
            replace F := F.eP (hA 0 (by decide)) rfl (d := 104) rfl rfl (y_mv rfl rfl)
            replace F := F.eP (hA 1 (by decide)) rfl (d := 105) rfl rfl (y_mv rfl rfl)
            replace F := F.eP (hA 2 (by decide)) rfl (d := 106) rfl rfl (y_nc rfl rfl)
            replace F := F.eP (hA 3 (by decide)) rfl (d := 107) rfl rfl (y_ip rfl rfl rfl Try.underlying91 Try.sizeOf85 i rfl hi2)
            replace F := F.eP (hA 4 (by decide)) rfl (d := 108) rfl rfl (y_ld rfl rfl (arrUR S (i := 0) rfl Try.isAgg85 (j := i) (by rw [fl_len s t hi]; exact hi2)))
            replace F := F.eP (hA 5 (by decide)) rfl (d := 109) rfl rfl (y_mv rfl rfl)
            replace F := F.eP (hA 6 (by decide)) rfl (d := 110) rfl rfl (y_wa rfl rfl rfl)
            replace F := F.eP (hA 7 (by decide)) rfl (d := 111) rfl rfl (y_nc rfl rfl)
            exact pv F (fun w2 hB2 => have S := S.call hB2; y_ip rfl rfl rfl Try.underlying91 Try.sizeOf85 i rfl hi2) rfl rfl rfl (by decide)
          have F := J.fr
          have E := EX.start J S
          have hle := S.bel.size
          replace S := S.call J.bel
          replace F := F.eP (J.at 0 rfl) rfl (d := 104) rfl rfl (y_mv rfl rfl)
          replace F := F.eP (J.at 1 rfl) rfl (d := 105) rfl rfl (y_mv rfl rfl)
          replace F := F.eP (J.at 2 rfl) rfl (d := 106) rfl rfl (y_nc rfl rfl)
          replace F := F.eP (J.at 3 rfl) rfl (d := 107) rfl rfl (y_ip rfl rfl rfl Try.underlying91 Try.sizeOf85 i rfl hi2)
          replace F := F.eP (J.at 4 rfl) rfl (d := 108) rfl rfl (y_ld rfl rfl (arrUR S (i := 0) rfl Try.isAgg85 (j := i) (by rw [fl_len s t hi]; exact hi2)))
          replace F := F.eP (J.at 5 rfl) rfl (d := 109) rfl rfl (y_mv rfl rfl)
          replace F := F.eP (J.at 6 rfl) rfl (d := 110) rfl rfl (y_wa rfl rfl rfl)
          replace F := F.eP (J.at 7 rfl) rfl (d := 111) rfl rfl (y_nc rfl rfl)
          replace F := F.eP (J.at 8 rfl) rfl (d := 112) rfl rfl (y_ip rfl rfl rfl Try.underlying91 Try.sizeOf85 i rfl hi2)
          replace S := E.st
          clear E J
          refine dst F S rfl rfl rfl Try.sizeOf85 (i := 0) rfl rfl (by rw [List.length_append, flat_len lenU32, fl_len s t hi]; omega) one1 rfl rfl fun a w F S => ?_
          rw [setUR (by rw [fl_len s t hi]; exact hi2), fl_succ s t hi2] at S
          refine dn ?_
          refine bn <| tn <| hK14 _ _ ?_
          refine rg ?_
          refine dv F (y_add rfl rfl rfl (by omega)) rfl rfl rfl fun a F => ?_
          refine dv F (y_mv rfl rfl) rfl rfl rfl fun a F => ?_
          refine dn ?_
          exact ln (by omega) ⟨i + 1, rfl, by omega, F.sub _ ⟨rfl, rfl, rfl, trivial⟩, S.pick [0, 1] _ ⟨rfl, rfl, trivial⟩ rfl⟩
        · refine wp_exit ?_
          refine tx <| lx <| bh <| ?_
          obtain rfl : i = 8 := by omega
          rw [fl_end, ht, hW] at S
          exact rn0 F rfl (S.pick [0, 1] _ ⟨rfl, rfl, trivial⟩ rfl)

end Go.Proofs.Ytpnhinbhhpeklaa
