/- A part of the proof of a law of this seat. No condition of its own. -/
import Derived.Test.YtgcmddaibnimjaaGreatDoorM4
set_option linter.unusedVariables false
set_option linter.unusedSimpArgs false
set_option maxRecDepth 8000
set_option maxHeartbeats 4000000
namespace Go.Proofs.YtgcmddaibnimjaaGreatDoor
open Go.RowKit Go.Eng
def BS.give (B : BC) (β : BS) (k : Kn) : Int × BS :=
 if β.over = true then (19, β)
 else if ¬ k.path = β.asks then (1, β)
 else if k.is = true ∧ 65536 < k.data.size then (6, β)
 else if ¬ (β.run.give B.C.env k).1 = 0 then (0, BS.fail { β with run := (β.run.give B.C.env k).2, reads := β.reads ++ [sumRd k] } (β.run.give B.C.env k).1)
 else (0, BS.go B { β with run := (β.run.give B.C.env k).2, reads := β.reads ++ [sumRd k] })
section
variable {B : BC} {β : BS} {k : Kn}
theorem give_over (h : β.over = true) : β.give B k = (19, β) := if_pos h
theorem give_asks (h : β.over = false) (h1 : ¬ k.path = β.asks) : β.give B k = (1, β) := (if_neg (by simp [h])).trans (if_pos h1)
theorem give_lim (h : β.over = false) (h1 : k.path = β.asks) (h2 : k.is = true ∧ 65536 < k.data.size) : β.give B k = (6, β) := (if_neg (by simp [h])).trans ((if_neg (fun h => h h1)).trans (if_pos h2))
theorem give_bad (h : β.over = false) (h1 : k.path = β.asks) (h2 : ¬ (k.is = true ∧ 65536 < k.data.size)) (h3 : ¬ (β.run.give B.C.env k).1 = 0) : β.give B k = (0, BS.fail { β with run := (β.run.give B.C.env k).2, reads := β.reads ++ [sumRd k] } (β.run.give B.C.env k).1) :=
 (if_neg (by simp [h])).trans ((if_neg (fun h => h h1)).trans ((if_neg h2).trans (if_pos h3)))
theorem give_go (h : β.over = false) (h1 : k.path = β.asks) (h2 : ¬ (k.is = true ∧ 65536 < k.data.size)) (h3 : (β.run.give B.C.env k).1 = 0) : β.give B k = (0, BS.go B { β with run := (β.run.give B.C.env k).2, reads := β.reads ++ [sumRd k] }) :=
 (if_neg (by simp [h])).trans ((if_neg (fun h => h h1)).trans ((if_neg h2).trans (if_neg (fun h => h h3))))
end
theorem give_now {env : List (ByteArray × ByteArray)} {σ : RS} {k : Kn} (h : Inv σ) (h0 : (σ.give env k).1 = 0) : NoW (σ.give env k).2 := by
 have hs := (settle_inv (env := env) _ σ (Nat.le_refl _) h).1
 unfold RS.give at h0 ⊢
 split at h0
 ·exact absurd h0 (by intro h; cases h)
 split at h0
 ·exact absurd h0 (by intro h; cases h)
 split at h0
 ·exact absurd h0 (by intro h; cases h)
 rename_i hw hp hl
 rw [if_neg hw, if_neg hp, if_neg hl]
 have := (hs.wait (by simpa using hw)).1.2
 show ¬ (σ.settle env).kind = 2
 omega
theorem fi114_4 : FieldIs Tryz.prog 114 4 4 := fieldIs (z := 0) Tryz.underlying114 rfl rfl rfl Tryz.sizeOf39
theorem c_bAsks {B : BC} {H0 : Hp} {β : BS} {mr : Res} {w0 W : World} (hR : BRep B H0 β mr w0 W) : Calls Tryz.prog 24 [pt B.bx].toArray W (Ret fun v w' => v = .tuple [.string (if β.over = true then eB else β.asks), .bool (!β.over)].toArray ∧ BRep B H0 β mr w0 w') := by
 obtain ⟨sb, sr, A, c, vals, H, Ar, cr, hsr, hle, hE, hv, hF, S⟩ := hR
 refine ent Tryz.func24 Tryz.ntmps24 rfl rfl ?_
 intro a F
 refine sq fun K1 hK1 => ?_
 refine rg ?_
 refine dv F (y_as rfl rfl) rfl rfl rfl fun a F => ?_
 refine dv F (y_as rfl rfl) rfl rfl rfl fun a F => ?_
 refine dn ?_
 refine tn <| hK1 _ _ ?_
 refine sq fun K2 hK2 => ?_
 refine sq fun K3 hK3 => ?_
 refine rg ?_
 refine dv F (y_mv rfl rfl) rfl rfl rfl fun a F => ?_
 refine dv F (y_nc rfl rfl) rfl rfl rfl fun a F => ?_
 refine dv F (y_fa rfl rfl fi114_6) rfl rfl rfl fun a F => ?_
 refine dv F (y_ld rfl rfl (S.ld (i := 5) rfl rfl Tryz.isAgg4)) rfl rfl rfl fun a F => ?_
 refine dn ?_
 refine tn <| hK3 _ _ ?_
 refine cb F rfl (fun h1 => ?_) (fun h1 => ?_)
 ·have g1 := h1
  try simp only [zi1, zi2, zi3, zi4, zi5, zi6, zi7, zi8] at g1
  refine sq fun K4 hK4 => ?_
  refine rg ?_
  refine dv F (y_as rfl rfl) rfl rfl rfl fun a F => ?_
  refine dv F (y_as rfl rfl) rfl rfl rfl fun a F => ?_
  refine dn ?_
  refine tn <| hK4 _ _ ?_
  refine wp_ret ?_
  refine tr <| ?_
  exact rt2 F rfl rfl rfl ⟨by rw [if_pos (by simpa using g1), show β.over = true by simpa using g1]; rfl, ⟨sb, sr, A, c, vals, H, Ar, cr, hsr, hle, hE, hv, hF, (S.pick [0, 1, 2, 3, 4, 5, 6, 7, 8] _ ⟨rfl, rfl, rfl, rfl, rfl, rfl, rfl, rfl, rfl, trivial⟩ rfl)⟩⟩
 ·have g1 := h1
  try simp only [zi1, zi2, zi3, zi4, zi5, zi6, zi7, zi8] at g1
  refine wp_skip ?_
  refine tn <| hK2 _ _ ?_
  refine sq fun K5 hK5 => ?_
  refine rg ?_
  refine dv F (y_mv rfl rfl) rfl rfl rfl fun a F => ?_
  refine dv F (y_nc rfl rfl) rfl rfl rfl fun a F => ?_
  refine dv F (y_fa rfl rfl fi114_5) rfl rfl rfl fun a F => ?_
  refine dv F (y_ld rfl rfl (S.ld (i := 5) rfl rfl Tryz.isAgg9)) rfl rfl rfl fun a F => ?_
  refine dv F (y_as rfl rfl) rfl rfl rfl fun a F => ?_
  refine dv F (y_as rfl rfl) rfl rfl rfl fun a F => ?_
  refine dn ?_
  refine tn <| hK5 _ _ ?_
  refine wp_ret ?_
  refine ?_
  exact rt2 F rfl rfl rfl ⟨by rw [if_neg (by simpa using g1), show β.over = false by simpa using g1]; rfl, ⟨sb, sr, A, c, vals, H, Ar, cr, hsr, hle, hE, hv, hF, (S.pick [0, 1, 2, 3, 4, 5, 6, 7, 8] _ ⟨rfl, rfl, rfl, rfl, rfl, rfl, rfl, rfl, rfl, trivial⟩ rfl)⟩⟩
theorem c_bGive (k : Kn) {B : BC} {H0 : Hp} {β : BS} {mr : Res} {w0 W : World} (G : Gl w0) (hen : B.C.env.length ≤ 1000000) (hez : ∀ x ∈ B.C.env, x.2.size ≤ 1000000000) (hl : B.outs.length ≤ 1000000 ∧ B.ins.length ≤ 1000000 ∧ B.asks.length ≤ 1000000) (hz : ∀ x ∈ B.asks, x.size ≤ 1000000) (hI : BI β) (hks : k.data.size ≤ 9000000000000000000) (hrl : β.reads.length ≤ 1000000) (hR : BRep B H0 β mr w0 W) : Calls Tryz.prog 25 [pt B.bx, .agg (encK k).toArray].toArray W (Ret fun v w' => v = .int .i64 (β.give B k).1 ∧ BRep B H0 (β.give B k).2 mr w0 w') := by
 obtain ⟨sb, sr, A, c, vals, H, Ar, cr, hsr, hle, hE, hv, hF, S⟩ := hR
 refine ent Tryz.func25 Tryz.ntmps25 rfl rfl ?_
 intro a F
 refine sq fun K1 hK1 => ?_
 refine rg ?_
 refine dbx F S rfl rfl rfl rfl rfl rfl fun a w b3 F S => ?_
 refine dv F (y_as rfl rfl) rfl rfl rfl fun a F => ?_
 refine dn ?_
 refine tn <| hK1 _ _ ?_
 refine sq fun K2 hK2 => ?_
 refine bl ?_
 refine sq fun K3 hK3 => ?_
 refine rg ?_
 refine dv F (y_mv rfl rfl) rfl rfl rfl fun a F => ?_
 refine dv F (y_nc rfl rfl) rfl rfl rfl fun a F => ?_
 refine dv F (y_fa rfl rfl fi114_6) rfl rfl rfl fun a F => ?_
 refine dv F (y_ld rfl rfl (S.ld (i := 5) rfl rfl Tryz.isAgg4)) rfl rfl rfl fun a F => ?_
 refine dv F (y_as rfl rfl) rfl rfl rfl fun a F => ?_
 refine dn ?_
 refine tn <| hK3 _ _ ?_
 refine cb F rfl (fun h1 => ?_) (fun h1 => ?_)
 ·have g1 := h1
  try simp only [zi1, zi2, zi3, zi4, zi5, zi6, zi7, zi8] at g1
  refine sq fun K4 hK4 => ?_
  refine rg ?_
  refine dv F (y_as rfl rfl) rfl rfl rfl fun a F => ?_
  refine dn ?_
  refine tn <| hK4 _ _ ?_
  refine wp_ret ?_
  refine br <| tr <| ?_
  exact rt1 F rfl rfl ⟨by rw [give_over (by simpa using g1)], by rw [give_over (by simpa using g1)]; exact ⟨sb, sr, A, c, vals, H, Ar, cr, hsr, hle, hE, hv, hF, (S.pick [0, 1, 2, 3, 4, 5, 6, 7, 8] _ ⟨rfl, rfl, rfl, rfl, rfl, rfl, rfl, rfl, rfl, trivial⟩ rfl)⟩⟩
 ·have g1 := h1
  try simp only [zi1, zi2, zi3, zi4, zi5, zi6, zi7, zi8] at g1
  refine sq fun K5 hK5 => ?_
  refine rq (C := fun w => St _ w _) Tryz.mixed (by kernel_rfl) (S.drewN 1) ?_
  refine qv F (fun w S => y_fa rfl rfl fi55_0) rfl rfl rfl fun a F => ?_
  refine qv F (fun w S => y_ld rfl rfl (S.ld (i := 9) rfl rfl Tryz.isAgg9)) rfl rfl rfl fun a F => ?_
  refine qv F (fun w S => y_mv rfl rfl) rfl rfl rfl fun a F => ?_
  refine qv F (fun w S => y_nc rfl rfl) rfl rfl rfl fun a F => ?_
  refine qv F (fun w S => y_fa rfl rfl fi114_5) rfl rfl rfl fun a F => ?_
  refine qv F (fun w S => y_ld rfl rfl (S.ld (i := 5) rfl rfl Tryz.isAgg9)) rfl rfl rfl fun a F => ?_
  refine qv F (fun w S => Go.Eng.y_sn rfl rfl rfl) rfl rfl rfl fun a F => ?_
  refine qv F (fun w S => y_as rfl rfl) rfl rfl rfl fun a F => ?_
  refine qn fun w S => ?_
  refine tn <| hK5 _ _ ?_
  refine cb F rfl (fun h2 => ?_) (fun h2 => ?_)
  ·have g2 := h2
   try simp only [zi1, zi2, zi3, zi4, zi5, zi6, zi7, zi8] at g2
   refine sq fun K6 hK6 => ?_
   refine rg ?_
   refine dv F (y_as rfl rfl) rfl rfl rfl fun a F => ?_
   refine dn ?_
   refine tn <| hK6 _ _ ?_
   refine wp_ret ?_
   refine br <| tr <| ?_
   exact rt1 F rfl rfl ⟨by rw [give_asks (by simpa using g1) (by simpa using g2)], by rw [give_asks (by simpa using g1) (by simpa using g2)]; exact ⟨sb, sr, A, c, vals, H, Ar, cr, hsr, hle, hE, hv, hF, (S.pick [0, 1, 2, 3, 4, 5, 6, 7, 8] _ ⟨rfl, rfl, rfl, rfl, rfl, rfl, rfl, rfl, rfl, trivial⟩ rfl)⟩⟩
  ·have g2 := h2
   try simp only [zi1, zi2, zi3, zi4, zi5, zi6, zi7, zi8] at g2
   refine sq fun K7 hK7 => ?_
   refine rg ?_
   refine dv F (y_fa rfl rfl fi55_1) rfl rfl rfl fun a F => ?_
   refine dv F (y_ld rfl rfl (S.ld (i := 9) rfl rfl Tryz.isAgg4)) rfl rfl rfl fun a F => ?_
   refine dv F (y_mv rfl rfl) rfl rfl rfl fun a F => ?_
   refine gsp F 23 rfl (fun h3 => ?_) (fun h3 => ?_)
   ·have g3 := h3
    try simp only [zi1, zi2, zi3, zi4, zi5, zi6, zi7, zi8] at g3
    refine gv F rfl rfl rfl h3 (y_fa rfl rfl fi55_2) rfl rfl fun a F => ?_
    refine gv F rfl rfl rfl h3 (y_ld rfl rfl (S.ld (i := 9) rfl rfl Tryz.isAgg9)) rfl rfl fun a F => ?_
    refine gv F rfl rfl rfl h3 (y_ls rfl rfl Tryz.underlying9) rfl rfl fun a F => ?_
    refine gv F rfl rfl rfl h3 (y_gt rfl rfl rfl) rfl rfl fun a F => ?_
    refine dv F (y_pkt h3 rfl rfl rfl) rfl rfl rfl fun a F => ?_
    refine dv F (y_as rfl rfl) rfl rfl rfl fun a F => ?_
    refine dn ?_
    refine tn <| hK7 _ _ ?_
    refine cb F rfl (fun h4 => ?_) (fun h4 => ?_)
    ·have g4 := h4
     try simp only [zi1, zi2, zi3, zi4, zi5, zi6, zi7, zi8] at g4
     refine sq fun K8 hK8 => ?_
     refine rg ?_
     refine dv F (y_as rfl rfl) rfl rfl rfl fun a F => ?_
     refine dn ?_
     refine tn <| hK8 _ _ ?_
     refine wp_ret ?_
     refine br <| tr <| ?_
     exact rt1 F rfl rfl ⟨by rw [give_lim (by simpa using g1) (by simpa using g2) ⟨by assumption, by omega⟩], by rw [give_lim (by simpa using g1) (by simpa using g2) ⟨by assumption, by omega⟩]; exact ⟨sb, sr, A, c, vals, H, Ar, cr, hsr, hle, hE, hv, hF, (S.pick [0, 1, 2, 3, 4, 5, 6, 7, 8] _ ⟨rfl, rfl, rfl, rfl, rfl, rfl, rfl, rfl, rfl, trivial⟩ rfl)⟩⟩
    ·have g4 := h4
     try simp only [zi1, zi2, zi3, zi4, zi5, zi6, zi7, zi8] at g4
     refine wp_skip ?_
     refine bn <| tn <| hK2 _ _ ?_
     refine sq fun K9 hK9 => ?_
     have hsm : k.is = true → k.data.size ≤ 65536 := by
      intro hh
      first
       | omega
       | simp_all
     refine rg ?_
     refine dv F (y_fa rfl rfl fi55_0) rfl rfl rfl fun a F => ?_
     refine dv F (y_ld rfl rfl (S.ld (i := 9) rfl rfl Tryz.isAgg9)) rfl rfl rfl fun a F => ?_
     refine dv F (y_fa rfl rfl fi55_1) rfl rfl rfl fun a F => ?_
     refine dv F (y_ld rfl rfl (S.ld (i := 9) rfl rfl Tryz.isAgg4)) rfl rfl rfl fun a F => ?_
     refine dv F (y_bd rfl rfl ((bdK2))) rfl rfl rfl fun a F => ?_
     refine dal F S rfl Tryz.zeroValue52 rfl rfl rfl rfl fun a w b5 F S => ?_
     refine dsw F S rfl rfl rfl Tryz.sizeOf52 (i := 10) rfl rfl (len37 _) rfl (one37 _) rfl rfl fun a w F S => ?_
     refine dn ?_
     refine tn <| hK9 _ _ ?_
     refine sq fun K10 hK10 => ?_
     refine sq fun K11 hK11 => ?_
     refine rg ?_
     refine dv F (y_fa rfl rfl fi55_1) rfl rfl rfl fun a F => ?_
     refine dv F (y_ld rfl rfl (S.ld (i := 9) rfl rfl Tryz.isAgg4)) rfl rfl rfl fun a F => ?_
     refine dn ?_
     refine tn <| hK11 _ _ ?_
     refine cb F rfl (fun h5 => ?_) (fun h5 => ?_)
     ·have g5 := h5
      try simp only [zi1, zi2, zi3, zi4, zi5, zi6, zi7, zi8] at g5
      refine rg ?_
      refine dv F (y_fa rfl rfl fi55_2) rfl rfl rfl fun a F => ?_
      refine dv F (y_ld rfl rfl (S.ld (i := 9) rfl rfl Tryz.isAgg9)) rfl rfl rfl fun a F => ?_
      refine dbs F S rfl rfl bsS1 rfl rfl rfl fun a w b38 F S => ?_
      refine dc F (c_f rfl rfl rfl Tryz.call39) rfl rfl rfl (f39_c [k.data] _ (S.sl (i := 11) (xs := [k.data]) rfl lenS) (by rw [cat_one, bI_len]; have := hsm (by assumption); omega) (show 1 ≤ 1000000 by decide)) fun a v w' hr F => ?_
      obtain ⟨rfl, hb⟩ := hr
      replace S := S.call hb
      refine dv F (y_fa rfl rfl fi52_2) rfl rfl rfl fun a F => ?_
      refine dst F S rfl rfl rfl Tryz.sizeOf50 (i := 10) rfl (len32 _) (by simp [cellsOf, len37]) (one32 _) rfl rfl fun a w F S => ?_
      refine dn ?_
      refine tn <| hK10 _ _ ?_
      refine sq fun K12 hK12 => ?_
      first
       | (rw [putl_sum, cat_one, show (⟨k.path, k.is, dgst (bI k.data)⟩ : Rd) = sumRd k from by rw [sumRd, if_pos (by assumption)]] at S)
       | (rw [show (⟨k.path, k.is, dig0⟩ : Rd) = sumRd k from by rw [sumRd, if_neg (by intro hh; simp_all)]] at S)
      refine rpF [.p, .p, .p, .p, .p, .p, .b 52 (mkS 1) [.tmp 46] (fun vs => cellsOf (vs.getD 0 undef))] 7 0 [[], [], [1], [1, 2], [1, 2, 3], [], [5]] [(0, _), (1, _), (3, _), (4, _), (5, _), (7, _), (8, _), (9, _), (10, _), (11, _), (12, _), (13, _), (14, _), (15, _), (16, _), (17, _), (18, _), (19, _), (20, _), (21, _), (22, _), (23, _), (24, _), (25, _), (26, _), (27, _), (28, _), (29, _), (30, _), (31, _), (32, _), (33, _), (34, _), (35, _), (36, _), (37, _), (38, _), (39, _), (40, _)] F ⟨rfl, rfl, rfl, rfl, rfl, rfl, rfl, rfl, rfl, rfl, rfl, rfl, rfl, rfl, rfl, rfl, rfl, rfl, rfl, rfl, rfl, rfl, rfl, rfl, rfl, rfl, rfl, rfl, rfl, rfl, rfl, rfl, rfl, rfl, rfl, rfl, rfl, rfl, rfl, trivial⟩ Tryz.mixed (by kernel_rfl) rfl (by decide) (by decide) (by kernel_rfl) (by kernel_rfl) (by kernel_rfl) (by kernel_rfl) ⟨?_, ?_, ?_, ?_, ?_, ?_, ?_, trivial⟩ (fun a w1 J => ?_) (fun a w1 om of_ hom hof J => ?_)
      ·intro a w1 hB F hA
       have S0 := S
       replace S := S.call hB
       exact pv F (fun w2 hB2 => have S := S.call hB2; y_mv rfl rfl) rfl rfl rfl (by decide)
      ·intro a w1 hB F hA
       have S0 := S
       replace S := S.call hB
       exact pv F (fun w2 hB2 => have S := S.call hB2; y_mv rfl rfl) rfl rfl rfl (by decide)
      ·intro a w1 hB F hA
       have S0 := S
       replace S := S.call hB
       replace F := F.eP (hA 1 (by decide)) rfl (d := 42) rfl rfl (y_mv rfl rfl)
       exact pv F (fun w2 hB2 => have S := S.call hB2; y_nc rfl rfl) rfl rfl rfl (by decide)
      ·intro a w1 hB F hA
       have S0 := S
       replace S := S.call hB
       replace F := F.eP (hA 1 (by decide)) rfl (d := 42) rfl rfl (y_mv rfl rfl)
       replace F := F.eP (hA 2 (by decide)) rfl (d := 43) rfl rfl (y_nc rfl rfl)
       exact pv F (fun w2 hB2 => have S := S.call hB2; y_fa rfl rfl fi114_4) rfl rfl rfl (by decide)
      ·intro a w1 hB F hA
       have S0 := S
       replace S := S.call hB
       replace F := F.eP (hA 1 (by decide)) rfl (d := 42) rfl rfl (y_mv rfl rfl)
       replace F := F.eP (hA 2 (by decide)) rfl (d := 43) rfl rfl (y_nc rfl rfl)
       replace F := F.eP (hA 3 (by decide)) rfl (d := 44) rfl rfl (y_fa rfl rfl fi114_4)
       exact pv F (fun w2 hB2 => have S := S.call hB2; y_ld rfl rfl (S.ld (i := 5) rfl rfl Tryz.isAgg39)) rfl rfl rfl (by decide)
      ·intro a w1 hB F hA
       have S0 := S
       replace S := S.call hB
       exact pv F (fun w2 hB2 => have S := S.call hB2; y_ld rfl rfl (S.lda (i := 10) rfl Tryz.isAgg52 Tryz.sizeOf52 (len37 _))) rfl rfl rfl (by decide)
      ·intro a w1 hB F hA
       have S0 := S
       replace S := S.call hB
       replace F := F.eP (hA 5 (by decide)) rfl (d := 46) rfl rfl (y_ld rfl rfl (S.lda (i := 10) rfl Tryz.isAgg52 Tryz.sizeOf52 (len37 _)))
       exact pb F rfl (y_bs rfl rfl (bsOne Tryz.underlying39 aiRd (len37 _) rfl rfl)) (fun _ => rfl) rfl rfl rfl
      ·have F := J.fr
       have E := EX.start J S
       have hle' := S.bel.size
       replace S := S.call J.bel
       replace F := F.eP (J.at 0 rfl) rfl (d := 41) rfl rfl (y_mv rfl rfl)
       replace F := F.eP (J.at 1 rfl) rfl (d := 42) rfl rfl (y_mv rfl rfl)
       replace F := F.eP (J.at 2 rfl) rfl (d := 43) rfl rfl (y_nc rfl rfl)
       replace F := F.eP (J.at 3 rfl) rfl (d := 44) rfl rfl (y_fa rfl rfl fi114_4)
       replace F := F.eP (J.at 4 rfl) rfl (d := 45) rfl rfl (y_ld rfl rfl (S.ld (i := 5) rfl rfl Tryz.isAgg39))
       replace F := F.eP (J.at 5 rfl) rfl (d := 46) rfl rfl (y_ld rfl rfl (S.lda (i := 10) rfl Tryz.isAgg52 Tryz.sizeOf52 (len37 _)))
       obtain ⟨b47, F, hb47, ho47⟩ := F.eB (P := Tryz.prog) (e := 52) (mk := mkS 1) (xs := [.tmp 46]) (cs := fun vs => cellsOf (vs.getD 0 undef)) (J.at 6 rfl) rfl (d := 47) rfl rfl rfl
       have E := EX.row J hle' E 6 rfl rfl (d := 47) (e := 52) (cs := (encRd (sumRd k))) rfl hb47 ho47
       replace S := E.st
       clear E J
       refine dap F S rfl rfl rfl (i := 7) rfl (S.fl (i := 12) rfl) (len37 _) (one37 _) Tryz.underlying39 aiRd rfl (N := (β.reads ++ [sumRd k]).length) (XS := (β.reads ++ [sumRd k]).flatMap encRd) (by rw [List.length_append]; rfl) (by simp) (by rw [List.length_append]; show (_ + 1) * _ ≤ _; omega) (by rw [List.length_append]; show _ + 1 ≤ _; omega) rfl rfl rfl fun a w Ar' cr' F S => ?_
       refine dv F (y_nc rfl rfl) rfl rfl rfl fun a F => ?_
       refine dv F (y_fa rfl rfl fi114_4) rfl rfl rfl fun a F => ?_
       refine dst F S rfl rfl rfl Tryz.sizeOf39 (i := 5) rfl rfl (Nat.le_of_ble_eq_true rfl) one1 rfl rfl fun a w F S => ?_
       refine dn ?_
       refine tn <| hK12 _ _ ?_
       refine sq fun K13 hK13 => ?_
       refine sq fun K14 hK14 => ?_
       refine rp [.p, .p, .p, .p, .p] 5 [[], [0], [0, 1], [0, 1, 2], []] [(0, _), (1, _), (3, _), (4, _), (5, _), (7, _), (8, _), (9, _), (10, _), (11, _), (12, _), (13, _), (14, _), (15, _), (16, _), (17, _), (18, _), (19, _), (20, _), (21, _), (22, _), (23, _), (24, _), (25, _), (26, _), (27, _), (28, _), (29, _), (30, _), (31, _), (32, _), (33, _), (34, _), (35, _), (36, _), (37, _), (38, _), (39, _), (40, _), (41, _), (42, _), (43, _), (44, _), (45, _), (46, _), (47, _), (48, _), (49, _), (50, _)] F ⟨rfl, rfl, rfl, rfl, rfl, rfl, rfl, rfl, rfl, rfl, rfl, rfl, rfl, rfl, rfl, rfl, rfl, rfl, rfl, rfl, rfl, rfl, rfl, rfl, rfl, rfl, rfl, rfl, rfl, rfl, rfl, rfl, rfl, rfl, rfl, rfl, rfl, rfl, rfl, rfl, rfl, rfl, rfl, rfl, rfl, rfl, rfl, rfl, rfl, trivial⟩ Tryz.mixed (by kernel_rfl) rfl (.inr ⟨by decide, by kernel_rfl, by kernel_rfl⟩) (by kernel_rfl) ⟨?_, ?_, ?_, ?_, ?_, trivial⟩ fun a w1 J => ?_
       ·intro a w1 hB F hA
        have S0 := S
        replace S := S.call hB
        exact pv F (fun w2 hB2 => have S := S.call hB2; y_mv rfl rfl) rfl rfl rfl (by decide)
       ·intro a w1 hB F hA
        have S0 := S
        replace S := S.call hB
        replace F := F.eP (hA 0 (by decide)) rfl (d := 51) rfl rfl (y_mv rfl rfl)
        exact pv F (fun w2 hB2 => have S := S.call hB2; y_nc rfl rfl) rfl rfl rfl (by decide)
       ·intro a w1 hB F hA
        have S0 := S
        replace S := S.call hB
        replace F := F.eP (hA 0 (by decide)) rfl (d := 51) rfl rfl (y_mv rfl rfl)
        replace F := F.eP (hA 1 (by decide)) rfl (d := 52) rfl rfl (y_nc rfl rfl)
        exact pv F (fun w2 hB2 => have S := S.call hB2; y_fa rfl rfl fi114_0) rfl rfl rfl (by decide)
       ·intro a w1 hB F hA
        have S0 := S
        replace S := S.call hB
        replace F := F.eP (hA 0 (by decide)) rfl (d := 51) rfl rfl (y_mv rfl rfl)
        replace F := F.eP (hA 1 (by decide)) rfl (d := 52) rfl rfl (y_nc rfl rfl)
        replace F := F.eP (hA 2 (by decide)) rfl (d := 53) rfl rfl (y_fa rfl rfl fi114_0)
        exact pv F (fun w2 hB2 => have S := S.call hB2; y_ld rfl rfl ((S.ld (i := 5) rfl rfl Tryz.isAgg67))) rfl rfl rfl (by decide)
       ·intro a w1 hB F hA
        have S0 := S
        replace S := S.call hB
        exact pv F (fun w2 hB2 => have S := S.call hB2; y_ld rfl rfl (S.lda (i := 9) rfl Tryz.isAgg55 Tryz.sizeOf55 rfl)) rfl rfl rfl (by decide)
       have F := J.fr
       have E := EX.start J S
       have hle' := S.bel.size
       replace S := S.call J.bel
       replace F := F.eP (J.at 0 rfl) rfl (d := 51) rfl rfl (y_mv rfl rfl)
       replace F := F.eP (J.at 1 rfl) rfl (d := 52) rfl rfl (y_nc rfl rfl)
       replace F := F.eP (J.at 2 rfl) rfl (d := 53) rfl rfl (y_fa rfl rfl fi114_0)
       replace F := F.eP (J.at 3 rfl) rfl (d := 54) rfl rfl (y_ld rfl rfl ((S.ld (i := 5) rfl rfl Tryz.isAgg67)))
       replace F := F.eP (J.at 4 rfl) rfl (d := 55) rfl rfl (y_ld rfl rfl (S.lda (i := 9) rfl Tryz.isAgg55 Tryz.sizeOf55 rfl))
       replace S := E.st
       clear E J
       obtain ⟨S, hSep⟩ := St.packS (xs := [_, _, _, _, _]) (ys := [bk B.bx 114 (bcells B { β with reads := β.reads ++ [sumRd k] } Ar' cr'), mpe B.wb (wmap β.wrote), ow 52 34 (.slice Ar' (β.reads ++ [sumRd k]).length cr') (β.reads ++ [sumRd k]).length ((β.reads ++ [sumRd k]).flatMap encRd), mr]) (S.pick [0, 1, 2, 3, 4, 5, 6, 7, 8] _ ⟨rfl, rfl, rfl, rfl, rfl, rfl, rfl, rfl, rfl, trivial⟩ rfl)
       refine dc F (c_f rfl rfl rfl Tryz.call29) rfl rfl rfl (c_Give (mr := pk _) k G hen hez hI.inv hks ⟨sb, sr, hsr, A, c, vals, H, Hp.le_refl H, hE, hv, S⟩) fun a v w' hr F => ?_
       obtain ⟨rfl, sb2, sr2, hsr2, A2, c2, vals2, H2, hle2, hE2, hv2, S2⟩ := hr
       replace S := St.unpS (xs := [_, _, _, _, _]) S2 hSep
       have hF2 := hF.le hle2
       refine dv F (y_as rfl rfl) rfl rfl rfl fun a F => ?_
       refine dn ?_
       refine tn <| hK14 _ _ ?_
       refine sq fun K15 hK15 => ?_
       refine rg ?_
       refine dv F (y_mv rfl rfl) rfl rfl rfl fun a F => ?_
       refine dv F (y_in rfl rfl rfl) rfl rfl rfl fun a F => ?_
       refine dn ?_
       refine tn <| hK15 _ _ ?_
       refine cb F rfl (fun h6 => ?_) (fun h6 => ?_)
       ·have g6 := h6
        try simp only [zi1, zi2, zi3, zi4, zi5, zi6, zi7, zi8] at g6
        refine sq fun K16 hK16 => ?_
        refine rg ?_
        refine dv F (y_mv rfl rfl) rfl rfl rfl fun a F => ?_
        refine dv F (y_mv rfl rfl) rfl rfl rfl fun a F => ?_
        refine dc F (c_f rfl rfl rfl Tryz.call65) rfl rfl rfl (c_bfail (β := { β with run := (β.run.give B.C.env k).2, reads := β.reads ++ [sumRd k] }) (β.run.give B.C.env k).1 ⟨sb2, sr2, A2, c2, vals2, H2, Ar', cr', hsr2, Hp.le_trans hle hle2, hE2, hv2, hF2, S⟩) fun a v w' hr F => ?_
        have hB := hr
        refine dn ?_
        refine tn <| hK16 _ _ ?_
        refine sq fun K17 hK17 => ?_
        refine rg ?_
        refine dv F (y_as rfl rfl) rfl rfl rfl fun a F => ?_
        refine dn ?_
        refine tn <| hK17 _ _ ?_
        refine wp_ret ?_
        refine tr <| ?_
        exact rt1 F rfl rfl ⟨by rw [give_bad (by simpa using g1) (by simpa using g2) (fun h => by have := hsm h.1; omega) (by simpa using g6)], by rw [give_bad (by simpa using g1) (by simpa using g2) (fun h => by have := hsm h.1; omega) (by simpa using g6)]; exact hB⟩
       ·have g6 := h6
        try simp only [zi1, zi2, zi3, zi4, zi5, zi6, zi7, zi8] at g6
        refine wp_skip ?_
        refine tn <| hK13 _ _ ?_
        refine sq fun K18 hK18 => ?_
        refine rg ?_
        refine dv F (y_mv rfl rfl) rfl rfl rfl fun a F => ?_
        refine dc F (c_f rfl rfl rfl Tryz.call54) rfl rfl rfl (c_bgoOn (β0 := { β with run := (β.run.give B.C.env k).2, reads := β.reads ++ [sumRd k] }) G hen hez hl hz ⟨give_inv hI.inv k, fun _ => give_now hI.inv (by simpa using g6)⟩ ⟨sb2, sr2, A2, c2, vals2, H2, Ar', cr', hsr2, Hp.le_trans hle hle2, hE2, hv2, hF2, S⟩) fun a v w' hr F => ?_
        have hB := hr
        refine dn ?_
        refine tn <| hK18 _ _ ?_
        refine sq fun K19 hK19 => ?_
        refine rg ?_
        refine dv F (y_as rfl rfl) rfl rfl rfl fun a F => ?_
        refine dn ?_
        refine tn <| hK19 _ _ ?_
        refine wp_ret ?_
        refine ?_
        exact rt1 F rfl rfl ⟨by rw [give_go (by simpa using g1) (by simpa using g2) (fun h => by have := hsm h.1; omega) (by simpa using g6)], by rw [give_go (by simpa using g1) (by simpa using g2) (fun h => by have := hsm h.1; omega) (by simpa using g6)]; exact hB⟩
      ·have F := J.fr
       obtain rfl := Option.some.inj hom
       obtain rfl := Option.some.inj hof
       have E := EX.start J S
       have hle' := S.bel.size
       replace S := S.call J.bel
       replace F := F.eP (J.atF 1 rfl) rfl (d := 42) rfl rfl (y_mv rfl rfl)
       replace F := F.eP (J.atF 2 rfl) rfl (d := 43) rfl rfl (y_nc rfl rfl)
       replace F := F.eP (J.atF 3 rfl) rfl (d := 44) rfl rfl (y_fa rfl rfl fi114_4)
       replace F := F.eP (J.atF 4 rfl) rfl (d := 45) rfl rfl (y_ld rfl rfl (S.ld (i := 5) rfl rfl Tryz.isAgg39))
       replace F := F.eP (J.atF 5 rfl) rfl (d := 46) rfl rfl (y_ld rfl rfl (S.lda (i := 10) rfl Tryz.isAgg52 Tryz.sizeOf52 (len37 _)))
       obtain ⟨b47, F, hb47, ho47⟩ := F.eB (P := Tryz.prog) (e := 52) (mk := mkS 1) (xs := [.tmp 46]) (cs := fun vs => cellsOf (vs.getD 0 undef)) (J.atF 6 rfl) rfl (d := 47) rfl rfl rfl
       have E := EX.rowF J hle' E 6 rfl rfl (d := 47) (e := 52) (cs := (encRd (sumRd k))) rfl hb47 ho47
       replace S := E.st
       clear E J
       refine dap F S rfl rfl rfl (i := 7) rfl (S.fl (i := 12) rfl) (len37 _) (one37 _) Tryz.underlying39 aiRd rfl (N := (β.reads ++ [sumRd k]).length) (XS := (β.reads ++ [sumRd k]).flatMap encRd) (by rw [List.length_append]; rfl) (by simp) (by rw [List.length_append]; show (_ + 1) * _ ≤ _; omega) (by rw [List.length_append]; show _ + 1 ≤ _; omega) rfl rfl rfl fun a w Ar' cr' F S => ?_
       refine dv F (y_mv rfl rfl) rfl rfl rfl fun a F => ?_
       refine dv F (y_nc rfl rfl) rfl rfl rfl fun a F => ?_
       refine dv F (y_fa rfl rfl fi114_4) rfl rfl rfl fun a F => ?_
       refine dst F S rfl rfl rfl Tryz.sizeOf39 (i := 5) rfl rfl (Nat.le_of_ble_eq_true rfl) one1 rfl rfl fun a w F S => ?_
       refine dn ?_
       refine tn <| hK12 _ _ ?_
       refine sq fun K20 hK20 => ?_
       refine sq fun K21 hK21 => ?_
       refine rp [.p, .p, .p, .p, .p] 5 [[], [0], [0, 1], [0, 1, 2], []] [(0, _), (1, _), (3, _), (4, _), (5, _), (7, _), (8, _), (9, _), (10, _), (11, _), (12, _), (13, _), (14, _), (15, _), (16, _), (17, _), (18, _), (19, _), (20, _), (21, _), (22, _), (23, _), (24, _), (25, _), (26, _), (27, _), (28, _), (29, _), (30, _), (31, _), (32, _), (33, _), (34, _), (35, _), (36, _), (37, _), (38, _), (39, _), (40, _), (41, _), (42, _), (43, _), (44, _), (45, _), (46, _), (47, _), (48, _), (49, _), (50, _)] F ⟨rfl, rfl, rfl, rfl, rfl, rfl, rfl, rfl, rfl, rfl, rfl, rfl, rfl, rfl, rfl, rfl, rfl, rfl, rfl, rfl, rfl, rfl, rfl, rfl, rfl, rfl, rfl, rfl, rfl, rfl, rfl, rfl, rfl, rfl, rfl, rfl, rfl, rfl, rfl, rfl, rfl, rfl, rfl, rfl, rfl, rfl, rfl, rfl, rfl, trivial⟩ Tryz.mixed (by kernel_rfl) rfl (.inr ⟨by decide, by kernel_rfl, by kernel_rfl⟩) (by kernel_rfl) ⟨?_, ?_, ?_, ?_, ?_, trivial⟩ fun a w1 J => ?_
       ·intro a w1 hB F hA
        have S0 := S
        replace S := S.call hB
        exact pv F (fun w2 hB2 => have S := S.call hB2; y_mv rfl rfl) rfl rfl rfl (by decide)
       ·intro a w1 hB F hA
        have S0 := S
        replace S := S.call hB
        replace F := F.eP (hA 0 (by decide)) rfl (d := 51) rfl rfl (y_mv rfl rfl)
        exact pv F (fun w2 hB2 => have S := S.call hB2; y_nc rfl rfl) rfl rfl rfl (by decide)
       ·intro a w1 hB F hA
        have S0 := S
        replace S := S.call hB
        replace F := F.eP (hA 0 (by decide)) rfl (d := 51) rfl rfl (y_mv rfl rfl)
        replace F := F.eP (hA 1 (by decide)) rfl (d := 52) rfl rfl (y_nc rfl rfl)
        exact pv F (fun w2 hB2 => have S := S.call hB2; y_fa rfl rfl fi114_0) rfl rfl rfl (by decide)
       ·intro a w1 hB F hA
        have S0 := S
        replace S := S.call hB
        replace F := F.eP (hA 0 (by decide)) rfl (d := 51) rfl rfl (y_mv rfl rfl)
        replace F := F.eP (hA 1 (by decide)) rfl (d := 52) rfl rfl (y_nc rfl rfl)
        replace F := F.eP (hA 2 (by decide)) rfl (d := 53) rfl rfl (y_fa rfl rfl fi114_0)
        exact pv F (fun w2 hB2 => have S := S.call hB2; y_ld rfl rfl ((S.ld (i := 5) rfl rfl Tryz.isAgg67))) rfl rfl rfl (by decide)
       ·intro a w1 hB F hA
        have S0 := S
        replace S := S.call hB
        exact pv F (fun w2 hB2 => have S := S.call hB2; y_ld rfl rfl (S.lda (i := 9) rfl Tryz.isAgg55 Tryz.sizeOf55 rfl)) rfl rfl rfl (by decide)
       have F := J.fr
       have E := EX.start J S
       have hle' := S.bel.size
       replace S := S.call J.bel
       replace F := F.eP (J.at 0 rfl) rfl (d := 51) rfl rfl (y_mv rfl rfl)
       replace F := F.eP (J.at 1 rfl) rfl (d := 52) rfl rfl (y_nc rfl rfl)
       replace F := F.eP (J.at 2 rfl) rfl (d := 53) rfl rfl (y_fa rfl rfl fi114_0)
       replace F := F.eP (J.at 3 rfl) rfl (d := 54) rfl rfl (y_ld rfl rfl ((S.ld (i := 5) rfl rfl Tryz.isAgg67)))
       replace F := F.eP (J.at 4 rfl) rfl (d := 55) rfl rfl (y_ld rfl rfl (S.lda (i := 9) rfl Tryz.isAgg55 Tryz.sizeOf55 rfl))
       replace S := E.st
       clear E J
       obtain ⟨S, hSep⟩ := St.packS (xs := [_, _, _, _, _]) (ys := [bk B.bx 114 (bcells B { β with reads := β.reads ++ [sumRd k] } Ar' cr'), mpe B.wb (wmap β.wrote), ow 52 34 (.slice Ar' (β.reads ++ [sumRd k]).length cr') (β.reads ++ [sumRd k]).length ((β.reads ++ [sumRd k]).flatMap encRd), mr]) (S.pick [0, 1, 2, 3, 4, 5, 6, 7, 8] _ ⟨rfl, rfl, rfl, rfl, rfl, rfl, rfl, rfl, rfl, trivial⟩ rfl)
       refine dc F (c_f rfl rfl rfl Tryz.call29) rfl rfl rfl (c_Give (mr := pk _) k G hen hez hI.inv hks ⟨sb, sr, hsr, A, c, vals, H, Hp.le_refl H, hE, hv, S⟩) fun a v w' hr F => ?_
       obtain ⟨rfl, sb2, sr2, hsr2, A2, c2, vals2, H2, hle2, hE2, hv2, S2⟩ := hr
       replace S := St.unpS (xs := [_, _, _, _, _]) S2 hSep
       have hF2 := hF.le hle2
       refine dv F (y_as rfl rfl) rfl rfl rfl fun a F => ?_
       refine dn ?_
       refine tn <| hK21 _ _ ?_
       refine sq fun K22 hK22 => ?_
       refine rg ?_
       refine dv F (y_mv rfl rfl) rfl rfl rfl fun a F => ?_
       refine dv F (y_in rfl rfl rfl) rfl rfl rfl fun a F => ?_
       refine dn ?_
       refine tn <| hK22 _ _ ?_
       refine cb F rfl (fun h7 => ?_) (fun h7 => ?_)
       ·have g7 := h7
        try simp only [zi1, zi2, zi3, zi4, zi5, zi6, zi7, zi8] at g7
        refine sq fun K23 hK23 => ?_
        refine rg ?_
        refine dv F (y_mv rfl rfl) rfl rfl rfl fun a F => ?_
        refine dv F (y_mv rfl rfl) rfl rfl rfl fun a F => ?_
        refine dc F (c_f rfl rfl rfl Tryz.call65) rfl rfl rfl (c_bfail (β := { β with run := (β.run.give B.C.env k).2, reads := β.reads ++ [sumRd k] }) (β.run.give B.C.env k).1 ⟨sb2, sr2, A2, c2, vals2, H2, Ar', cr', hsr2, Hp.le_trans hle hle2, hE2, hv2, hF2, S⟩) fun a v w' hr F => ?_
        have hB := hr
        refine dn ?_
        refine tn <| hK23 _ _ ?_
        refine sq fun K24 hK24 => ?_
        refine rg ?_
        refine dv F (y_as rfl rfl) rfl rfl rfl fun a F => ?_
        refine dn ?_
        refine tn <| hK24 _ _ ?_
        refine wp_ret ?_
        refine tr <| ?_
        exact rt1 F rfl rfl ⟨by rw [give_bad (by simpa using g1) (by simpa using g2) (fun h => by have := hsm h.1; omega) (by simpa using g7)], by rw [give_bad (by simpa using g1) (by simpa using g2) (fun h => by have := hsm h.1; omega) (by simpa using g7)]; exact hB⟩
       ·have g7 := h7
        try simp only [zi1, zi2, zi3, zi4, zi5, zi6, zi7, zi8] at g7
        refine wp_skip ?_
        refine tn <| hK20 _ _ ?_
        refine sq fun K25 hK25 => ?_
        refine rg ?_
        refine dv F (y_mv rfl rfl) rfl rfl rfl fun a F => ?_
        refine dc F (c_f rfl rfl rfl Tryz.call54) rfl rfl rfl (c_bgoOn (β0 := { β with run := (β.run.give B.C.env k).2, reads := β.reads ++ [sumRd k] }) G hen hez hl hz ⟨give_inv hI.inv k, fun _ => give_now hI.inv (by simpa using g7)⟩ ⟨sb2, sr2, A2, c2, vals2, H2, Ar', cr', hsr2, Hp.le_trans hle hle2, hE2, hv2, hF2, S⟩) fun a v w' hr F => ?_
        have hB := hr
        refine dn ?_
        refine tn <| hK25 _ _ ?_
        refine sq fun K26 hK26 => ?_
        refine rg ?_
        refine dv F (y_as rfl rfl) rfl rfl rfl fun a F => ?_
        refine dn ?_
        refine tn <| hK26 _ _ ?_
        refine wp_ret ?_
        refine ?_
        exact rt1 F rfl rfl ⟨by rw [give_go (by simpa using g1) (by simpa using g2) (fun h => by have := hsm h.1; omega) (by simpa using g7)], by rw [give_go (by simpa using g1) (by simpa using g2) (fun h => by have := hsm h.1; omega) (by simpa using g7)]; exact hB⟩
     ·have g5 := h5
      try simp only [zi1, zi2, zi3, zi4, zi5, zi6, zi7, zi8] at g5
      refine wp_skip ?_
      refine tn <| hK10 _ _ ?_
      refine sq fun K27 hK27 => ?_
      first
       | (rw [putl_sum, cat_one, show (⟨k.path, k.is, dgst (bI k.data)⟩ : Rd) = sumRd k from by rw [sumRd, if_pos (by assumption)]] at S)
       | (rw [show (⟨k.path, k.is, dig0⟩ : Rd) = sumRd k from by rw [sumRd, if_neg (by intro hh; simp_all)]] at S)
      refine rpF [.p, .p, .p, .p, .p, .p, .b 52 (mkS 1) [.tmp 46] (fun vs => cellsOf (vs.getD 0 undef))] 7 0 [[], [], [1], [1, 2], [1, 2, 3], [], [5]] [(0, _), (1, _), (3, _), (4, _), (5, _), (7, _), (8, _), (9, _), (10, _), (11, _), (12, _), (13, _), (14, _), (15, _), (16, _), (17, _), (18, _), (19, _), (20, _), (21, _), (22, _), (23, _), (24, _), (25, _), (26, _), (27, _), (28, _), (29, _), (30, _), (31, _), (32, _), (33, _), (34, _), (35, _)] F ⟨rfl, rfl, rfl, rfl, rfl, rfl, rfl, rfl, rfl, rfl, rfl, rfl, rfl, rfl, rfl, rfl, rfl, rfl, rfl, rfl, rfl, rfl, rfl, rfl, rfl, rfl, rfl, rfl, rfl, rfl, rfl, rfl, rfl, rfl, trivial⟩ Tryz.mixed (by kernel_rfl) rfl (by decide) (by decide) (by kernel_rfl) (by kernel_rfl) (by kernel_rfl) (by kernel_rfl) ⟨?_, ?_, ?_, ?_, ?_, ?_, ?_, trivial⟩ (fun a w1 J => ?_) (fun a w1 om of_ hom hof J => ?_)
      ·intro a w1 hB F hA
       have S0 := S
       replace S := S.call hB
       exact pv F (fun w2 hB2 => have S := S.call hB2; y_mv rfl rfl) rfl rfl rfl (by decide)
      ·intro a w1 hB F hA
       have S0 := S
       replace S := S.call hB
       exact pv F (fun w2 hB2 => have S := S.call hB2; y_mv rfl rfl) rfl rfl rfl (by decide)
      ·intro a w1 hB F hA
       have S0 := S
       replace S := S.call hB
       replace F := F.eP (hA 1 (by decide)) rfl (d := 42) rfl rfl (y_mv rfl rfl)
       exact pv F (fun w2 hB2 => have S := S.call hB2; y_nc rfl rfl) rfl rfl rfl (by decide)
      ·intro a w1 hB F hA
       have S0 := S
       replace S := S.call hB
       replace F := F.eP (hA 1 (by decide)) rfl (d := 42) rfl rfl (y_mv rfl rfl)
       replace F := F.eP (hA 2 (by decide)) rfl (d := 43) rfl rfl (y_nc rfl rfl)
       exact pv F (fun w2 hB2 => have S := S.call hB2; y_fa rfl rfl fi114_4) rfl rfl rfl (by decide)
      ·intro a w1 hB F hA
       have S0 := S
       replace S := S.call hB
       replace F := F.eP (hA 1 (by decide)) rfl (d := 42) rfl rfl (y_mv rfl rfl)
       replace F := F.eP (hA 2 (by decide)) rfl (d := 43) rfl rfl (y_nc rfl rfl)
       replace F := F.eP (hA 3 (by decide)) rfl (d := 44) rfl rfl (y_fa rfl rfl fi114_4)
       exact pv F (fun w2 hB2 => have S := S.call hB2; y_ld rfl rfl (S.ld (i := 5) rfl rfl Tryz.isAgg39)) rfl rfl rfl (by decide)
      ·intro a w1 hB F hA
       have S0 := S
       replace S := S.call hB
       exact pv F (fun w2 hB2 => have S := S.call hB2; y_ld rfl rfl (S.lda (i := 10) rfl Tryz.isAgg52 Tryz.sizeOf52 (len37 _))) rfl rfl rfl (by decide)
      ·intro a w1 hB F hA
       have S0 := S
       replace S := S.call hB
       replace F := F.eP (hA 5 (by decide)) rfl (d := 46) rfl rfl (y_ld rfl rfl (S.lda (i := 10) rfl Tryz.isAgg52 Tryz.sizeOf52 (len37 _)))
       exact pb F rfl (y_bs rfl rfl (bsOne Tryz.underlying39 aiRd (len37 _) rfl rfl)) (fun _ => rfl) rfl rfl rfl
      ·have F := J.fr
       have E := EX.start J S
       have hle' := S.bel.size
       replace S := S.call J.bel
       replace F := F.eP (J.at 0 rfl) rfl (d := 41) rfl rfl (y_mv rfl rfl)
       replace F := F.eP (J.at 1 rfl) rfl (d := 42) rfl rfl (y_mv rfl rfl)
       replace F := F.eP (J.at 2 rfl) rfl (d := 43) rfl rfl (y_nc rfl rfl)
       replace F := F.eP (J.at 3 rfl) rfl (d := 44) rfl rfl (y_fa rfl rfl fi114_4)
       replace F := F.eP (J.at 4 rfl) rfl (d := 45) rfl rfl (y_ld rfl rfl (S.ld (i := 5) rfl rfl Tryz.isAgg39))
       replace F := F.eP (J.at 5 rfl) rfl (d := 46) rfl rfl (y_ld rfl rfl (S.lda (i := 10) rfl Tryz.isAgg52 Tryz.sizeOf52 (len37 _)))
       obtain ⟨b47, F, hb47, ho47⟩ := F.eB (P := Tryz.prog) (e := 52) (mk := mkS 1) (xs := [.tmp 46]) (cs := fun vs => cellsOf (vs.getD 0 undef)) (J.at 6 rfl) rfl (d := 47) rfl rfl rfl
       have E := EX.row J hle' E 6 rfl rfl (d := 47) (e := 52) (cs := (encRd (sumRd k))) rfl hb47 ho47
       replace S := E.st
       clear E J
       refine dap F S rfl rfl rfl (i := 7) rfl (S.fl (i := 11) rfl) (len37 _) (one37 _) Tryz.underlying39 aiRd rfl (N := (β.reads ++ [sumRd k]).length) (XS := (β.reads ++ [sumRd k]).flatMap encRd) (by rw [List.length_append]; rfl) (by simp) (by rw [List.length_append]; show (_ + 1) * _ ≤ _; omega) (by rw [List.length_append]; show _ + 1 ≤ _; omega) rfl rfl rfl fun a w Ar' cr' F S => ?_
       refine dv F (y_nc rfl rfl) rfl rfl rfl fun a F => ?_
       refine dv F (y_fa rfl rfl fi114_4) rfl rfl rfl fun a F => ?_
       refine dst F S rfl rfl rfl Tryz.sizeOf39 (i := 5) rfl rfl (Nat.le_of_ble_eq_true rfl) one1 rfl rfl fun a w F S => ?_
       refine dn ?_
       refine tn <| hK27 _ _ ?_
       refine sq fun K28 hK28 => ?_
       refine sq fun K29 hK29 => ?_
       refine rp [.p, .p, .p, .p, .p] 5 [[], [0], [0, 1], [0, 1, 2], []] [(0, _), (1, _), (3, _), (4, _), (5, _), (7, _), (8, _), (9, _), (10, _), (11, _), (12, _), (13, _), (14, _), (15, _), (16, _), (17, _), (18, _), (19, _), (20, _), (21, _), (22, _), (23, _), (24, _), (25, _), (26, _), (27, _), (28, _), (29, _), (30, _), (31, _), (32, _), (33, _), (34, _), (35, _), (41, _), (42, _), (43, _), (44, _), (45, _), (46, _), (47, _), (48, _), (49, _), (50, _)] F ⟨rfl, rfl, rfl, rfl, rfl, rfl, rfl, rfl, rfl, rfl, rfl, rfl, rfl, rfl, rfl, rfl, rfl, rfl, rfl, rfl, rfl, rfl, rfl, rfl, rfl, rfl, rfl, rfl, rfl, rfl, rfl, rfl, rfl, rfl, rfl, rfl, rfl, rfl, rfl, rfl, rfl, rfl, rfl, rfl, trivial⟩ Tryz.mixed (by kernel_rfl) rfl (.inr ⟨by decide, by kernel_rfl, by kernel_rfl⟩) (by kernel_rfl) ⟨?_, ?_, ?_, ?_, ?_, trivial⟩ fun a w1 J => ?_
       ·intro a w1 hB F hA
        have S0 := S
        replace S := S.call hB
        exact pv F (fun w2 hB2 => have S := S.call hB2; y_mv rfl rfl) rfl rfl rfl (by decide)
       ·intro a w1 hB F hA
        have S0 := S
        replace S := S.call hB
        replace F := F.eP (hA 0 (by decide)) rfl (d := 51) rfl rfl (y_mv rfl rfl)
        exact pv F (fun w2 hB2 => have S := S.call hB2; y_nc rfl rfl) rfl rfl rfl (by decide)
       ·intro a w1 hB F hA
        have S0 := S
        replace S := S.call hB
        replace F := F.eP (hA 0 (by decide)) rfl (d := 51) rfl rfl (y_mv rfl rfl)
        replace F := F.eP (hA 1 (by decide)) rfl (d := 52) rfl rfl (y_nc rfl rfl)
        exact pv F (fun w2 hB2 => have S := S.call hB2; y_fa rfl rfl fi114_0) rfl rfl rfl (by decide)
       ·intro a w1 hB F hA
        have S0 := S
        replace S := S.call hB
        replace F := F.eP (hA 0 (by decide)) rfl (d := 51) rfl rfl (y_mv rfl rfl)
        replace F := F.eP (hA 1 (by decide)) rfl (d := 52) rfl rfl (y_nc rfl rfl)
        replace F := F.eP (hA 2 (by decide)) rfl (d := 53) rfl rfl (y_fa rfl rfl fi114_0)
        exact pv F (fun w2 hB2 => have S := S.call hB2; y_ld rfl rfl ((S.ld (i := 5) rfl rfl Tryz.isAgg67))) rfl rfl rfl (by decide)
       ·intro a w1 hB F hA
        have S0 := S
        replace S := S.call hB
        exact pv F (fun w2 hB2 => have S := S.call hB2; y_ld rfl rfl (S.lda (i := 9) rfl Tryz.isAgg55 Tryz.sizeOf55 rfl)) rfl rfl rfl (by decide)
       have F := J.fr
       have E := EX.start J S
       have hle' := S.bel.size
       replace S := S.call J.bel
       replace F := F.eP (J.at 0 rfl) rfl (d := 51) rfl rfl (y_mv rfl rfl)
       replace F := F.eP (J.at 1 rfl) rfl (d := 52) rfl rfl (y_nc rfl rfl)
       replace F := F.eP (J.at 2 rfl) rfl (d := 53) rfl rfl (y_fa rfl rfl fi114_0)
       replace F := F.eP (J.at 3 rfl) rfl (d := 54) rfl rfl (y_ld rfl rfl ((S.ld (i := 5) rfl rfl Tryz.isAgg67)))
       replace F := F.eP (J.at 4 rfl) rfl (d := 55) rfl rfl (y_ld rfl rfl (S.lda (i := 9) rfl Tryz.isAgg55 Tryz.sizeOf55 rfl))
       replace S := E.st
       clear E J
       obtain ⟨S, hSep⟩ := St.packS (xs := [_, _, _, _, _]) (ys := [bk B.bx 114 (bcells B { β with reads := β.reads ++ [sumRd k] } Ar' cr'), mpe B.wb (wmap β.wrote), ow 52 34 (.slice Ar' (β.reads ++ [sumRd k]).length cr') (β.reads ++ [sumRd k]).length ((β.reads ++ [sumRd k]).flatMap encRd), mr]) (S.pick [0, 1, 2, 3, 4, 5, 6, 7, 8] _ ⟨rfl, rfl, rfl, rfl, rfl, rfl, rfl, rfl, rfl, trivial⟩ rfl)
       refine dc F (c_f rfl rfl rfl Tryz.call29) rfl rfl rfl (c_Give (mr := pk _) k G hen hez hI.inv hks ⟨sb, sr, hsr, A, c, vals, H, Hp.le_refl H, hE, hv, S⟩) fun a v w' hr F => ?_
       obtain ⟨rfl, sb2, sr2, hsr2, A2, c2, vals2, H2, hle2, hE2, hv2, S2⟩ := hr
       replace S := St.unpS (xs := [_, _, _, _, _]) S2 hSep
       have hF2 := hF.le hle2
       refine dv F (y_as rfl rfl) rfl rfl rfl fun a F => ?_
       refine dn ?_
       refine tn <| hK29 _ _ ?_
       refine sq fun K30 hK30 => ?_
       refine rg ?_
       refine dv F (y_mv rfl rfl) rfl rfl rfl fun a F => ?_
       refine dv F (y_in rfl rfl rfl) rfl rfl rfl fun a F => ?_
       refine dn ?_
       refine tn <| hK30 _ _ ?_
       refine cb F rfl (fun h8 => ?_) (fun h8 => ?_)
       ·have g8 := h8
        try simp only [zi1, zi2, zi3, zi4, zi5, zi6, zi7, zi8] at g8
        refine sq fun K31 hK31 => ?_
        refine rg ?_
        refine dv F (y_mv rfl rfl) rfl rfl rfl fun a F => ?_
        refine dv F (y_mv rfl rfl) rfl rfl rfl fun a F => ?_
        refine dc F (c_f rfl rfl rfl Tryz.call65) rfl rfl rfl (c_bfail (β := { β with run := (β.run.give B.C.env k).2, reads := β.reads ++ [sumRd k] }) (β.run.give B.C.env k).1 ⟨sb2, sr2, A2, c2, vals2, H2, Ar', cr', hsr2, Hp.le_trans hle hle2, hE2, hv2, hF2, S⟩) fun a v w' hr F => ?_
        have hB := hr
        refine dn ?_
        refine tn <| hK31 _ _ ?_
        refine sq fun K32 hK32 => ?_
        refine rg ?_
        refine dv F (y_as rfl rfl) rfl rfl rfl fun a F => ?_
        refine dn ?_
        refine tn <| hK32 _ _ ?_
        refine wp_ret ?_
        refine tr <| ?_
        exact rt1 F rfl rfl ⟨by rw [give_bad (by simpa using g1) (by simpa using g2) (fun h => by have := hsm h.1; omega) (by simpa using g8)], by rw [give_bad (by simpa using g1) (by simpa using g2) (fun h => by have := hsm h.1; omega) (by simpa using g8)]; exact hB⟩
       ·have g8 := h8
        try simp only [zi1, zi2, zi3, zi4, zi5, zi6, zi7, zi8] at g8
        refine wp_skip ?_
        refine tn <| hK28 _ _ ?_
        refine sq fun K33 hK33 => ?_
        refine rg ?_
        refine dv F (y_mv rfl rfl) rfl rfl rfl fun a F => ?_
        refine dc F (c_f rfl rfl rfl Tryz.call54) rfl rfl rfl (c_bgoOn (β0 := { β with run := (β.run.give B.C.env k).2, reads := β.reads ++ [sumRd k] }) G hen hez hl hz ⟨give_inv hI.inv k, fun _ => give_now hI.inv (by simpa using g8)⟩ ⟨sb2, sr2, A2, c2, vals2, H2, Ar', cr', hsr2, Hp.le_trans hle hle2, hE2, hv2, hF2, S⟩) fun a v w' hr F => ?_
        have hB := hr
        refine dn ?_
        refine tn <| hK33 _ _ ?_
        refine sq fun K34 hK34 => ?_
        refine rg ?_
        refine dv F (y_as rfl rfl) rfl rfl rfl fun a F => ?_
        refine dn ?_
        refine tn <| hK34 _ _ ?_
        refine wp_ret ?_
        refine ?_
        exact rt1 F rfl rfl ⟨by rw [give_go (by simpa using g1) (by simpa using g2) (fun h => by have := hsm h.1; omega) (by simpa using g8)], by rw [give_go (by simpa using g1) (by simpa using g2) (fun h => by have := hsm h.1; omega) (by simpa using g8)]; exact hB⟩
      ·have F := J.fr
       obtain rfl := Option.some.inj hom
       obtain rfl := Option.some.inj hof
       have E := EX.start J S
       have hle' := S.bel.size
       replace S := S.call J.bel
       replace F := F.eP (J.atF 1 rfl) rfl (d := 42) rfl rfl (y_mv rfl rfl)
       replace F := F.eP (J.atF 2 rfl) rfl (d := 43) rfl rfl (y_nc rfl rfl)
       replace F := F.eP (J.atF 3 rfl) rfl (d := 44) rfl rfl (y_fa rfl rfl fi114_4)
       replace F := F.eP (J.atF 4 rfl) rfl (d := 45) rfl rfl (y_ld rfl rfl (S.ld (i := 5) rfl rfl Tryz.isAgg39))
       replace F := F.eP (J.atF 5 rfl) rfl (d := 46) rfl rfl (y_ld rfl rfl (S.lda (i := 10) rfl Tryz.isAgg52 Tryz.sizeOf52 (len37 _)))
       obtain ⟨b47, F, hb47, ho47⟩ := F.eB (P := Tryz.prog) (e := 52) (mk := mkS 1) (xs := [.tmp 46]) (cs := fun vs => cellsOf (vs.getD 0 undef)) (J.atF 6 rfl) rfl (d := 47) rfl rfl rfl
       have E := EX.rowF J hle' E 6 rfl rfl (d := 47) (e := 52) (cs := (encRd (sumRd k))) rfl hb47 ho47
       replace S := E.st
       clear E J
       refine dap F S rfl rfl rfl (i := 7) rfl (S.fl (i := 11) rfl) (len37 _) (one37 _) Tryz.underlying39 aiRd rfl (N := (β.reads ++ [sumRd k]).length) (XS := (β.reads ++ [sumRd k]).flatMap encRd) (by rw [List.length_append]; rfl) (by simp) (by rw [List.length_append]; show (_ + 1) * _ ≤ _; omega) (by rw [List.length_append]; show _ + 1 ≤ _; omega) rfl rfl rfl fun a w Ar' cr' F S => ?_
       refine dv F (y_mv rfl rfl) rfl rfl rfl fun a F => ?_
       refine dv F (y_nc rfl rfl) rfl rfl rfl fun a F => ?_
       refine dv F (y_fa rfl rfl fi114_4) rfl rfl rfl fun a F => ?_
       refine dst F S rfl rfl rfl Tryz.sizeOf39 (i := 5) rfl rfl (Nat.le_of_ble_eq_true rfl) one1 rfl rfl fun a w F S => ?_
       refine dn ?_
       refine tn <| hK27 _ _ ?_
       refine sq fun K35 hK35 => ?_
       refine sq fun K36 hK36 => ?_
       refine rp [.p, .p, .p, .p, .p] 5 [[], [0], [0, 1], [0, 1, 2], []] [(0, _), (1, _), (3, _), (4, _), (5, _), (7, _), (8, _), (9, _), (10, _), (11, _), (12, _), (13, _), (14, _), (15, _), (16, _), (17, _), (18, _), (19, _), (20, _), (21, _), (22, _), (23, _), (24, _), (25, _), (26, _), (27, _), (28, _), (29, _), (30, _), (31, _), (32, _), (33, _), (34, _), (35, _), (41, _), (42, _), (43, _), (44, _), (45, _), (46, _), (47, _), (48, _), (49, _), (50, _)] F ⟨rfl, rfl, rfl, rfl, rfl, rfl, rfl, rfl, rfl, rfl, rfl, rfl, rfl, rfl, rfl, rfl, rfl, rfl, rfl, rfl, rfl, rfl, rfl, rfl, rfl, rfl, rfl, rfl, rfl, rfl, rfl, rfl, rfl, rfl, rfl, rfl, rfl, rfl, rfl, rfl, rfl, rfl, rfl, rfl, trivial⟩ Tryz.mixed (by kernel_rfl) rfl (.inr ⟨by decide, by kernel_rfl, by kernel_rfl⟩) (by kernel_rfl) ⟨?_, ?_, ?_, ?_, ?_, trivial⟩ fun a w1 J => ?_
       ·intro a w1 hB F hA
        have S0 := S
        replace S := S.call hB
        exact pv F (fun w2 hB2 => have S := S.call hB2; y_mv rfl rfl) rfl rfl rfl (by decide)
       ·intro a w1 hB F hA
        have S0 := S
        replace S := S.call hB
        replace F := F.eP (hA 0 (by decide)) rfl (d := 51) rfl rfl (y_mv rfl rfl)
        exact pv F (fun w2 hB2 => have S := S.call hB2; y_nc rfl rfl) rfl rfl rfl (by decide)
       ·intro a w1 hB F hA
        have S0 := S
        replace S := S.call hB
        replace F := F.eP (hA 0 (by decide)) rfl (d := 51) rfl rfl (y_mv rfl rfl)
        replace F := F.eP (hA 1 (by decide)) rfl (d := 52) rfl rfl (y_nc rfl rfl)
        exact pv F (fun w2 hB2 => have S := S.call hB2; y_fa rfl rfl fi114_0) rfl rfl rfl (by decide)
       ·intro a w1 hB F hA
        have S0 := S
        replace S := S.call hB
        replace F := F.eP (hA 0 (by decide)) rfl (d := 51) rfl rfl (y_mv rfl rfl)
        replace F := F.eP (hA 1 (by decide)) rfl (d := 52) rfl rfl (y_nc rfl rfl)
        replace F := F.eP (hA 2 (by decide)) rfl (d := 53) rfl rfl (y_fa rfl rfl fi114_0)
        exact pv F (fun w2 hB2 => have S := S.call hB2; y_ld rfl rfl ((S.ld (i := 5) rfl rfl Tryz.isAgg67))) rfl rfl rfl (by decide)
       ·intro a w1 hB F hA
        have S0 := S
        replace S := S.call hB
        exact pv F (fun w2 hB2 => have S := S.call hB2; y_ld rfl rfl (S.lda (i := 9) rfl Tryz.isAgg55 Tryz.sizeOf55 rfl)) rfl rfl rfl (by decide)
       have F := J.fr
       have E := EX.start J S
       have hle' := S.bel.size
       replace S := S.call J.bel
       replace F := F.eP (J.at 0 rfl) rfl (d := 51) rfl rfl (y_mv rfl rfl)
       replace F := F.eP (J.at 1 rfl) rfl (d := 52) rfl rfl (y_nc rfl rfl)
       replace F := F.eP (J.at 2 rfl) rfl (d := 53) rfl rfl (y_fa rfl rfl fi114_0)
       replace F := F.eP (J.at 3 rfl) rfl (d := 54) rfl rfl (y_ld rfl rfl ((S.ld (i := 5) rfl rfl Tryz.isAgg67)))
       replace F := F.eP (J.at 4 rfl) rfl (d := 55) rfl rfl (y_ld rfl rfl (S.lda (i := 9) rfl Tryz.isAgg55 Tryz.sizeOf55 rfl))
       replace S := E.st
       clear E J
       obtain ⟨S, hSep⟩ := St.packS (xs := [_, _, _, _, _]) (ys := [bk B.bx 114 (bcells B { β with reads := β.reads ++ [sumRd k] } Ar' cr'), mpe B.wb (wmap β.wrote), ow 52 34 (.slice Ar' (β.reads ++ [sumRd k]).length cr') (β.reads ++ [sumRd k]).length ((β.reads ++ [sumRd k]).flatMap encRd), mr]) (S.pick [0, 1, 2, 3, 4, 5, 6, 7, 8] _ ⟨rfl, rfl, rfl, rfl, rfl, rfl, rfl, rfl, rfl, trivial⟩ rfl)
       refine dc F (c_f rfl rfl rfl Tryz.call29) rfl rfl rfl (c_Give (mr := pk _) k G hen hez hI.inv hks ⟨sb, sr, hsr, A, c, vals, H, Hp.le_refl H, hE, hv, S⟩) fun a v w' hr F => ?_
       obtain ⟨rfl, sb2, sr2, hsr2, A2, c2, vals2, H2, hle2, hE2, hv2, S2⟩ := hr
       replace S := St.unpS (xs := [_, _, _, _, _]) S2 hSep
       have hF2 := hF.le hle2
       refine dv F (y_as rfl rfl) rfl rfl rfl fun a F => ?_
       refine dn ?_
       refine tn <| hK36 _ _ ?_
       refine sq fun K37 hK37 => ?_
       refine rg ?_
       refine dv F (y_mv rfl rfl) rfl rfl rfl fun a F => ?_
       refine dv F (y_in rfl rfl rfl) rfl rfl rfl fun a F => ?_
       refine dn ?_
       refine tn <| hK37 _ _ ?_
       refine cb F rfl (fun h9 => ?_) (fun h9 => ?_)
       ·have g9 := h9
        try simp only [zi1, zi2, zi3, zi4, zi5, zi6, zi7, zi8] at g9
        refine sq fun K38 hK38 => ?_
        refine rg ?_
        refine dv F (y_mv rfl rfl) rfl rfl rfl fun a F => ?_
        refine dv F (y_mv rfl rfl) rfl rfl rfl fun a F => ?_
        refine dc F (c_f rfl rfl rfl Tryz.call65) rfl rfl rfl (c_bfail (β := { β with run := (β.run.give B.C.env k).2, reads := β.reads ++ [sumRd k] }) (β.run.give B.C.env k).1 ⟨sb2, sr2, A2, c2, vals2, H2, Ar', cr', hsr2, Hp.le_trans hle hle2, hE2, hv2, hF2, S⟩) fun a v w' hr F => ?_
        have hB := hr
        refine dn ?_
        refine tn <| hK38 _ _ ?_
        refine sq fun K39 hK39 => ?_
        refine rg ?_
        refine dv F (y_as rfl rfl) rfl rfl rfl fun a F => ?_
        refine dn ?_
        refine tn <| hK39 _ _ ?_
        refine wp_ret ?_
        refine tr <| ?_
        exact rt1 F rfl rfl ⟨by rw [give_bad (by simpa using g1) (by simpa using g2) (fun h => by have := hsm h.1; omega) (by simpa using g9)], by rw [give_bad (by simpa using g1) (by simpa using g2) (fun h => by have := hsm h.1; omega) (by simpa using g9)]; exact hB⟩
       ·have g9 := h9
        try simp only [zi1, zi2, zi3, zi4, zi5, zi6, zi7, zi8] at g9
        refine wp_skip ?_
        refine tn <| hK35 _ _ ?_
        refine sq fun K40 hK40 => ?_
        refine rg ?_
        refine dv F (y_mv rfl rfl) rfl rfl rfl fun a F => ?_
        refine dc F (c_f rfl rfl rfl Tryz.call54) rfl rfl rfl (c_bgoOn (β0 := { β with run := (β.run.give B.C.env k).2, reads := β.reads ++ [sumRd k] }) G hen hez hl hz ⟨give_inv hI.inv k, fun _ => give_now hI.inv (by simpa using g9)⟩ ⟨sb2, sr2, A2, c2, vals2, H2, Ar', cr', hsr2, Hp.le_trans hle hle2, hE2, hv2, hF2, S⟩) fun a v w' hr F => ?_
        have hB := hr
        refine dn ?_
        refine tn <| hK40 _ _ ?_
        refine sq fun K41 hK41 => ?_
        refine rg ?_
        refine dv F (y_as rfl rfl) rfl rfl rfl fun a F => ?_
        refine dn ?_
        refine tn <| hK41 _ _ ?_
        refine wp_ret ?_
        refine ?_
        exact rt1 F rfl rfl ⟨by rw [give_go (by simpa using g1) (by simpa using g2) (fun h => by have := hsm h.1; omega) (by simpa using g9)], by rw [give_go (by simpa using g1) (by simpa using g2) (fun h => by have := hsm h.1; omega) (by simpa using g9)]; exact hB⟩
   ·have g3 := h3
    try simp only [zi1, zi2, zi3, zi4, zi5, zi6, zi7, zi8] at g3
    refine gs F rfl rfl rfl h3 rfl rfl fun a F => ?_
    refine gs F rfl rfl rfl h3 rfl rfl fun a F => ?_
    refine gs F rfl rfl rfl h3 rfl rfl fun a F => ?_
    refine gs F rfl rfl rfl h3 rfl rfl fun a F => ?_
    refine dv F (y_pkf h3 rfl rfl rfl) rfl rfl rfl fun a F => ?_
    refine dv F (y_as rfl rfl) rfl rfl rfl fun a F => ?_
    refine dn ?_
    refine tn <| hK7 _ _ ?_
    refine cf F rfl rfl ?_
    refine wp_skip ?_
    refine bn <| tn <| hK2 _ _ ?_
    refine sq fun K42 hK42 => ?_
    have hsm : k.is = true → k.data.size ≤ 65536 := by
     intro hh
     first
      | omega
      | simp_all
    refine rg ?_
    refine dv F (y_fa rfl rfl fi55_0) rfl rfl rfl fun a F => ?_
    refine dv F (y_ld rfl rfl (S.ld (i := 9) rfl rfl Tryz.isAgg9)) rfl rfl rfl fun a F => ?_
    refine dv F (y_fa rfl rfl fi55_1) rfl rfl rfl fun a F => ?_
    refine dv F (y_ld rfl rfl (S.ld (i := 9) rfl rfl Tryz.isAgg4)) rfl rfl rfl fun a F => ?_
    refine dv F (y_bd rfl rfl ((bdK2))) rfl rfl rfl fun a F => ?_
    refine dal F S rfl Tryz.zeroValue52 rfl rfl rfl rfl fun a w b5 F S => ?_
    refine dsw F S rfl rfl rfl Tryz.sizeOf52 (i := 10) rfl rfl (len37 _) rfl (one37 _) rfl rfl fun a w F S => ?_
    refine dn ?_
    refine tn <| hK42 _ _ ?_
    refine sq fun K43 hK43 => ?_
    refine sq fun K44 hK44 => ?_
    refine rg ?_
    refine dv F (y_fa rfl rfl fi55_1) rfl rfl rfl fun a F => ?_
    refine dv F (y_ld rfl rfl (S.ld (i := 9) rfl rfl Tryz.isAgg4)) rfl rfl rfl fun a F => ?_
    refine dn ?_
    refine tn <| hK44 _ _ ?_
    refine cb F rfl (fun h10 => ?_) (fun h10 => ?_)
    ·have g10 := h10
     try simp only [zi1, zi2, zi3, zi4, zi5, zi6, zi7, zi8] at g10
     refine rg ?_
     refine dv F (y_fa rfl rfl fi55_2) rfl rfl rfl fun a F => ?_
     refine dv F (y_ld rfl rfl (S.ld (i := 9) rfl rfl Tryz.isAgg9)) rfl rfl rfl fun a F => ?_
     refine dbs F S rfl rfl bsS1 rfl rfl rfl fun a w b38 F S => ?_
     refine dc F (c_f rfl rfl rfl Tryz.call39) rfl rfl rfl (f39_c [k.data] _ (S.sl (i := 11) (xs := [k.data]) rfl lenS) (by rw [cat_one, bI_len]; have := hsm (by assumption); omega) (show 1 ≤ 1000000 by decide)) fun a v w' hr F => ?_
     obtain ⟨rfl, hb⟩ := hr
     replace S := S.call hb
     refine dv F (y_fa rfl rfl fi52_2) rfl rfl rfl fun a F => ?_
     refine dst F S rfl rfl rfl Tryz.sizeOf50 (i := 10) rfl (len32 _) (by simp [cellsOf, len37]) (one32 _) rfl rfl fun a w F S => ?_
     refine dn ?_
     refine tn <| hK43 _ _ ?_
     refine sq fun K45 hK45 => ?_
     first
      | (rw [putl_sum, cat_one, show (⟨k.path, k.is, dgst (bI k.data)⟩ : Rd) = sumRd k from by rw [sumRd, if_pos (by assumption)]] at S)
      | (rw [show (⟨k.path, k.is, dig0⟩ : Rd) = sumRd k from by rw [sumRd, if_neg (by intro hh; simp_all)]] at S)
     refine rpF [.p, .p, .p, .p, .p, .p, .b 52 (mkS 1) [.tmp 46] (fun vs => cellsOf (vs.getD 0 undef))] 7 0 [[], [], [1], [1, 2], [1, 2, 3], [], [5]] [(0, _), (1, _), (3, _), (4, _), (5, _), (7, _), (8, _), (9, _), (10, _), (11, _), (12, _), (13, _), (14, _), (15, _), (16, _), (17, _), (18, _), (19, _), (20, _), (21, _), (22, _), (23, _), (24, _), (25, _), (26, _), (27, _), (28, _), (29, _), (30, _), (31, _), (32, _), (33, _), (34, _), (35, _), (36, _), (37, _), (38, _), (39, _), (40, _)] F ⟨rfl, rfl, rfl, rfl, rfl, rfl, rfl, rfl, rfl, rfl, rfl, rfl, rfl, rfl, rfl, rfl, rfl, rfl, rfl, rfl, rfl, rfl, rfl, rfl, rfl, rfl, rfl, rfl, rfl, rfl, rfl, rfl, rfl, rfl, rfl, rfl, rfl, rfl, rfl, trivial⟩ Tryz.mixed (by kernel_rfl) rfl (by decide) (by decide) (by kernel_rfl) (by kernel_rfl) (by kernel_rfl) (by kernel_rfl) ⟨?_, ?_, ?_, ?_, ?_, ?_, ?_, trivial⟩ (fun a w1 J => ?_) (fun a w1 om of_ hom hof J => ?_)
     ·intro a w1 hB F hA
      have S0 := S
      replace S := S.call hB
      exact pv F (fun w2 hB2 => have S := S.call hB2; y_mv rfl rfl) rfl rfl rfl (by decide)
     ·intro a w1 hB F hA
      have S0 := S
      replace S := S.call hB
      exact pv F (fun w2 hB2 => have S := S.call hB2; y_mv rfl rfl) rfl rfl rfl (by decide)
     ·intro a w1 hB F hA
      have S0 := S
      replace S := S.call hB
      replace F := F.eP (hA 1 (by decide)) rfl (d := 42) rfl rfl (y_mv rfl rfl)
      exact pv F (fun w2 hB2 => have S := S.call hB2; y_nc rfl rfl) rfl rfl rfl (by decide)
     ·intro a w1 hB F hA
      have S0 := S
      replace S := S.call hB
      replace F := F.eP (hA 1 (by decide)) rfl (d := 42) rfl rfl (y_mv rfl rfl)
      replace F := F.eP (hA 2 (by decide)) rfl (d := 43) rfl rfl (y_nc rfl rfl)
      exact pv F (fun w2 hB2 => have S := S.call hB2; y_fa rfl rfl fi114_4) rfl rfl rfl (by decide)
     ·intro a w1 hB F hA
      have S0 := S
      replace S := S.call hB
      replace F := F.eP (hA 1 (by decide)) rfl (d := 42) rfl rfl (y_mv rfl rfl)
      replace F := F.eP (hA 2 (by decide)) rfl (d := 43) rfl rfl (y_nc rfl rfl)
      replace F := F.eP (hA 3 (by decide)) rfl (d := 44) rfl rfl (y_fa rfl rfl fi114_4)
      exact pv F (fun w2 hB2 => have S := S.call hB2; y_ld rfl rfl (S.ld (i := 5) rfl rfl Tryz.isAgg39)) rfl rfl rfl (by decide)
     ·intro a w1 hB F hA
      have S0 := S
      replace S := S.call hB
      exact pv F (fun w2 hB2 => have S := S.call hB2; y_ld rfl rfl (S.lda (i := 10) rfl Tryz.isAgg52 Tryz.sizeOf52 (len37 _))) rfl rfl rfl (by decide)
     ·intro a w1 hB F hA
      have S0 := S
      replace S := S.call hB
      replace F := F.eP (hA 5 (by decide)) rfl (d := 46) rfl rfl (y_ld rfl rfl (S.lda (i := 10) rfl Tryz.isAgg52 Tryz.sizeOf52 (len37 _)))
      exact pb F rfl (y_bs rfl rfl (bsOne Tryz.underlying39 aiRd (len37 _) rfl rfl)) (fun _ => rfl) rfl rfl rfl
     ·have F := J.fr
      have E := EX.start J S
      have hle' := S.bel.size
      replace S := S.call J.bel
      replace F := F.eP (J.at 0 rfl) rfl (d := 41) rfl rfl (y_mv rfl rfl)
      replace F := F.eP (J.at 1 rfl) rfl (d := 42) rfl rfl (y_mv rfl rfl)
      replace F := F.eP (J.at 2 rfl) rfl (d := 43) rfl rfl (y_nc rfl rfl)
      replace F := F.eP (J.at 3 rfl) rfl (d := 44) rfl rfl (y_fa rfl rfl fi114_4)
      replace F := F.eP (J.at 4 rfl) rfl (d := 45) rfl rfl (y_ld rfl rfl (S.ld (i := 5) rfl rfl Tryz.isAgg39))
      replace F := F.eP (J.at 5 rfl) rfl (d := 46) rfl rfl (y_ld rfl rfl (S.lda (i := 10) rfl Tryz.isAgg52 Tryz.sizeOf52 (len37 _)))
      obtain ⟨b47, F, hb47, ho47⟩ := F.eB (P := Tryz.prog) (e := 52) (mk := mkS 1) (xs := [.tmp 46]) (cs := fun vs => cellsOf (vs.getD 0 undef)) (J.at 6 rfl) rfl (d := 47) rfl rfl rfl
      have E := EX.row J hle' E 6 rfl rfl (d := 47) (e := 52) (cs := (encRd (sumRd k))) rfl hb47 ho47
      replace S := E.st
      clear E J
      refine dap F S rfl rfl rfl (i := 7) rfl (S.fl (i := 12) rfl) (len37 _) (one37 _) Tryz.underlying39 aiRd rfl (N := (β.reads ++ [sumRd k]).length) (XS := (β.reads ++ [sumRd k]).flatMap encRd) (by rw [List.length_append]; rfl) (by simp) (by rw [List.length_append]; show (_ + 1) * _ ≤ _; omega) (by rw [List.length_append]; show _ + 1 ≤ _; omega) rfl rfl rfl fun a w Ar' cr' F S => ?_
      refine dv F (y_nc rfl rfl) rfl rfl rfl fun a F => ?_
      refine dv F (y_fa rfl rfl fi114_4) rfl rfl rfl fun a F => ?_
      refine dst F S rfl rfl rfl Tryz.sizeOf39 (i := 5) rfl rfl (Nat.le_of_ble_eq_true rfl) one1 rfl rfl fun a w F S => ?_
      refine dn ?_
      refine tn <| hK45 _ _ ?_
      refine sq fun K46 hK46 => ?_
      refine sq fun K47 hK47 => ?_
      refine rp [.p, .p, .p, .p, .p] 5 [[], [0], [0, 1], [0, 1, 2], []] [(0, _), (1, _), (3, _), (4, _), (5, _), (7, _), (8, _), (9, _), (10, _), (11, _), (12, _), (13, _), (14, _), (15, _), (16, _), (17, _), (18, _), (19, _), (20, _), (21, _), (22, _), (23, _), (24, _), (25, _), (26, _), (27, _), (28, _), (29, _), (30, _), (31, _), (32, _), (33, _), (34, _), (35, _), (36, _), (37, _), (38, _), (39, _), (40, _), (41, _), (42, _), (43, _), (44, _), (45, _), (46, _), (47, _), (48, _), (49, _), (50, _)] F ⟨rfl, rfl, rfl, rfl, rfl, rfl, rfl, rfl, rfl, rfl, rfl, rfl, rfl, rfl, rfl, rfl, rfl, rfl, rfl, rfl, rfl, rfl, rfl, rfl, rfl, rfl, rfl, rfl, rfl, rfl, rfl, rfl, rfl, rfl, rfl, rfl, rfl, rfl, rfl, rfl, rfl, rfl, rfl, rfl, rfl, rfl, rfl, rfl, rfl, trivial⟩ Tryz.mixed (by kernel_rfl) rfl (.inr ⟨by decide, by kernel_rfl, by kernel_rfl⟩) (by kernel_rfl) ⟨?_, ?_, ?_, ?_, ?_, trivial⟩ fun a w1 J => ?_
      ·intro a w1 hB F hA
       have S0 := S
       replace S := S.call hB
       exact pv F (fun w2 hB2 => have S := S.call hB2; y_mv rfl rfl) rfl rfl rfl (by decide)
      ·intro a w1 hB F hA
       have S0 := S
       replace S := S.call hB
       replace F := F.eP (hA 0 (by decide)) rfl (d := 51) rfl rfl (y_mv rfl rfl)
       exact pv F (fun w2 hB2 => have S := S.call hB2; y_nc rfl rfl) rfl rfl rfl (by decide)
      ·intro a w1 hB F hA
       have S0 := S
       replace S := S.call hB
       replace F := F.eP (hA 0 (by decide)) rfl (d := 51) rfl rfl (y_mv rfl rfl)
       replace F := F.eP (hA 1 (by decide)) rfl (d := 52) rfl rfl (y_nc rfl rfl)
       exact pv F (fun w2 hB2 => have S := S.call hB2; y_fa rfl rfl fi114_0) rfl rfl rfl (by decide)
      ·intro a w1 hB F hA
       have S0 := S
       replace S := S.call hB
       replace F := F.eP (hA 0 (by decide)) rfl (d := 51) rfl rfl (y_mv rfl rfl)
       replace F := F.eP (hA 1 (by decide)) rfl (d := 52) rfl rfl (y_nc rfl rfl)
       replace F := F.eP (hA 2 (by decide)) rfl (d := 53) rfl rfl (y_fa rfl rfl fi114_0)
       exact pv F (fun w2 hB2 => have S := S.call hB2; y_ld rfl rfl ((S.ld (i := 5) rfl rfl Tryz.isAgg67))) rfl rfl rfl (by decide)
      ·intro a w1 hB F hA
       have S0 := S
       replace S := S.call hB
       exact pv F (fun w2 hB2 => have S := S.call hB2; y_ld rfl rfl (S.lda (i := 9) rfl Tryz.isAgg55 Tryz.sizeOf55 rfl)) rfl rfl rfl (by decide)
      have F := J.fr
      have E := EX.start J S
      have hle' := S.bel.size
      replace S := S.call J.bel
      replace F := F.eP (J.at 0 rfl) rfl (d := 51) rfl rfl (y_mv rfl rfl)
      replace F := F.eP (J.at 1 rfl) rfl (d := 52) rfl rfl (y_nc rfl rfl)
      replace F := F.eP (J.at 2 rfl) rfl (d := 53) rfl rfl (y_fa rfl rfl fi114_0)
      replace F := F.eP (J.at 3 rfl) rfl (d := 54) rfl rfl (y_ld rfl rfl ((S.ld (i := 5) rfl rfl Tryz.isAgg67)))
      replace F := F.eP (J.at 4 rfl) rfl (d := 55) rfl rfl (y_ld rfl rfl (S.lda (i := 9) rfl Tryz.isAgg55 Tryz.sizeOf55 rfl))
      replace S := E.st
      clear E J
      obtain ⟨S, hSep⟩ := St.packS (xs := [_, _, _, _, _]) (ys := [bk B.bx 114 (bcells B { β with reads := β.reads ++ [sumRd k] } Ar' cr'), mpe B.wb (wmap β.wrote), ow 52 34 (.slice Ar' (β.reads ++ [sumRd k]).length cr') (β.reads ++ [sumRd k]).length ((β.reads ++ [sumRd k]).flatMap encRd), mr]) (S.pick [0, 1, 2, 3, 4, 5, 6, 7, 8] _ ⟨rfl, rfl, rfl, rfl, rfl, rfl, rfl, rfl, rfl, trivial⟩ rfl)
      refine dc F (c_f rfl rfl rfl Tryz.call29) rfl rfl rfl (c_Give (mr := pk _) k G hen hez hI.inv hks ⟨sb, sr, hsr, A, c, vals, H, Hp.le_refl H, hE, hv, S⟩) fun a v w' hr F => ?_
      obtain ⟨rfl, sb2, sr2, hsr2, A2, c2, vals2, H2, hle2, hE2, hv2, S2⟩ := hr
      replace S := St.unpS (xs := [_, _, _, _, _]) S2 hSep
      have hF2 := hF.le hle2
      refine dv F (y_as rfl rfl) rfl rfl rfl fun a F => ?_
      refine dn ?_
      refine tn <| hK47 _ _ ?_
      refine sq fun K48 hK48 => ?_
      refine rg ?_
      refine dv F (y_mv rfl rfl) rfl rfl rfl fun a F => ?_
      refine dv F (y_in rfl rfl rfl) rfl rfl rfl fun a F => ?_
      refine dn ?_
      refine tn <| hK48 _ _ ?_
      refine cb F rfl (fun h11 => ?_) (fun h11 => ?_)
      ·have g11 := h11
       try simp only [zi1, zi2, zi3, zi4, zi5, zi6, zi7, zi8] at g11
       refine sq fun K49 hK49 => ?_
       refine rg ?_
       refine dv F (y_mv rfl rfl) rfl rfl rfl fun a F => ?_
       refine dv F (y_mv rfl rfl) rfl rfl rfl fun a F => ?_
       refine dc F (c_f rfl rfl rfl Tryz.call65) rfl rfl rfl (c_bfail (β := { β with run := (β.run.give B.C.env k).2, reads := β.reads ++ [sumRd k] }) (β.run.give B.C.env k).1 ⟨sb2, sr2, A2, c2, vals2, H2, Ar', cr', hsr2, Hp.le_trans hle hle2, hE2, hv2, hF2, S⟩) fun a v w' hr F => ?_
       have hB := hr
       refine dn ?_
       refine tn <| hK49 _ _ ?_
       refine sq fun K50 hK50 => ?_
       refine rg ?_
       refine dv F (y_as rfl rfl) rfl rfl rfl fun a F => ?_
       refine dn ?_
       refine tn <| hK50 _ _ ?_
       refine wp_ret ?_
       refine tr <| ?_
       exact rt1 F rfl rfl ⟨by rw [give_bad (by simpa using g1) (by simpa using g2) (fun h => by have := hsm h.1; omega) (by simpa using g11)], by rw [give_bad (by simpa using g1) (by simpa using g2) (fun h => by have := hsm h.1; omega) (by simpa using g11)]; exact hB⟩
      ·have g11 := h11
       try simp only [zi1, zi2, zi3, zi4, zi5, zi6, zi7, zi8] at g11
       refine wp_skip ?_
       refine tn <| hK46 _ _ ?_
       refine sq fun K51 hK51 => ?_
       refine rg ?_
       refine dv F (y_mv rfl rfl) rfl rfl rfl fun a F => ?_
       refine dc F (c_f rfl rfl rfl Tryz.call54) rfl rfl rfl (c_bgoOn (β0 := { β with run := (β.run.give B.C.env k).2, reads := β.reads ++ [sumRd k] }) G hen hez hl hz ⟨give_inv hI.inv k, fun _ => give_now hI.inv (by simpa using g11)⟩ ⟨sb2, sr2, A2, c2, vals2, H2, Ar', cr', hsr2, Hp.le_trans hle hle2, hE2, hv2, hF2, S⟩) fun a v w' hr F => ?_
       have hB := hr
       refine dn ?_
       refine tn <| hK51 _ _ ?_
       refine sq fun K52 hK52 => ?_
       refine rg ?_
       refine dv F (y_as rfl rfl) rfl rfl rfl fun a F => ?_
       refine dn ?_
       refine tn <| hK52 _ _ ?_
       refine wp_ret ?_
       refine ?_
       exact rt1 F rfl rfl ⟨by rw [give_go (by simpa using g1) (by simpa using g2) (fun h => by have := hsm h.1; omega) (by simpa using g11)], by rw [give_go (by simpa using g1) (by simpa using g2) (fun h => by have := hsm h.1; omega) (by simpa using g11)]; exact hB⟩
     ·have F := J.fr
      obtain rfl := Option.some.inj hom
      obtain rfl := Option.some.inj hof
      have E := EX.start J S
      have hle' := S.bel.size
      replace S := S.call J.bel
      replace F := F.eP (J.atF 1 rfl) rfl (d := 42) rfl rfl (y_mv rfl rfl)
      replace F := F.eP (J.atF 2 rfl) rfl (d := 43) rfl rfl (y_nc rfl rfl)
      replace F := F.eP (J.atF 3 rfl) rfl (d := 44) rfl rfl (y_fa rfl rfl fi114_4)
      replace F := F.eP (J.atF 4 rfl) rfl (d := 45) rfl rfl (y_ld rfl rfl (S.ld (i := 5) rfl rfl Tryz.isAgg39))
      replace F := F.eP (J.atF 5 rfl) rfl (d := 46) rfl rfl (y_ld rfl rfl (S.lda (i := 10) rfl Tryz.isAgg52 Tryz.sizeOf52 (len37 _)))
      obtain ⟨b47, F, hb47, ho47⟩ := F.eB (P := Tryz.prog) (e := 52) (mk := mkS 1) (xs := [.tmp 46]) (cs := fun vs => cellsOf (vs.getD 0 undef)) (J.atF 6 rfl) rfl (d := 47) rfl rfl rfl
      have E := EX.rowF J hle' E 6 rfl rfl (d := 47) (e := 52) (cs := (encRd (sumRd k))) rfl hb47 ho47
      replace S := E.st
      clear E J
      refine dap F S rfl rfl rfl (i := 7) rfl (S.fl (i := 12) rfl) (len37 _) (one37 _) Tryz.underlying39 aiRd rfl (N := (β.reads ++ [sumRd k]).length) (XS := (β.reads ++ [sumRd k]).flatMap encRd) (by rw [List.length_append]; rfl) (by simp) (by rw [List.length_append]; show (_ + 1) * _ ≤ _; omega) (by rw [List.length_append]; show _ + 1 ≤ _; omega) rfl rfl rfl fun a w Ar' cr' F S => ?_
      refine dv F (y_mv rfl rfl) rfl rfl rfl fun a F => ?_
      refine dv F (y_nc rfl rfl) rfl rfl rfl fun a F => ?_
      refine dv F (y_fa rfl rfl fi114_4) rfl rfl rfl fun a F => ?_
      refine dst F S rfl rfl rfl Tryz.sizeOf39 (i := 5) rfl rfl (Nat.le_of_ble_eq_true rfl) one1 rfl rfl fun a w F S => ?_
      refine dn ?_
      refine tn <| hK45 _ _ ?_
      refine sq fun K53 hK53 => ?_
      refine sq fun K54 hK54 => ?_
      refine rp [.p, .p, .p, .p, .p] 5 [[], [0], [0, 1], [0, 1, 2], []] [(0, _), (1, _), (3, _), (4, _), (5, _), (7, _), (8, _), (9, _), (10, _), (11, _), (12, _), (13, _), (14, _), (15, _), (16, _), (17, _), (18, _), (19, _), (20, _), (21, _), (22, _), (23, _), (24, _), (25, _), (26, _), (27, _), (28, _), (29, _), (30, _), (31, _), (32, _), (33, _), (34, _), (35, _), (36, _), (37, _), (38, _), (39, _), (40, _), (41, _), (42, _), (43, _), (44, _), (45, _), (46, _), (47, _), (48, _), (49, _), (50, _)] F ⟨rfl, rfl, rfl, rfl, rfl, rfl, rfl, rfl, rfl, rfl, rfl, rfl, rfl, rfl, rfl, rfl, rfl, rfl, rfl, rfl, rfl, rfl, rfl, rfl, rfl, rfl, rfl, rfl, rfl, rfl, rfl, rfl, rfl, rfl, rfl, rfl, rfl, rfl, rfl, rfl, rfl, rfl, rfl, rfl, rfl, rfl, rfl, rfl, rfl, trivial⟩ Tryz.mixed (by kernel_rfl) rfl (.inr ⟨by decide, by kernel_rfl, by kernel_rfl⟩) (by kernel_rfl) ⟨?_, ?_, ?_, ?_, ?_, trivial⟩ fun a w1 J => ?_
      ·intro a w1 hB F hA
       have S0 := S
       replace S := S.call hB
       exact pv F (fun w2 hB2 => have S := S.call hB2; y_mv rfl rfl) rfl rfl rfl (by decide)
      ·intro a w1 hB F hA
       have S0 := S
       replace S := S.call hB
       replace F := F.eP (hA 0 (by decide)) rfl (d := 51) rfl rfl (y_mv rfl rfl)
       exact pv F (fun w2 hB2 => have S := S.call hB2; y_nc rfl rfl) rfl rfl rfl (by decide)
      ·intro a w1 hB F hA
       have S0 := S
       replace S := S.call hB
       replace F := F.eP (hA 0 (by decide)) rfl (d := 51) rfl rfl (y_mv rfl rfl)
       replace F := F.eP (hA 1 (by decide)) rfl (d := 52) rfl rfl (y_nc rfl rfl)
       exact pv F (fun w2 hB2 => have S := S.call hB2; y_fa rfl rfl fi114_0) rfl rfl rfl (by decide)
      ·intro a w1 hB F hA
       have S0 := S
       replace S := S.call hB
       replace F := F.eP (hA 0 (by decide)) rfl (d := 51) rfl rfl (y_mv rfl rfl)
       replace F := F.eP (hA 1 (by decide)) rfl (d := 52) rfl rfl (y_nc rfl rfl)
       replace F := F.eP (hA 2 (by decide)) rfl (d := 53) rfl rfl (y_fa rfl rfl fi114_0)
       exact pv F (fun w2 hB2 => have S := S.call hB2; y_ld rfl rfl ((S.ld (i := 5) rfl rfl Tryz.isAgg67))) rfl rfl rfl (by decide)
      ·intro a w1 hB F hA
       have S0 := S
       replace S := S.call hB
       exact pv F (fun w2 hB2 => have S := S.call hB2; y_ld rfl rfl (S.lda (i := 9) rfl Tryz.isAgg55 Tryz.sizeOf55 rfl)) rfl rfl rfl (by decide)
      have F := J.fr
      have E := EX.start J S
      have hle' := S.bel.size
      replace S := S.call J.bel
      replace F := F.eP (J.at 0 rfl) rfl (d := 51) rfl rfl (y_mv rfl rfl)
      replace F := F.eP (J.at 1 rfl) rfl (d := 52) rfl rfl (y_nc rfl rfl)
      replace F := F.eP (J.at 2 rfl) rfl (d := 53) rfl rfl (y_fa rfl rfl fi114_0)
      replace F := F.eP (J.at 3 rfl) rfl (d := 54) rfl rfl (y_ld rfl rfl ((S.ld (i := 5) rfl rfl Tryz.isAgg67)))
      replace F := F.eP (J.at 4 rfl) rfl (d := 55) rfl rfl (y_ld rfl rfl (S.lda (i := 9) rfl Tryz.isAgg55 Tryz.sizeOf55 rfl))
      replace S := E.st
      clear E J
      obtain ⟨S, hSep⟩ := St.packS (xs := [_, _, _, _, _]) (ys := [bk B.bx 114 (bcells B { β with reads := β.reads ++ [sumRd k] } Ar' cr'), mpe B.wb (wmap β.wrote), ow 52 34 (.slice Ar' (β.reads ++ [sumRd k]).length cr') (β.reads ++ [sumRd k]).length ((β.reads ++ [sumRd k]).flatMap encRd), mr]) (S.pick [0, 1, 2, 3, 4, 5, 6, 7, 8] _ ⟨rfl, rfl, rfl, rfl, rfl, rfl, rfl, rfl, rfl, trivial⟩ rfl)
      refine dc F (c_f rfl rfl rfl Tryz.call29) rfl rfl rfl (c_Give (mr := pk _) k G hen hez hI.inv hks ⟨sb, sr, hsr, A, c, vals, H, Hp.le_refl H, hE, hv, S⟩) fun a v w' hr F => ?_
      obtain ⟨rfl, sb2, sr2, hsr2, A2, c2, vals2, H2, hle2, hE2, hv2, S2⟩ := hr
      replace S := St.unpS (xs := [_, _, _, _, _]) S2 hSep
      have hF2 := hF.le hle2
      refine dv F (y_as rfl rfl) rfl rfl rfl fun a F => ?_
      refine dn ?_
      refine tn <| hK54 _ _ ?_
      refine sq fun K55 hK55 => ?_
      refine rg ?_
      refine dv F (y_mv rfl rfl) rfl rfl rfl fun a F => ?_
      refine dv F (y_in rfl rfl rfl) rfl rfl rfl fun a F => ?_
      refine dn ?_
      refine tn <| hK55 _ _ ?_
      refine cb F rfl (fun h12 => ?_) (fun h12 => ?_)
      ·have g12 := h12
       try simp only [zi1, zi2, zi3, zi4, zi5, zi6, zi7, zi8] at g12
       refine sq fun K56 hK56 => ?_
       refine rg ?_
       refine dv F (y_mv rfl rfl) rfl rfl rfl fun a F => ?_
       refine dv F (y_mv rfl rfl) rfl rfl rfl fun a F => ?_
       refine dc F (c_f rfl rfl rfl Tryz.call65) rfl rfl rfl (c_bfail (β := { β with run := (β.run.give B.C.env k).2, reads := β.reads ++ [sumRd k] }) (β.run.give B.C.env k).1 ⟨sb2, sr2, A2, c2, vals2, H2, Ar', cr', hsr2, Hp.le_trans hle hle2, hE2, hv2, hF2, S⟩) fun a v w' hr F => ?_
       have hB := hr
       refine dn ?_
       refine tn <| hK56 _ _ ?_
       refine sq fun K57 hK57 => ?_
       refine rg ?_
       refine dv F (y_as rfl rfl) rfl rfl rfl fun a F => ?_
       refine dn ?_
       refine tn <| hK57 _ _ ?_
       refine wp_ret ?_
       refine tr <| ?_
       exact rt1 F rfl rfl ⟨by rw [give_bad (by simpa using g1) (by simpa using g2) (fun h => by have := hsm h.1; omega) (by simpa using g12)], by rw [give_bad (by simpa using g1) (by simpa using g2) (fun h => by have := hsm h.1; omega) (by simpa using g12)]; exact hB⟩
      ·have g12 := h12
       try simp only [zi1, zi2, zi3, zi4, zi5, zi6, zi7, zi8] at g12
       refine wp_skip ?_
       refine tn <| hK53 _ _ ?_
       refine sq fun K58 hK58 => ?_
       refine rg ?_
       refine dv F (y_mv rfl rfl) rfl rfl rfl fun a F => ?_
       refine dc F (c_f rfl rfl rfl Tryz.call54) rfl rfl rfl (c_bgoOn (β0 := { β with run := (β.run.give B.C.env k).2, reads := β.reads ++ [sumRd k] }) G hen hez hl hz ⟨give_inv hI.inv k, fun _ => give_now hI.inv (by simpa using g12)⟩ ⟨sb2, sr2, A2, c2, vals2, H2, Ar', cr', hsr2, Hp.le_trans hle hle2, hE2, hv2, hF2, S⟩) fun a v w' hr F => ?_
       have hB := hr
       refine dn ?_
       refine tn <| hK58 _ _ ?_
       refine sq fun K59 hK59 => ?_
       refine rg ?_
       refine dv F (y_as rfl rfl) rfl rfl rfl fun a F => ?_
       refine dn ?_
       refine tn <| hK59 _ _ ?_
       refine wp_ret ?_
       refine ?_
       exact rt1 F rfl rfl ⟨by rw [give_go (by simpa using g1) (by simpa using g2) (fun h => by have := hsm h.1; omega) (by simpa using g12)], by rw [give_go (by simpa using g1) (by simpa using g2) (fun h => by have := hsm h.1; omega) (by simpa using g12)]; exact hB⟩
    ·have g10 := h10
     try simp only [zi1, zi2, zi3, zi4, zi5, zi6, zi7, zi8] at g10
     refine wp_skip ?_
     refine tn <| hK43 _ _ ?_
     refine sq fun K60 hK60 => ?_
     first
      | (rw [putl_sum, cat_one, show (⟨k.path, k.is, dgst (bI k.data)⟩ : Rd) = sumRd k from by rw [sumRd, if_pos (by assumption)]] at S)
      | (rw [show (⟨k.path, k.is, dig0⟩ : Rd) = sumRd k from by rw [sumRd, if_neg (by intro hh; simp_all)]] at S)
     refine rpF [.p, .p, .p, .p, .p, .p, .b 52 (mkS 1) [.tmp 46] (fun vs => cellsOf (vs.getD 0 undef))] 7 0 [[], [], [1], [1, 2], [1, 2, 3], [], [5]] [(0, _), (1, _), (3, _), (4, _), (5, _), (7, _), (8, _), (9, _), (10, _), (11, _), (12, _), (13, _), (14, _), (15, _), (16, _), (17, _), (18, _), (19, _), (20, _), (21, _), (22, _), (23, _), (24, _), (25, _), (26, _), (27, _), (28, _), (29, _), (30, _), (31, _), (32, _), (33, _), (34, _), (35, _)] F ⟨rfl, rfl, rfl, rfl, rfl, rfl, rfl, rfl, rfl, rfl, rfl, rfl, rfl, rfl, rfl, rfl, rfl, rfl, rfl, rfl, rfl, rfl, rfl, rfl, rfl, rfl, rfl, rfl, rfl, rfl, rfl, rfl, rfl, rfl, trivial⟩ Tryz.mixed (by kernel_rfl) rfl (by decide) (by decide) (by kernel_rfl) (by kernel_rfl) (by kernel_rfl) (by kernel_rfl) ⟨?_, ?_, ?_, ?_, ?_, ?_, ?_, trivial⟩ (fun a w1 J => ?_) (fun a w1 om of_ hom hof J => ?_)
     ·intro a w1 hB F hA
      have S0 := S
      replace S := S.call hB
      exact pv F (fun w2 hB2 => have S := S.call hB2; y_mv rfl rfl) rfl rfl rfl (by decide)
     ·intro a w1 hB F hA
      have S0 := S
      replace S := S.call hB
      exact pv F (fun w2 hB2 => have S := S.call hB2; y_mv rfl rfl) rfl rfl rfl (by decide)
     ·intro a w1 hB F hA
      have S0 := S
      replace S := S.call hB
      replace F := F.eP (hA 1 (by decide)) rfl (d := 42) rfl rfl (y_mv rfl rfl)
      exact pv F (fun w2 hB2 => have S := S.call hB2; y_nc rfl rfl) rfl rfl rfl (by decide)
     ·intro a w1 hB F hA
      have S0 := S
      replace S := S.call hB
      replace F := F.eP (hA 1 (by decide)) rfl (d := 42) rfl rfl (y_mv rfl rfl)
      replace F := F.eP (hA 2 (by decide)) rfl (d := 43) rfl rfl (y_nc rfl rfl)
      exact pv F (fun w2 hB2 => have S := S.call hB2; y_fa rfl rfl fi114_4) rfl rfl rfl (by decide)
     ·intro a w1 hB F hA
      have S0 := S
      replace S := S.call hB
      replace F := F.eP (hA 1 (by decide)) rfl (d := 42) rfl rfl (y_mv rfl rfl)
      replace F := F.eP (hA 2 (by decide)) rfl (d := 43) rfl rfl (y_nc rfl rfl)
      replace F := F.eP (hA 3 (by decide)) rfl (d := 44) rfl rfl (y_fa rfl rfl fi114_4)
      exact pv F (fun w2 hB2 => have S := S.call hB2; y_ld rfl rfl (S.ld (i := 5) rfl rfl Tryz.isAgg39)) rfl rfl rfl (by decide)
     ·intro a w1 hB F hA
      have S0 := S
      replace S := S.call hB
      exact pv F (fun w2 hB2 => have S := S.call hB2; y_ld rfl rfl (S.lda (i := 10) rfl Tryz.isAgg52 Tryz.sizeOf52 (len37 _))) rfl rfl rfl (by decide)
     ·intro a w1 hB F hA
      have S0 := S
      replace S := S.call hB
      replace F := F.eP (hA 5 (by decide)) rfl (d := 46) rfl rfl (y_ld rfl rfl (S.lda (i := 10) rfl Tryz.isAgg52 Tryz.sizeOf52 (len37 _)))
      exact pb F rfl (y_bs rfl rfl (bsOne Tryz.underlying39 aiRd (len37 _) rfl rfl)) (fun _ => rfl) rfl rfl rfl
     ·have F := J.fr
      have E := EX.start J S
      have hle' := S.bel.size
      replace S := S.call J.bel
      replace F := F.eP (J.at 0 rfl) rfl (d := 41) rfl rfl (y_mv rfl rfl)
      replace F := F.eP (J.at 1 rfl) rfl (d := 42) rfl rfl (y_mv rfl rfl)
      replace F := F.eP (J.at 2 rfl) rfl (d := 43) rfl rfl (y_nc rfl rfl)
      replace F := F.eP (J.at 3 rfl) rfl (d := 44) rfl rfl (y_fa rfl rfl fi114_4)
      replace F := F.eP (J.at 4 rfl) rfl (d := 45) rfl rfl (y_ld rfl rfl (S.ld (i := 5) rfl rfl Tryz.isAgg39))
      replace F := F.eP (J.at 5 rfl) rfl (d := 46) rfl rfl (y_ld rfl rfl (S.lda (i := 10) rfl Tryz.isAgg52 Tryz.sizeOf52 (len37 _)))
      obtain ⟨b47, F, hb47, ho47⟩ := F.eB (P := Tryz.prog) (e := 52) (mk := mkS 1) (xs := [.tmp 46]) (cs := fun vs => cellsOf (vs.getD 0 undef)) (J.at 6 rfl) rfl (d := 47) rfl rfl rfl
      have E := EX.row J hle' E 6 rfl rfl (d := 47) (e := 52) (cs := (encRd (sumRd k))) rfl hb47 ho47
      replace S := E.st
      clear E J
      refine dap F S rfl rfl rfl (i := 7) rfl (S.fl (i := 11) rfl) (len37 _) (one37 _) Tryz.underlying39 aiRd rfl (N := (β.reads ++ [sumRd k]).length) (XS := (β.reads ++ [sumRd k]).flatMap encRd) (by rw [List.length_append]; rfl) (by simp) (by rw [List.length_append]; show (_ + 1) * _ ≤ _; omega) (by rw [List.length_append]; show _ + 1 ≤ _; omega) rfl rfl rfl fun a w Ar' cr' F S => ?_
      refine dv F (y_nc rfl rfl) rfl rfl rfl fun a F => ?_
      refine dv F (y_fa rfl rfl fi114_4) rfl rfl rfl fun a F => ?_
      refine dst F S rfl rfl rfl Tryz.sizeOf39 (i := 5) rfl rfl (Nat.le_of_ble_eq_true rfl) one1 rfl rfl fun a w F S => ?_
      refine dn ?_
      refine tn <| hK60 _ _ ?_
      refine sq fun K61 hK61 => ?_
      refine sq fun K62 hK62 => ?_
      refine rp [.p, .p, .p, .p, .p] 5 [[], [0], [0, 1], [0, 1, 2], []] [(0, _), (1, _), (3, _), (4, _), (5, _), (7, _), (8, _), (9, _), (10, _), (11, _), (12, _), (13, _), (14, _), (15, _), (16, _), (17, _), (18, _), (19, _), (20, _), (21, _), (22, _), (23, _), (24, _), (25, _), (26, _), (27, _), (28, _), (29, _), (30, _), (31, _), (32, _), (33, _), (34, _), (35, _), (41, _), (42, _), (43, _), (44, _), (45, _), (46, _), (47, _), (48, _), (49, _), (50, _)] F ⟨rfl, rfl, rfl, rfl, rfl, rfl, rfl, rfl, rfl, rfl, rfl, rfl, rfl, rfl, rfl, rfl, rfl, rfl, rfl, rfl, rfl, rfl, rfl, rfl, rfl, rfl, rfl, rfl, rfl, rfl, rfl, rfl, rfl, rfl, rfl, rfl, rfl, rfl, rfl, rfl, rfl, rfl, rfl, rfl, trivial⟩ Tryz.mixed (by kernel_rfl) rfl (.inr ⟨by decide, by kernel_rfl, by kernel_rfl⟩) (by kernel_rfl) ⟨?_, ?_, ?_, ?_, ?_, trivial⟩ fun a w1 J => ?_
      ·intro a w1 hB F hA
       have S0 := S
       replace S := S.call hB
       exact pv F (fun w2 hB2 => have S := S.call hB2; y_mv rfl rfl) rfl rfl rfl (by decide)
      ·intro a w1 hB F hA
       have S0 := S
       replace S := S.call hB
       replace F := F.eP (hA 0 (by decide)) rfl (d := 51) rfl rfl (y_mv rfl rfl)
       exact pv F (fun w2 hB2 => have S := S.call hB2; y_nc rfl rfl) rfl rfl rfl (by decide)
      ·intro a w1 hB F hA
       have S0 := S
       replace S := S.call hB
       replace F := F.eP (hA 0 (by decide)) rfl (d := 51) rfl rfl (y_mv rfl rfl)
       replace F := F.eP (hA 1 (by decide)) rfl (d := 52) rfl rfl (y_nc rfl rfl)
       exact pv F (fun w2 hB2 => have S := S.call hB2; y_fa rfl rfl fi114_0) rfl rfl rfl (by decide)
      ·intro a w1 hB F hA
       have S0 := S
       replace S := S.call hB
       replace F := F.eP (hA 0 (by decide)) rfl (d := 51) rfl rfl (y_mv rfl rfl)
       replace F := F.eP (hA 1 (by decide)) rfl (d := 52) rfl rfl (y_nc rfl rfl)
       replace F := F.eP (hA 2 (by decide)) rfl (d := 53) rfl rfl (y_fa rfl rfl fi114_0)
       exact pv F (fun w2 hB2 => have S := S.call hB2; y_ld rfl rfl ((S.ld (i := 5) rfl rfl Tryz.isAgg67))) rfl rfl rfl (by decide)
      ·intro a w1 hB F hA
       have S0 := S
       replace S := S.call hB
       exact pv F (fun w2 hB2 => have S := S.call hB2; y_ld rfl rfl (S.lda (i := 9) rfl Tryz.isAgg55 Tryz.sizeOf55 rfl)) rfl rfl rfl (by decide)
      have F := J.fr
      have E := EX.start J S
      have hle' := S.bel.size
      replace S := S.call J.bel
      replace F := F.eP (J.at 0 rfl) rfl (d := 51) rfl rfl (y_mv rfl rfl)
      replace F := F.eP (J.at 1 rfl) rfl (d := 52) rfl rfl (y_nc rfl rfl)
      replace F := F.eP (J.at 2 rfl) rfl (d := 53) rfl rfl (y_fa rfl rfl fi114_0)
      replace F := F.eP (J.at 3 rfl) rfl (d := 54) rfl rfl (y_ld rfl rfl ((S.ld (i := 5) rfl rfl Tryz.isAgg67)))
      replace F := F.eP (J.at 4 rfl) rfl (d := 55) rfl rfl (y_ld rfl rfl (S.lda (i := 9) rfl Tryz.isAgg55 Tryz.sizeOf55 rfl))
      replace S := E.st
      clear E J
      obtain ⟨S, hSep⟩ := St.packS (xs := [_, _, _, _, _]) (ys := [bk B.bx 114 (bcells B { β with reads := β.reads ++ [sumRd k] } Ar' cr'), mpe B.wb (wmap β.wrote), ow 52 34 (.slice Ar' (β.reads ++ [sumRd k]).length cr') (β.reads ++ [sumRd k]).length ((β.reads ++ [sumRd k]).flatMap encRd), mr]) (S.pick [0, 1, 2, 3, 4, 5, 6, 7, 8] _ ⟨rfl, rfl, rfl, rfl, rfl, rfl, rfl, rfl, rfl, trivial⟩ rfl)
      refine dc F (c_f rfl rfl rfl Tryz.call29) rfl rfl rfl (c_Give (mr := pk _) k G hen hez hI.inv hks ⟨sb, sr, hsr, A, c, vals, H, Hp.le_refl H, hE, hv, S⟩) fun a v w' hr F => ?_
      obtain ⟨rfl, sb2, sr2, hsr2, A2, c2, vals2, H2, hle2, hE2, hv2, S2⟩ := hr
      replace S := St.unpS (xs := [_, _, _, _, _]) S2 hSep
      have hF2 := hF.le hle2
      refine dv F (y_as rfl rfl) rfl rfl rfl fun a F => ?_
      refine dn ?_
      refine tn <| hK62 _ _ ?_
      refine sq fun K63 hK63 => ?_
      refine rg ?_
      refine dv F (y_mv rfl rfl) rfl rfl rfl fun a F => ?_
      refine dv F (y_in rfl rfl rfl) rfl rfl rfl fun a F => ?_
      refine dn ?_
      refine tn <| hK63 _ _ ?_
      refine cb F rfl (fun h13 => ?_) (fun h13 => ?_)
      ·have g13 := h13
       try simp only [zi1, zi2, zi3, zi4, zi5, zi6, zi7, zi8] at g13
       refine sq fun K64 hK64 => ?_
       refine rg ?_
       refine dv F (y_mv rfl rfl) rfl rfl rfl fun a F => ?_
       refine dv F (y_mv rfl rfl) rfl rfl rfl fun a F => ?_
       refine dc F (c_f rfl rfl rfl Tryz.call65) rfl rfl rfl (c_bfail (β := { β with run := (β.run.give B.C.env k).2, reads := β.reads ++ [sumRd k] }) (β.run.give B.C.env k).1 ⟨sb2, sr2, A2, c2, vals2, H2, Ar', cr', hsr2, Hp.le_trans hle hle2, hE2, hv2, hF2, S⟩) fun a v w' hr F => ?_
       have hB := hr
       refine dn ?_
       refine tn <| hK64 _ _ ?_
       refine sq fun K65 hK65 => ?_
       refine rg ?_
       refine dv F (y_as rfl rfl) rfl rfl rfl fun a F => ?_
       refine dn ?_
       refine tn <| hK65 _ _ ?_
       refine wp_ret ?_
       refine tr <| ?_
       exact rt1 F rfl rfl ⟨by rw [give_bad (by simpa using g1) (by simpa using g2) (fun h => by have := hsm h.1; omega) (by simpa using g13)], by rw [give_bad (by simpa using g1) (by simpa using g2) (fun h => by have := hsm h.1; omega) (by simpa using g13)]; exact hB⟩
      ·have g13 := h13
       try simp only [zi1, zi2, zi3, zi4, zi5, zi6, zi7, zi8] at g13
       refine wp_skip ?_
       refine tn <| hK61 _ _ ?_
       refine sq fun K66 hK66 => ?_
       refine rg ?_
       refine dv F (y_mv rfl rfl) rfl rfl rfl fun a F => ?_
       refine dc F (c_f rfl rfl rfl Tryz.call54) rfl rfl rfl (c_bgoOn (β0 := { β with run := (β.run.give B.C.env k).2, reads := β.reads ++ [sumRd k] }) G hen hez hl hz ⟨give_inv hI.inv k, fun _ => give_now hI.inv (by simpa using g13)⟩ ⟨sb2, sr2, A2, c2, vals2, H2, Ar', cr', hsr2, Hp.le_trans hle hle2, hE2, hv2, hF2, S⟩) fun a v w' hr F => ?_
       have hB := hr
       refine dn ?_
       refine tn <| hK66 _ _ ?_
       refine sq fun K67 hK67 => ?_
       refine rg ?_
       refine dv F (y_as rfl rfl) rfl rfl rfl fun a F => ?_
       refine dn ?_
       refine tn <| hK67 _ _ ?_
       refine wp_ret ?_
       refine ?_
       exact rt1 F rfl rfl ⟨by rw [give_go (by simpa using g1) (by simpa using g2) (fun h => by have := hsm h.1; omega) (by simpa using g13)], by rw [give_go (by simpa using g1) (by simpa using g2) (fun h => by have := hsm h.1; omega) (by simpa using g13)]; exact hB⟩
     ·have F := J.fr
      obtain rfl := Option.some.inj hom
      obtain rfl := Option.some.inj hof
      have E := EX.start J S
      have hle' := S.bel.size
      replace S := S.call J.bel
      replace F := F.eP (J.atF 1 rfl) rfl (d := 42) rfl rfl (y_mv rfl rfl)
      replace F := F.eP (J.atF 2 rfl) rfl (d := 43) rfl rfl (y_nc rfl rfl)
      replace F := F.eP (J.atF 3 rfl) rfl (d := 44) rfl rfl (y_fa rfl rfl fi114_4)
      replace F := F.eP (J.atF 4 rfl) rfl (d := 45) rfl rfl (y_ld rfl rfl (S.ld (i := 5) rfl rfl Tryz.isAgg39))
      replace F := F.eP (J.atF 5 rfl) rfl (d := 46) rfl rfl (y_ld rfl rfl (S.lda (i := 10) rfl Tryz.isAgg52 Tryz.sizeOf52 (len37 _)))
      obtain ⟨b47, F, hb47, ho47⟩ := F.eB (P := Tryz.prog) (e := 52) (mk := mkS 1) (xs := [.tmp 46]) (cs := fun vs => cellsOf (vs.getD 0 undef)) (J.atF 6 rfl) rfl (d := 47) rfl rfl rfl
      have E := EX.rowF J hle' E 6 rfl rfl (d := 47) (e := 52) (cs := (encRd (sumRd k))) rfl hb47 ho47
      replace S := E.st
      clear E J
      refine dap F S rfl rfl rfl (i := 7) rfl (S.fl (i := 11) rfl) (len37 _) (one37 _) Tryz.underlying39 aiRd rfl (N := (β.reads ++ [sumRd k]).length) (XS := (β.reads ++ [sumRd k]).flatMap encRd) (by rw [List.length_append]; rfl) (by simp) (by rw [List.length_append]; show (_ + 1) * _ ≤ _; omega) (by rw [List.length_append]; show _ + 1 ≤ _; omega) rfl rfl rfl fun a w Ar' cr' F S => ?_
      refine dv F (y_mv rfl rfl) rfl rfl rfl fun a F => ?_
      refine dv F (y_nc rfl rfl) rfl rfl rfl fun a F => ?_
      refine dv F (y_fa rfl rfl fi114_4) rfl rfl rfl fun a F => ?_
      refine dst F S rfl rfl rfl Tryz.sizeOf39 (i := 5) rfl rfl (Nat.le_of_ble_eq_true rfl) one1 rfl rfl fun a w F S => ?_
      refine dn ?_
      refine tn <| hK60 _ _ ?_
      refine sq fun K68 hK68 => ?_
      refine sq fun K69 hK69 => ?_
      refine rp [.p, .p, .p, .p, .p] 5 [[], [0], [0, 1], [0, 1, 2], []] [(0, _), (1, _), (3, _), (4, _), (5, _), (7, _), (8, _), (9, _), (10, _), (11, _), (12, _), (13, _), (14, _), (15, _), (16, _), (17, _), (18, _), (19, _), (20, _), (21, _), (22, _), (23, _), (24, _), (25, _), (26, _), (27, _), (28, _), (29, _), (30, _), (31, _), (32, _), (33, _), (34, _), (35, _), (41, _), (42, _), (43, _), (44, _), (45, _), (46, _), (47, _), (48, _), (49, _), (50, _)] F ⟨rfl, rfl, rfl, rfl, rfl, rfl, rfl, rfl, rfl, rfl, rfl, rfl, rfl, rfl, rfl, rfl, rfl, rfl, rfl, rfl, rfl, rfl, rfl, rfl, rfl, rfl, rfl, rfl, rfl, rfl, rfl, rfl, rfl, rfl, rfl, rfl, rfl, rfl, rfl, rfl, rfl, rfl, rfl, rfl, trivial⟩ Tryz.mixed (by kernel_rfl) rfl (.inr ⟨by decide, by kernel_rfl, by kernel_rfl⟩) (by kernel_rfl) ⟨?_, ?_, ?_, ?_, ?_, trivial⟩ fun a w1 J => ?_
      ·intro a w1 hB F hA
       have S0 := S
       replace S := S.call hB
       exact pv F (fun w2 hB2 => have S := S.call hB2; y_mv rfl rfl) rfl rfl rfl (by decide)
      ·intro a w1 hB F hA
       have S0 := S
       replace S := S.call hB
       replace F := F.eP (hA 0 (by decide)) rfl (d := 51) rfl rfl (y_mv rfl rfl)
       exact pv F (fun w2 hB2 => have S := S.call hB2; y_nc rfl rfl) rfl rfl rfl (by decide)
      ·intro a w1 hB F hA
       have S0 := S
       replace S := S.call hB
       replace F := F.eP (hA 0 (by decide)) rfl (d := 51) rfl rfl (y_mv rfl rfl)
       replace F := F.eP (hA 1 (by decide)) rfl (d := 52) rfl rfl (y_nc rfl rfl)
       exact pv F (fun w2 hB2 => have S := S.call hB2; y_fa rfl rfl fi114_0) rfl rfl rfl (by decide)
      ·intro a w1 hB F hA
       have S0 := S
       replace S := S.call hB
       replace F := F.eP (hA 0 (by decide)) rfl (d := 51) rfl rfl (y_mv rfl rfl)
       replace F := F.eP (hA 1 (by decide)) rfl (d := 52) rfl rfl (y_nc rfl rfl)
       replace F := F.eP (hA 2 (by decide)) rfl (d := 53) rfl rfl (y_fa rfl rfl fi114_0)
       exact pv F (fun w2 hB2 => have S := S.call hB2; y_ld rfl rfl ((S.ld (i := 5) rfl rfl Tryz.isAgg67))) rfl rfl rfl (by decide)
      ·intro a w1 hB F hA
       have S0 := S
       replace S := S.call hB
       exact pv F (fun w2 hB2 => have S := S.call hB2; y_ld rfl rfl (S.lda (i := 9) rfl Tryz.isAgg55 Tryz.sizeOf55 rfl)) rfl rfl rfl (by decide)
      have F := J.fr
      have E := EX.start J S
      have hle' := S.bel.size
      replace S := S.call J.bel
      replace F := F.eP (J.at 0 rfl) rfl (d := 51) rfl rfl (y_mv rfl rfl)
      replace F := F.eP (J.at 1 rfl) rfl (d := 52) rfl rfl (y_nc rfl rfl)
      replace F := F.eP (J.at 2 rfl) rfl (d := 53) rfl rfl (y_fa rfl rfl fi114_0)
      replace F := F.eP (J.at 3 rfl) rfl (d := 54) rfl rfl (y_ld rfl rfl ((S.ld (i := 5) rfl rfl Tryz.isAgg67)))
      replace F := F.eP (J.at 4 rfl) rfl (d := 55) rfl rfl (y_ld rfl rfl (S.lda (i := 9) rfl Tryz.isAgg55 Tryz.sizeOf55 rfl))
      replace S := E.st
      clear E J
      obtain ⟨S, hSep⟩ := St.packS (xs := [_, _, _, _, _]) (ys := [bk B.bx 114 (bcells B { β with reads := β.reads ++ [sumRd k] } Ar' cr'), mpe B.wb (wmap β.wrote), ow 52 34 (.slice Ar' (β.reads ++ [sumRd k]).length cr') (β.reads ++ [sumRd k]).length ((β.reads ++ [sumRd k]).flatMap encRd), mr]) (S.pick [0, 1, 2, 3, 4, 5, 6, 7, 8] _ ⟨rfl, rfl, rfl, rfl, rfl, rfl, rfl, rfl, rfl, trivial⟩ rfl)
      refine dc F (c_f rfl rfl rfl Tryz.call29) rfl rfl rfl (c_Give (mr := pk _) k G hen hez hI.inv hks ⟨sb, sr, hsr, A, c, vals, H, Hp.le_refl H, hE, hv, S⟩) fun a v w' hr F => ?_
      obtain ⟨rfl, sb2, sr2, hsr2, A2, c2, vals2, H2, hle2, hE2, hv2, S2⟩ := hr
      replace S := St.unpS (xs := [_, _, _, _, _]) S2 hSep
      have hF2 := hF.le hle2
      refine dv F (y_as rfl rfl) rfl rfl rfl fun a F => ?_
      refine dn ?_
      refine tn <| hK69 _ _ ?_
      refine sq fun K70 hK70 => ?_
      refine rg ?_
      refine dv F (y_mv rfl rfl) rfl rfl rfl fun a F => ?_
      refine dv F (y_in rfl rfl rfl) rfl rfl rfl fun a F => ?_
      refine dn ?_
      refine tn <| hK70 _ _ ?_
      refine cb F rfl (fun h14 => ?_) (fun h14 => ?_)
      ·have g14 := h14
       try simp only [zi1, zi2, zi3, zi4, zi5, zi6, zi7, zi8] at g14
       refine sq fun K71 hK71 => ?_
       refine rg ?_
       refine dv F (y_mv rfl rfl) rfl rfl rfl fun a F => ?_
       refine dv F (y_mv rfl rfl) rfl rfl rfl fun a F => ?_
       refine dc F (c_f rfl rfl rfl Tryz.call65) rfl rfl rfl (c_bfail (β := { β with run := (β.run.give B.C.env k).2, reads := β.reads ++ [sumRd k] }) (β.run.give B.C.env k).1 ⟨sb2, sr2, A2, c2, vals2, H2, Ar', cr', hsr2, Hp.le_trans hle hle2, hE2, hv2, hF2, S⟩) fun a v w' hr F => ?_
       have hB := hr
       refine dn ?_
       refine tn <| hK71 _ _ ?_
       refine sq fun K72 hK72 => ?_
       refine rg ?_
       refine dv F (y_as rfl rfl) rfl rfl rfl fun a F => ?_
       refine dn ?_
       refine tn <| hK72 _ _ ?_
       refine wp_ret ?_
       refine tr <| ?_
       exact rt1 F rfl rfl ⟨by rw [give_bad (by simpa using g1) (by simpa using g2) (fun h => by have := hsm h.1; omega) (by simpa using g14)], by rw [give_bad (by simpa using g1) (by simpa using g2) (fun h => by have := hsm h.1; omega) (by simpa using g14)]; exact hB⟩
      ·have g14 := h14
       try simp only [zi1, zi2, zi3, zi4, zi5, zi6, zi7, zi8] at g14
       refine wp_skip ?_
       refine tn <| hK68 _ _ ?_
       refine sq fun K73 hK73 => ?_
       refine rg ?_
       refine dv F (y_mv rfl rfl) rfl rfl rfl fun a F => ?_
       refine dc F (c_f rfl rfl rfl Tryz.call54) rfl rfl rfl (c_bgoOn (β0 := { β with run := (β.run.give B.C.env k).2, reads := β.reads ++ [sumRd k] }) G hen hez hl hz ⟨give_inv hI.inv k, fun _ => give_now hI.inv (by simpa using g14)⟩ ⟨sb2, sr2, A2, c2, vals2, H2, Ar', cr', hsr2, Hp.le_trans hle hle2, hE2, hv2, hF2, S⟩) fun a v w' hr F => ?_
       have hB := hr
       refine dn ?_
       refine tn <| hK73 _ _ ?_
       refine sq fun K74 hK74 => ?_
       refine rg ?_
       refine dv F (y_as rfl rfl) rfl rfl rfl fun a F => ?_
       refine dn ?_
       refine tn <| hK74 _ _ ?_
       refine wp_ret ?_
       refine ?_
       exact rt1 F rfl rfl ⟨by rw [give_go (by simpa using g1) (by simpa using g2) (fun h => by have := hsm h.1; omega) (by simpa using g14)], by rw [give_go (by simpa using g1) (by simpa using g2) (fun h => by have := hsm h.1; omega) (by simpa using g14)]; exact hB⟩
end Go.Proofs.YtgcmddaibnimjaaGreatDoor
namespace Go.Eng
open Go.RowKit
def vOwn (v : Value) : List Nat := match v.ownBlock with
 | some k => [k]
 | none => []
def slC (e z n : Nat) (cells : List Value) (v : Value) (w : World) : Prop := ∃ A c, v = .slice A n c ∧ (ow e z (.slice A n c) n cells).ok w
theorem ow_block {e z n c k : Nat} {A : Option Addr} {cells : List Value} {w : World} (h : (ow e z (.slice A n c) n cells).ok w) (hk : Value.ownBlock (.slice A n c) = some k) : k < w.heap.size := by
 obtain ⟨A', c', hv, h1, h2, h3, h4⟩ := h
 cases hv
 rcases h4 with ⟨rfl, rfl⟩ | ⟨g, off, cur, fr, rfl, hg, h5⟩
 ·cases hk
 ·have : g = k := by simpa [Value.ownBlock] using hk
  subst this
  exact (Array.getElem?_eq_some_iff.1 hg).1
theorem slC_per (e z n : Nat) (cells : List Value) : ∀ v w1 w2, Below w1.heap.size w1 w2 → slC e z n cells v w1 → slC e z n cells v w2 := fun v w1 w2 hb ⟨A, c, hv, h⟩ =>
 ⟨A, c, hv, (ow e z (.slice A n c) n cells).loc w1 w2 (fun k hk => hb.block k (ow_block h hk)) h⟩
def FzIn (N : Nat) (w : World) (p : Hp → Prop) : Prop := ∃ K : Hp, (∀ k o, K k = some o → w.heap[k]? = some o ∧ N ≤ k ∧ ∃ cs t fr, o = .cells cs t fr) ∧ p K
theorem FzIn.below {N : Nat} {w w' : World} {p : Hp → Prop} (h : FzIn N w p) (hb : Below w.heap.size w w') : FzIn N w' p :=
 let ⟨K, h1, h2⟩ := h
 ⟨K, fun k o hk => ⟨(hb.block k (Array.getElem?_eq_some_iff.1 (h1 k o hk).1).1).trans (h1 k o hk).1, (h1 k o hk).2⟩, h2⟩
def Hp.or (H K : Hp) : Hp := fun k => match H k with
 | some o => some o
 | none => K k
theorem Hp.or_l (H K : Hp) : H.le (H.or K) := fun k o h => by simp [Hp.or, h]
theorem Hp.or_r {H K : Hp} {w : World} (h1 : ∀ k o, H k = some o → w.heap[k]? = some o) (h2 : ∀ k o, K k = some o → w.heap[k]? = some o) : K.le (H.or K) := fun k o h => by
 cases hH : H k with
 | none => simp [Hp.or, hH, h]
 | some o' =>
  have a := h1 k o' hH
  rw [h2 k o h] at a
  simp only [Hp.or, hH]; exact a.symm
theorem Hp.or_of {H K : Hp} {k : Nat} {o : Obj} (h : (H.or K) k = some o) : H k = some o ∨ K k = some o := by
 simp only [Hp.or] at h
 cases hH : H k with
 | none => rw [hH] at h; exact .inr h
 | some o' => rw [hH] at h; exact .inl h
theorem FzIn.and {N : Nat} {w : World} {p q : Hp → Prop} (hp : FzIn N w p) (hq : FzIn N w q) (mp : ∀ H K : Hp, H.le K → p H → p K) (mq : ∀ H K : Hp, H.le K → q H → q K) : FzIn N w fun K => p K ∧ q K := by
 obtain ⟨H, h1, h2⟩ := hp
 obtain ⟨K, k1, k2⟩ := hq
 refine ⟨H.or K, fun k o h => ?_, mp _ _ (Hp.or_l H K) h2, mq _ _ (Hp.or_r (w := w) (fun k o h => (h1 k o h).1) fun k o h => (k1 k o h).1) k2⟩
 rcases Hp.or_of h with h | h
 ·exact h1 k o h
 ·exact k1 k o h
section
variable {P : Program} {n m : Nat} {l0 : List (Nat × Value)} {w0 w w1 : World} {l' : List Oper} {L : List HS} {a : Act} {hs : List Res}
theorem EX.slo {ds : List Nat} (J : PJ P w n l0 l' m (fun i => (L.getD i hs0).h) (Array.replicate m true ++ Array.replicate (l'.length - m) false) a w1) (hw : w0.heap.size ≤ w.heap.size) (E : EX w0 w w1 l' (fun i => (L.getD i hs0).h) a ds hs) (i : Nat) (hi : Nat.blt i m = true) (hds : (ds.all fun j => !Nat.beq j i && Nat.blt j m) = true) {e z c N d : Nat} {A : Option Addr} {cells : List Value}
  (hd : dsl l' i = d) (hb : (ow e z (.slice A N c) N cells).ok w1) (ho : (L.getD i hs0).own (a.tmps.getD d undef) = vOwn (.slice A N c)) : EX w0 w w1 l' (fun i => (L.getD i hs0).h) a (i :: ds) (hs ++ [ow e z (.slice A N c) N cells]) :=
 EX.add J hw E i (by simpa [Nat.blt_eq] using hi) hds _ hb fun k hk => by
  rw [hd]
  show k ∈ (L.getD i hs0).own _
  rw [ho]
  have hk' : Value.ownBlock (.slice A N c) = some k := hk
  simp [vOwn, hk']
theorem EX.fzJ {ds : List Nat} {H : Nat → HOp} (hw : w0.heap.size ≤ w.heap.size) (hw1 : w.heap.size ≤ w1.heap.size) (E : EX w0 w w1 l' H a ds hs) {i : Nat} {H0 : Hp} (hi : nth hs i = some (fz H0)) {p : Hp → Prop} (hK : FzIn w.heap.size w1 p) (mp : ∀ H K : Hp, H.le K → p H → p K)
  (hd : ∀ j ∈ ds, ∀ k ∈ (H j).own (a.tmps.getD (dsl l' j) undef), ∀ cs t fr, ¬ w1.heap[k]? = some (.cells cs t fr)) : ∃ K : Hp, H0.le K ∧ p K ∧ St w0 w1 (upd hs i (fz K)) := by
 obtain ⟨K, h1, h2⟩ := hK
 have hok := E.st.ok hi
 have key : ∀ q t, nth hs q = some t → ∀ k o, K k = some o → ¬ t.fp k := fun q t hq k o hk ht => by
  rcases E.of q t hq k ht with h | ⟨j, hj, h⟩
  ·have := (h1 k o hk).2.1; omega
  ·obtain ⟨h3, _, cs, t', fr, rfl⟩ := h1 k o hk
   exact hd j hj k h cs t' fr h3
 have hKle : K.le (H0.or K) := Hp.or_r (w := w1) hok fun k o h => (h1 k o h).1
 have bd : ∀ k, (fz (H0.or K)).fp k → (fz H0).fp k ∨ ∃ o, K k = some o := fun k hk => by
  obtain ⟨o, ho⟩ := Option.isSome_iff_exists.1 (show ((H0.or K) k).isSome = true from hk)
  rcases Hp.or_of ho with h | h
  ·exact .inl (by show (H0 k).isSome = true; rw [h]; rfl)
  ·exact .inr ⟨o, h⟩
 refine ⟨H0.or K, Hp.or_l H0 K, mp _ _ hKle h2, E.st.bel, fun q t h => ?_, fun q q' t t' h h' hne k hk hk' => ?_⟩
 ·by_cases hq : i = q
  ·subst hq
   rw [nth_upd_eq _ _ _ _ hi] at h
   cases h
   refine ⟨fun k o hk => ?_, fun k hk => ?_⟩
   ·rcases Hp.or_of hk with h | h
    ·exact hok k o h
    ·exact (h1 k o h).1
   ·rcases bd k hk with h | ⟨o, h⟩
    ·exact (E.st.own i _ hi).2 k h
    ·exact ⟨Nat.le_trans hw (h1 k o h).2.1, (Array.getElem?_eq_some_iff.1 (h1 k o h).1).1⟩
  ·rw [nth_upd_ne _ _ _ _ hq] at h
   exact E.st.own q t h
 ·by_cases hq : i = q
  ·subst hq
   rw [nth_upd_eq _ _ _ _ hi] at h
   cases h
   rw [nth_upd_ne _ _ _ _ hne] at h'
   rcases bd k hk with h | ⟨o, h⟩
   ·exact E.st.sep i q' _ _ hi h' hne k h hk'
   ·exact key q' t' h' k o h hk'
  ·rw [nth_upd_ne _ _ _ _ hq] at h
   by_cases hq' : i = q'
   ·subst hq'
    rw [nth_upd_eq _ _ _ _ hi] at h'
    cases h'
    rcases bd k hk' with h2 | ⟨o, h2⟩
    ·exact E.st.sep q i _ _ h hi hne k hk h2
    ·exact key q t h k o h2 hk
   ·rw [nth_upd_ne _ _ _ _ hq'] at h'
    exact E.st.sep q q' _ _ h h' hne k hk hk'
end
end Go.Eng
namespace Go.Proofs.YtgcmddaibnimjaaGreatDoor
open Go.RowKit Go.Eng
abbrev actC (u1 u2 : Value) (t : ByteArray) (Ae : Option Addr) (ne ce : Nat) (Ai : Option Addr) (ni ci : Nat) (Aa : Option Addr) (na ca : Nat) (Ao : Option Addr) (no co : Nat) : List Value := [u1, u2, .string t, .slice Ae ne ce, .slice Ai ni ci, .slice Aa na ca, .slice Ao no co]
theorem newO_C {e z n : Nat} {cells : List Value} {w1 w2 : World} {v : Value} (h : NewO e z w1 w2 v n cells) (hb : Below w1.heap.size w1 w2) : Below w1.heap.size w1 w2 ∧ slC e z n cells v w2 ∧ ∀ b ∈ vOwn v, w1.heap.size ≤ b ∧ b < w2.heap.size := by
 obtain ⟨A, c, rfl, ho, hk⟩ := h
 have hok : (ow e z (.slice A n c) n cells).ok w2 := ⟨A, c, rfl, ho⟩
 refine ⟨hb, ⟨A, c, rfl, hok⟩, fun b hb' => ?_⟩
 have hx : Value.ownBlock (.slice A n c) = some b := by
  unfold vOwn at hb'
  cases hq : Value.ownBlock (.slice A n c) with
  | none => rw [hq] at hb'; cases hb'
  | some k => rw [hq] at hb'; simp only [List.mem_cons, List.not_mem_nil, or_false] at hb'; rw [hb']
 exact ⟨hk b hx, ow_block hok hx⟩
def Hp.one (b : Nat) (o : Obj) : Hp := fun k => if k = b then some o else none
theorem one_in {N b : Nat} {w : World} {cs : Array Value} {e : Nat} {fr : Nat × Nat} {p : Hp → Prop} (h : w.heap[b]? = some (.cells cs e fr)) (hN : N ≤ b) (hp : p (Hp.one b (.cells cs e fr))) : FzIn N w p :=
 ⟨Hp.one b (.cells cs e fr), (fun k o hk => by
  unfold Hp.one at hk
  split at hk
  ·rename_i hkb
   cases hk; subst hkb
   exact ⟨h, hN, cs, e, fr, rfl⟩
  ·cases hk), hp⟩
theorem ow_in {α : Type} {enc : α → List Value} {z N e c : Nat} {w : World} {A : Option Addr} {xs : List α} (hok : (ow e z (.slice A xs.length c) xs.length (xs.flatMap enc)).ok w) (hN : ∀ k, Value.ownBlock (.slice A xs.length c) = some k → N ≤ k) (hz : ∀ x, (enc x).length = z) : FzIn N w fun K => FzS K z enc A xs := by
 obtain ⟨A', c', hv, h1, h2, h3, h4⟩ := hok
 cases hv
 rcases h4 with ⟨rfl, rfl⟩ | ⟨g, off, cur, fr, rfl, hg, hfr, hcur, hxs⟩
 ·have : xs = [] := List.eq_nil_of_length_eq_zero (by omega)
  subst this
  exact ⟨fun _ => none, (fun k o hk => by cases hk), FzS.nil⟩
 ·exact one_in hg (hN g rfl) fun _ => ⟨g, off, cur, e, fr, rfl, by simp [Hp.one], fun j' x hx i' u hu => by rw [Nat.add_assoc]; exact hxs _ _ (get_flat hz xs j' x i' u hx hu)⟩
theorem slBox_in {w0 w : World} {hs : List Res} {i j b c : Nat} {A : Option Addr} {xs : List ByteArray} (S : St w0 w hs) (hi : nth hs i = some (bk b 25 [.slice A xs.length c])) (hj : nth hs j = some (ow 9 1 (.slice A xs.length c) xs.length (xs.flatMap encS))) : FzIn w0.heap.size w fun K => SlBox K b xs := by
 have h1 : FzIn w0.heap.size w fun K => FzS K 1 encS A xs := ow_in (S.ok hj) (fun k hk => ((S.own j _ hj).2 k hk).1) lenS
 have h2 : FzIn w0.heap.size w fun K => Bx K b 25 [.slice A xs.length c] := one_in (S.ok hi) ((S.own i _ hi).2 b rfl).1 (by simp [Hp.one, Bx])
 obtain ⟨K, k1, k2, k3⟩ := h2.and h1 (fun _ _ h k => h _ _ k) (fun _ _ h k => k.le h)
 exact ⟨K, k1, A, c, k2, k3⟩
theorem fi27_3 : FieldIs Tryz.prog 27 3 4 := fieldIs (z := 0) Tryz.underlying27 rfl rfl rfl Tryz.sizeOf25
theorem fi27_4 : FieldIs Tryz.prog 27 4 5 := fieldIs (z := 0) Tryz.underlying27 rfl rfl rfl Tryz.sizeOf25
theorem fi27_5 : FieldIs Tryz.prog 27 5 6 := fieldIs (z := 0) Tryz.underlying27 rfl rfl rfl Tryz.sizeOf25
theorem c_reader {u1 u2 : Value} {t : ByteArray} {Ae Ai Aa Ao : Option Addr} {ne ce ci ca co : Nat} {ins asks outs : List ByteArray} (w0 : World) (hi : Sl w0 1 encS Ai ins) (ha : Sl w0 1 encS Aa asks) (ho : Sl w0 1 encS Ao outs) (hl : outs.length ≤ 1000000 ∧ ins.length ≤ 1000000 ∧ asks.length ≤ 1000000) : Calls Tryz.prog 53 [.agg (actC u1 u2 t Ae ne ce Ai ins.length ci Aa asks.length ca Ao outs.length co).toArray].toArray w0 (Ret fun v w' => (∃ bo bi ba, v = .func (.func 99) #[] [pt bo, pt bi, pt ba].toArray ∧ FzIn w0.heap.size w' (fun K => (SlBox K bo outs ∧ SlBox K bi ins) ∧ SlBox K ba asks)) ∧ Below w0.heap.size w0 w') := by
 refine ent Tryz.func53 Tryz.ntmps53 rfl rfl ?_
 intro a F
 have S := St.refl w0
 refine sq fun K1 hK1 => ?_
 refine rg ?_
 refine dbx F S rfl rfl rfl rfl rfl rfl fun a w b1 F S => ?_
 refine dv F (y_as rfl rfl) rfl rfl rfl fun a F => ?_
 refine dn ?_
 refine tn <| hK1 _ _ ?_
 refine sq fun K2 hK2 => ?_
 refine rp [.p, .p, .c vOwn (slC 9 1 ins.length (ins.flatMap encS)) (slC_per _ _ _ _), .p, .p, .c vOwn (slC 9 1 asks.length (asks.flatMap encS)) (slC_per _ _ _ _), .p, .p, .c vOwn (slC 9 1 outs.length (outs.flatMap encS)) (slC_per _ _ _ _), .b 25 (mkP) [] (fun _ => [.slice none 0 0]), .b 25 (mkP) [] (fun _ => [.slice none 0 0]), .b 25 (mkP) [] (fun _ => [.slice none 0 0])] 12 [[], [0], [0, 1], [], [3], [0, 1, 2, 3, 4], [], [6], [0, 1, 2, 3, 4, 5, 6, 7], [], [], []] [(0, _), (1, _), (2, _)] F ⟨rfl, rfl, rfl, trivial⟩ Tryz.mixed (by kernel_rfl) rfl (.inr ⟨by decide, by kernel_rfl, by kernel_rfl⟩) (by kernel_rfl) ⟨?_, ?_, ?_, ?_, ?_, ?_, ?_, ?_, ?_, ?_, ?_, ?_, trivial⟩ fun a w1 J => ?_
 ·intro a w1 hB F hA
  have S0 := S
  replace S := S.call hB
  exact pv F (fun w2 hB2 => have S := S.call hB2; y_fa rfl rfl fi27_3) rfl rfl rfl (by decide)
 ·intro a w1 hB F hA
  have S0 := S
  replace S := S.call hB
  replace F := F.eP (hA 0 (by decide)) rfl (d := 6) rfl rfl (y_fa rfl rfl fi27_3)
  exact pv F (fun w2 hB2 => have S := S.call hB2; y_ld rfl rfl (S.ld (i := 0) rfl rfl Tryz.isAgg25)) rfl rfl rfl (by decide)
 ·intro a w1 hB F hA
  have S0 := S
  replace S := S.call hB
  replace F := F.eP (hA 0 (by decide)) rfl (d := 6) rfl rfl (y_fa rfl rfl fi27_3)
  replace F := F.eP (hA 1 (by decide)) rfl (d := 7) rfl rfl (y_ld rfl rfl (S.ld (i := 0) rfl rfl Tryz.isAgg25))
  exact pc F (c_f rfl rfl rfl Tryz.call52) rfl rfl (c_CloneS _ (hi.st S) (by omega)) (fun v w2 h => newO_C h.1 h.2)
 ·intro a w1 hB F hA
  have S0 := S
  replace S := S.call hB
  exact pv F (fun w2 hB2 => have S := S.call hB2; y_fa rfl rfl fi27_4) rfl rfl rfl (by decide)
 ·intro a w1 hB F hA
  have S0 := S
  replace S := S.call hB
  replace F := F.eP (hA 3 (by decide)) rfl (d := 9) rfl rfl (y_fa rfl rfl fi27_4)
  exact pv F (fun w2 hB2 => have S := S.call hB2; y_ld rfl rfl (S.ld (i := 0) rfl rfl Tryz.isAgg25)) rfl rfl rfl (by decide)
 ·intro a w1 hB F hA
  have S0 := S
  replace S := S.call hB
  replace F := F.eP (hA 0 (by decide)) rfl (d := 6) rfl rfl (y_fa rfl rfl fi27_3)
  replace F := F.eP (hA 1 (by decide)) rfl (d := 7) rfl rfl (y_ld rfl rfl (S.ld (i := 0) rfl rfl Tryz.isAgg25))
  obtain ⟨v8, F, hv8, ho8⟩ := F.eC (P := Tryz.prog) (hC := slC_per 9 1 ins.length (ins.flatMap encS)) (hA 2 (by decide)) rfl (d := 8) rfl rfl
  obtain ⟨A8, c8, rfl, hk8⟩ := hv8
  replace F := F.eP (hA 3 (by decide)) rfl (d := 9) rfl rfl (y_fa rfl rfl fi27_4)
  replace F := F.eP (hA 4 (by decide)) rfl (d := 10) rfl rfl (y_ld rfl rfl (S.ld (i := 0) rfl rfl Tryz.isAgg25))
  exact pc F (c_f rfl rfl rfl Tryz.call52) rfl rfl (c_CloneS _ (ha.st S) (by omega)) (fun v w2 h => newO_C h.1 h.2)
 ·intro a w1 hB F hA
  have S0 := S
  replace S := S.call hB
  exact pv F (fun w2 hB2 => have S := S.call hB2; y_fa rfl rfl fi27_5) rfl rfl rfl (by decide)
 ·intro a w1 hB F hA
  have S0 := S
  replace S := S.call hB
  replace F := F.eP (hA 6 (by decide)) rfl (d := 12) rfl rfl (y_fa rfl rfl fi27_5)
  exact pv F (fun w2 hB2 => have S := S.call hB2; y_ld rfl rfl (S.ld (i := 0) rfl rfl Tryz.isAgg25)) rfl rfl rfl (by decide)
 ·intro a w1 hB F hA
  have S0 := S
  replace S := S.call hB
  replace F := F.eP (hA 0 (by decide)) rfl (d := 6) rfl rfl (y_fa rfl rfl fi27_3)
  replace F := F.eP (hA 1 (by decide)) rfl (d := 7) rfl rfl (y_ld rfl rfl (S.ld (i := 0) rfl rfl Tryz.isAgg25))
  obtain ⟨v8, F, hv8, ho8⟩ := F.eC (P := Tryz.prog) (hC := slC_per 9 1 ins.length (ins.flatMap encS)) (hA 2 (by decide)) rfl (d := 8) rfl rfl
  obtain ⟨A8, c8, rfl, hk8⟩ := hv8
  replace F := F.eP (hA 3 (by decide)) rfl (d := 9) rfl rfl (y_fa rfl rfl fi27_4)
  replace F := F.eP (hA 4 (by decide)) rfl (d := 10) rfl rfl (y_ld rfl rfl (S.ld (i := 0) rfl rfl Tryz.isAgg25))
  obtain ⟨v11, F, hv11, ho11⟩ := F.eC (P := Tryz.prog) (hC := slC_per 9 1 asks.length (asks.flatMap encS)) (hA 5 (by decide)) rfl (d := 11) rfl rfl
  obtain ⟨A11, c11, rfl, hk11⟩ := hv11
  replace F := F.eP (hA 6 (by decide)) rfl (d := 12) rfl rfl (y_fa rfl rfl fi27_5)
  replace F := F.eP (hA 7 (by decide)) rfl (d := 13) rfl rfl (y_ld rfl rfl (S.ld (i := 0) rfl rfl Tryz.isAgg25))
  exact pc F (c_f rfl rfl rfl Tryz.call52) rfl rfl (c_CloneS _ (ho.st S) (by omega)) (fun v w2 h => newO_C h.1 h.2)
 ·intro a w1 hB F hA
  have S0 := S
  replace S := S.call hB
  exact pb F rfl (y_al rfl Tryz.zeroValue25 rfl) (fun _ => rfl) rfl rfl rfl
 ·intro a w1 hB F hA
  have S0 := S
  replace S := S.call hB
  exact pb F rfl (y_al rfl Tryz.zeroValue25 rfl) (fun _ => rfl) rfl rfl rfl
 ·intro a w1 hB F hA
  have S0 := S
  replace S := S.call hB
  exact pb F rfl (y_al rfl Tryz.zeroValue25 rfl) (fun _ => rfl) rfl rfl rfl
 have F := J.fr
 have E := EX.start J S
 have hle' := S.bel.size
 replace S := S.call J.bel
 replace F := F.eP (J.at 0 rfl) rfl (d := 6) rfl rfl (y_fa rfl rfl fi27_3)
 replace F := F.eP (J.at 1 rfl) rfl (d := 7) rfl rfl (y_ld rfl rfl (S.ld (i := 0) rfl rfl Tryz.isAgg25))
 obtain ⟨v8, F, hv8, ho8⟩ := F.eC (P := Tryz.prog) (hC := slC_per 9 1 ins.length (ins.flatMap encS)) (J.at 2 rfl) rfl (d := 8) rfl rfl
 obtain ⟨A8, c8, rfl, hk8⟩ := hv8
 have E := EX.slo J hle' E 2 rfl rfl (d := 8) rfl hk8 ho8
 replace F := F.eP (J.at 3 rfl) rfl (d := 9) rfl rfl (y_fa rfl rfl fi27_4)
 replace F := F.eP (J.at 4 rfl) rfl (d := 10) rfl rfl (y_ld rfl rfl (S.ld (i := 0) rfl rfl Tryz.isAgg25))
 obtain ⟨v11, F, hv11, ho11⟩ := F.eC (P := Tryz.prog) (hC := slC_per 9 1 asks.length (asks.flatMap encS)) (J.at 5 rfl) rfl (d := 11) rfl rfl
 obtain ⟨A11, c11, rfl, hk11⟩ := hv11
 have E := EX.slo J hle' E 5 rfl rfl (d := 11) rfl hk11 ho11
 replace F := F.eP (J.at 6 rfl) rfl (d := 12) rfl rfl (y_fa rfl rfl fi27_5)
 replace F := F.eP (J.at 7 rfl) rfl (d := 13) rfl rfl (y_ld rfl rfl (S.ld (i := 0) rfl rfl Tryz.isAgg25))
 obtain ⟨v14, F, hv14, ho14⟩ := F.eC (P := Tryz.prog) (hC := slC_per 9 1 outs.length (outs.flatMap encS)) (J.at 8 rfl) rfl (d := 14) rfl rfl
 obtain ⟨A14, c14, rfl, hk14⟩ := hv14
 have E := EX.slo J hle' E 8 rfl rfl (d := 14) rfl hk14 ho14
 obtain ⟨b3, F, hb3, ho3⟩ := F.eB (P := Tryz.prog) (e := 25) (mk := mkP) (xs := []) (cs := fun _ => [.slice none 0 0]) (J.at 9 rfl) rfl (d := 3) rfl rfl rfl
 have E := EX.row J hle' E 9 rfl rfl (d := 3) (e := 25) (cs := [.slice none 0 0]) rfl hb3 ho3
 obtain ⟨b4, F, hb4, ho4⟩ := F.eB (P := Tryz.prog) (e := 25) (mk := mkP) (xs := []) (cs := fun _ => [.slice none 0 0]) (J.at 10 rfl) rfl (d := 4) rfl rfl rfl
 have E := EX.row J hle' E 10 rfl rfl (d := 4) (e := 25) (cs := [.slice none 0 0]) rfl hb4 ho4
 obtain ⟨b5, F, hb5, ho5⟩ := F.eB (P := Tryz.prog) (e := 25) (mk := mkP) (xs := []) (cs := fun _ => [.slice none 0 0]) (J.at 11 rfl) rfl (d := 5) rfl rfl rfl
 have E := EX.row J hle' E 11 rfl rfl (d := 5) (e := 25) (cs := [.slice none 0 0]) rfl hb5 ho5
 replace S := E.st
 clear E J
 refine dsw F S rfl rfl rfl Tryz.sizeOf25 (i := 4) rfl rfl rfl rfl one1 rfl rfl fun a w F S => ?_
 refine dsw F S rfl rfl rfl Tryz.sizeOf25 (i := 5) rfl rfl rfl rfl one1 rfl rfl fun a w F S => ?_
 refine dsw F S rfl rfl rfl Tryz.sizeOf25 (i := 6) rfl rfl rfl rfl one1 rfl rfl fun a w F S => ?_
 refine dn ?_
 refine tn <| hK2 _ _ ?_
 refine sq fun K3 hK3 => ?_
 refine rg ?_
 refine dv F (y_mf rfl rfl) rfl rfl rfl fun a F => ?_
 refine dv F (y_as rfl rfl) rfl rfl rfl fun a F => ?_
 refine dn ?_
 refine tn <| hK3 _ _ ?_
 refine wp_ret ?_
 refine ?_
 exact rt1 F rfl rfl ⟨⟨b5, b3, b4, rfl, ((slBox_in S (i := 6) (j := 3) rfl rfl).and (slBox_in S (i := 4) (j := 1) rfl rfl) (fun _ _ h => SlBox.le h) (fun _ _ h => SlBox.le h)).and (slBox_in S (i := 5) (j := 2) rfl rfl) (fun _ _ h k => ⟨k.1.le h, k.2.le h⟩) (fun _ _ h => SlBox.le h)⟩, S.bel⟩
end Go.Proofs.YtgcmddaibnimjaaGreatDoor
namespace Go.Proofs.YtgcmddaibnimjaaGreatDoor
open Go.RowKit Go.Eng
def BS.start (cs : List Cmd) : BS := { run := RS.start cs, wrote := [], reads := [], asks := eB, over := false, why := 0 }
def NewP (w0 w' : World) (v : Value) (env : List (ByteArray × ByteArray)) (outs ins asks : List ByteArray) (mr : Res) : (Int × Int) ⊕ List Cmd → Prop
 | .inl (e, n) => v = .tuple [.pointer none, .int .i64 e].toArray ∧ St w0 w' [mr]
 | .inr cs => ∃ (B : BC) (H0 : Hp), B.C.env = env ∧ B.outs = outs ∧ B.ins = ins ∧ B.asks = asks ∧ v = .tuple [pt B.bx, .int .i64 0].toArray ∧ BRep B H0 ((BS.start cs).go B) mr w0 w'
def clE (env : List (ByteArray × ByteArray)) (v : Value) (w : World) : Prop := ∃ A c, v = .slice A env.length c ∧ Sl w 2 encSt A env
theorem clE_per (env : List (ByteArray × ByteArray)) : ∀ v w1 w2, Below w1.heap.size w1 w2 → clE env v w1 → clE env v w2 := fun v w1 w2 hb ⟨A, c, h1, h2⟩ => ⟨A, c, h1, h2.below hb⟩
theorem clE_of {env : List (ByteArray × ByteArray)} {w1 w2 : World} {v : Value} (h : NewO 109 2 w1 w2 v env.length (env.flatMap encSt) ∧ Below w1.heap.size w1 w2) : Below w1.heap.size w1 w2 ∧ clE env v w2 ∧ ∀ b ∈ ((fun _ => []) : Value → List Nat) v, w1.heap.size ≤ b ∧ b < w2.heap.size := by
 obtain ⟨⟨A, c, rfl, ho, hlo⟩, hb⟩ := h
 refine ⟨hb, ⟨A, c, rfl, ?_⟩, fun b hb => by cases hb⟩
 have S := (St.refl w1).addOw hb rfl ho hlo
 exact S.ows (i := 0) rfl lenSt (by decide)
theorem Rep.below {C : RC} {sb : Nat} {sr : Res} {H0 : Hp} {σ : RS} {mr : Res} {w0 w w' : World} (h : Rep C sb sr H0 σ mr w0 w) (hb : Below w.heap.size w w') : Rep C sb sr H0 σ mr w0 w' := by
 obtain ⟨A, c, vals, H, h1, h2, h3, S⟩ := h
 exact ⟨A, c, vals, H, h1, h2, h3, S.call hb⟩
theorem StartP.below {w0 w w' : World} {v : Value} {env : List (ByteArray × ByteArray)} {mr : Res} : ∀ {r : (Int × Int) ⊕ List Cmd}, StartP w0 w v env mr r → Below w.heap.size w w' → StartP w0 w' v env mr r
 | .inl (e, n), h, hb => ⟨h.1, h.2.call hb⟩
 | .inr cs, ⟨C, H, h1, h2, sb, sr, h3, h4⟩, hb => ⟨C, H, h1, h2, sb, sr, h3, h4.below hb⟩
def StartT (N : Nat) (env : List (ByteArray × ByteArray)) (r : (Int × Int) ⊕ List Cmd) (v : Value) (w : World) : Prop := ∃ wx p e, N ≤ wx.heap.size ∧ v = .tuple [p, .int .i64 e].toArray ∧ StartP wx w v env nl r
theorem startT_per (N : Nat) (env : List (ByteArray × ByteArray)) (r : (Int × Int) ⊕ List Cmd) : ∀ v w1 w2, Below w1.heap.size w1 w2 → StartT N env r v w1 → StartT N env r v w2 := fun v w1 w2 hb ⟨wx, p, e, h0, h1, h2⟩ => ⟨wx, p, e, h0, h1, h2.below hb⟩
theorem start_st_ {w0 w : World} {v : Value} {env : List (ByteArray × ByteArray)} {mr : Res} : ∀ {r : (Int × Int) ⊕ List Cmd}, StartP w0 w v env mr r → St w0 w [mr]
 | .inl (e, n), h => h.2
 | .inr cs, ⟨C, H, h1, h2, sb, sr, h3, A, c, vals, K, h4, h5, h6, S⟩ => S.pick [5] _ ⟨rfl, trivial⟩ rfl
theorem start_tup {w0 w : World} {v : Value} {env : List (ByteArray × ByteArray)} {mr : Res} : ∀ {r : (Int × Int) ⊕ List Cmd}, StartP w0 w v env mr r → ∃ p e, v = .tuple [p, .int .i64 e].toArray
 | .inl (e, n), h => ⟨_, _, h.1⟩
 | .inr cs, ⟨C, H, h1, h2, h3⟩ => ⟨_, _, h2⟩
theorem startT_of {N : Nat} {w1 w2 : World} {v : Value} {env : List (ByteArray × ByteArray)} {r : (Int × Int) ⊕ List Cmd} (hN : N ≤ w1.heap.size) (h : StartP w1 w2 v env nl r) : Below w1.heap.size w1 w2 ∧ StartT N env r v w2 ∧ ∀ b ∈ ((fun _ => []) : Value → List Nat) v, w1.heap.size ≤ b ∧ b < w2.heap.size := by
 obtain ⟨p, e, hp⟩ := start_tup h
 exact ⟨(start_st_ h).bel, ⟨w1, p, e, hN, hp, h⟩, fun b hb => by cases hb⟩
theorem _root_.Go.Eng.St.size {w0 w : World} {hs : List Res} (S : St w0 w hs) : ∃ N, N = w.heap.size := ⟨_, rfl⟩
theorem nth_app {α : Type} : ∀ (l r : List α) (q : Nat) (t : α), nth (l ++ r) q = some t → nth l q = some t ∨ (l.length ≤ q ∧ nth r (q - l.length) = some t)
 | [], r, q, t, h => .inr ⟨Nat.zero_le _, h⟩
 | x :: l, r, 0, t, h => .inl h
 | x :: l, r, q + 1, t, h => by
  rcases nth_app l r q t h with h | ⟨h1, h2⟩
  ·exact .inl h
  ·refine .inr ⟨Nat.succ_le_succ h1, ?_⟩
   rw [List.length_cons, Nat.succ_sub_succ]; exact h2
theorem _root_.Go.Eng.St.join {w0 w w1 wx : World} {hs rs : List Res} (S : St w0 w1 hs) (S0 : St w0 w hs) (hN : w.heap.size ≤ wx.heap.size) (T : St wx w1 rs) : St w0 w1 (hs ++ rs) := by
 have lo : ∀ i s, nth hs i = some s → ∀ k, s.fp k → k < w.heap.size := fun i s h k hk => ((S0.own i s h).2 k hk).2
 have hi : ∀ i s, nth rs i = some s → ∀ k, s.fp k → w.heap.size ≤ k := fun i s h k hk => Nat.le_trans hN ((T.own i s h).2 k hk).1
 have hw0 := S0.bel.size
 refine ⟨S.bel, fun q t h => ?_, fun q q' t t' h h' hne k hk hk' => ?_⟩
 ·rcases nth_app _ _ _ _ h with h | ⟨_, h⟩
  ·exact S.own q t h
  ·exact ⟨(T.own _ t h).1, fun k hk => ⟨Nat.le_trans hw0 (hi _ t h k hk), ((T.own _ t h).2 k hk).2⟩⟩
 ·rcases nth_app _ _ _ _ h with h | ⟨h1, h⟩
  ·rcases nth_app _ _ _ _ h' with h' | ⟨h1', h'⟩
   ·exact S.sep q q' t t' h h' hne k hk hk'
   ·have a := lo _ _ h k hk; have b := hi _ _ h' k hk'; omega
  ·rcases nth_app _ _ _ _ h' with h' | ⟨h1', h'⟩
   ·have a := lo _ _ h' k hk'; have b := hi _ _ h k hk; omega
   ·exact T.sep _ _ t t' h h' (by omega) k hk hk'
theorem com_ne {t : ByteArray} {e n : Int} (h : commandsE t = .inl (e, n)) : ¬ e = 0 := by
 unfold commandsE at h
 split at h
 ·cases h; decide
 ·split at h
  ·cases h; decide
  ·cases h
theorem start_bad {w0 w : World} {p : Value} {e : Int} {env : List (ByteArray × ByteArray)} {mr : Res} : ∀ {r : (Int × Int) ⊕ List Cmd}, StartP w0 w (.tuple [p, .int .i64 e].toArray) env mr r → ¬ e = 0 → ∃ n, r = .inl (e, n) ∧ p = .pointer none ∧ St w0 w [mr]
 | .inl (e', n), ⟨h1, h2⟩, _ => by
  injection h1 with h1
  have h1 := congrArg Array.toList h1
  simp only [List.cons.injEq, Value.int.injEq, true_and, and_true] at h1
  obtain ⟨rfl, rfl⟩ := h1
  exact ⟨n, rfl, rfl, h2⟩
 | .inr cs, ⟨C, H, h1, h2, h3⟩, he => by
  injection h2 with h2
  have h2 := congrArg Array.toList h2
  simp only [List.cons.injEq, Value.int.injEq, true_and, and_true] at h2
  exact absurd h2.2 he
theorem start_ok {w0 w : World} {p : Value} {e : Int} {env : List (ByteArray × ByteArray)} {mr : Res} {t : ByteArray} (h : StartP w0 w (.tuple [p, .int .i64 e].toArray) env mr (commandsE t)) (he : e = 0) : ∃ cs C H, commandsE t = .inr cs ∧ C.env = env ∧ p = pt C.rb ∧ RepX C H (RS.start cs) mr w0 w := by
 generalize hr : commandsE t = r at h
 match r, h with
 | .inl (e', n), ⟨h1, h2⟩ =>
  injection h1 with h1
  have h1 := congrArg Array.toList h1
  simp only [List.cons.injEq, Value.int.injEq, true_and, and_true] at h1
  exact absurd (h1.2.symm.trans he) (com_ne hr)
 | .inr cs, ⟨C, H, h1, h2, h3⟩ =>
  injection h2 with h2
  have h2 := congrArg Array.toList h2
  simp only [List.cons.injEq, Value.int.injEq, true_and, and_true] at h2
  exact ⟨cs, C, H, rfl, h1, h2.1, h3⟩
theorem fzIn_le {N M : Nat} {w : World} {p : Hp → Prop} (h : M ≤ N) (hp : FzIn N w p) : FzIn M w p :=
 let ⟨K, h1, h2⟩ := hp
 ⟨K, fun k o hk => ⟨(h1 k o hk).1, Nat.le_trans h (h1 k o hk).2.1, (h1 k o hk).2.2⟩, h2⟩
def clO (N : Nat) (xs : List ByteArray) (v : Value) (w : World) : Prop := ∃ A c, v = .slice A xs.length c ∧ FzIn N w fun K => FzS K 1 encS A xs
theorem clO_per (N : Nat) (xs : List ByteArray) : ∀ v w1 w2, Below w1.heap.size w1 w2 → clO N xs v w1 → clO N xs v w2 := fun v w1 w2 hb ⟨A, c, h1, h2⟩ => ⟨A, c, h1, h2.below hb⟩
theorem clO_of {N : Nat} {xs : List ByteArray} {w1 w2 : World} {v : Value} (hN : N ≤ w1.heap.size) (h : NewO 9 1 w1 w2 v xs.length (xs.flatMap encS) ∧ Below w1.heap.size w1 w2) : Below w1.heap.size w1 w2 ∧ clO N xs v w2 ∧ ∀ b ∈ ((fun _ => []) : Value → List Nat) v, w1.heap.size ≤ b ∧ b < w2.heap.size := by
 obtain ⟨⟨A, c, rfl, ho, hlo⟩, hb⟩ := h
 exact ⟨hb, ⟨A, c, rfl, fzIn_le hN (ow_in ⟨A, c, rfl, ho⟩ hlo lenS)⟩, fun b hb => by cases hb⟩
def rdO (N : Nat) (outs ins asks : List ByteArray) (v : Value) (w : World) : Prop := ∃ bo bi ba, v = .func (.func 99) #[] [pt bo, pt bi, pt ba].toArray ∧ FzIn N w fun K => (SlBox K bo outs ∧ SlBox K bi ins) ∧ SlBox K ba asks
theorem rdO_per (N : Nat) (outs ins asks : List ByteArray) : ∀ v w1 w2, Below w1.heap.size w1 w2 → rdO N outs ins asks v w1 → rdO N outs ins asks v w2 := fun v w1 w2 hb ⟨a, b, c, h1, h2⟩ => ⟨a, b, c, h1, h2.below hb⟩
theorem rdO_of {N : Nat} {outs ins asks : List ByteArray} {w1 w2 : World} {v : Value} (hN : N ≤ w1.heap.size) (h : (∃ bo bi ba, v = .func (.func 99) #[] [pt bo, pt bi, pt ba].toArray ∧ FzIn w1.heap.size w2 fun K => (SlBox K bo outs ∧ SlBox K bi ins) ∧ SlBox K ba asks) ∧ Below w1.heap.size w1 w2) : Below w1.heap.size w1 w2 ∧ rdO N outs ins asks v w2 ∧ ∀ b ∈ ((fun _ => []) : Value → List Nat) v, w1.heap.size ≤ b ∧ b < w2.heap.size := by
 obtain ⟨⟨a, b, c, h1, h2⟩, hb⟩ := h
 exact ⟨hb, ⟨a, b, c, h1, fzIn_le hN h2⟩, fun b hb => by cases hb⟩
theorem bd114 {p A n c f cp b} (w : World) : (Instr.build 114 [(0, pt p), (1, .slice A n c), (2, .func f #[] cp), (3, .map (some b))].toArray).run Tryz.prog w = .ok (.agg [pt p, .slice A n c, .func f #[] cp, .map (some b), .slice none 0 0, .string eB, .bool false, .int .i64 0].toArray) w := by kernel_rfl
section
variable {P : Program} {w0 w w1 : World} {l' : List Oper} {L : List HS} {a : Act} {hs : List Res}
theorem EX.fzJ1 {j d b : Nat} (hw : w0.heap.size ≤ w.heap.size) (hw1 : w.heap.size ≤ w1.heap.size) (E : EX w0 w w1 l' (fun i => (L.getD i hs0).h) a [j] hs) {i : Nat} {H0 : Hp} (hi : nth hs i = some (fz H0)) {p : Hp → Prop} (hK : FzIn w.heap.size w1 p) (mp : ∀ H K : Hp, H.le K → p H → p K)
  (hd : dsl l' j = d) (ho : (L.getD j hs0).own (a.tmps.getD d undef) = [b]) (hb : w1.heap[b]? = some (.map #[] 0)) : ∃ K : Hp, H0.le K ∧ p K ∧ St w0 w1 (upd hs i (fz K)) :=
 EX.fzJ hw hw1 E hi hK mp fun j' hj' k hk cs t fr hc => by
  have : j' = j := by simpa using hj'
  subst this
  rw [hd] at hk
  have hk' : k ∈ (L.getD j' hs0).own (a.tmps.getD d undef) := hk
  rw [ho] at hk'
  have : k = b := by simpa using hk'
  subst this
  rw [hb] at hc; cases hc
end
theorem fi27_1 : FieldIs Tryz.prog 27 1 2 := fieldIs (z := 0) Tryz.underlying27 rfl rfl rfl Tryz.sizeOf9
theorem fi27_2 : FieldIs Tryz.prog 27 2 3 := fieldIs (z := 0) Tryz.underlying27 rfl rfl rfl Tryz.sizeOf24
theorem c_New {u1 u2 : Value} {t : ByteArray} {Ae Ai Aa Ao : Option Addr} {ce ci ca co : Nat} {env : List (ByteArray × ByteArray)} {ins asks outs : List ByteArray} {mr : Res} {w0 W : World} (G : Gl w0) (S : St w0 W [mr]) (ht : t.size ≤ 1000000) (he : Sl w0 2 encSt Ae env) (hi : Sl w0 1 encS Ai ins) (ha : Sl w0 1 encS Aa asks) (ho : Sl w0 1 encS Ao outs) (hen : env.length ≤ 1000000) (hez : ∀ x ∈ env, x.2.size ≤ 1000000000) (hl : outs.length ≤ 1000000 ∧ ins.length ≤ 1000000 ∧ asks.length ≤ 1000000) (hz : ∀ x ∈ asks, x.size ≤ 1000000) : Calls Tryz.prog 17 [.agg (actC u1 u2 t Ae env.length ce Ai ins.length ci Aa asks.length ca Ao outs.length co).toArray].toArray W (Ret fun v w' => NewP w0 w' v env outs ins asks mr (commandsE t)) := by
 refine ent Tryz.func17 Tryz.ntmps17 rfl rfl ?_
 intro a F
 refine sq fun K1 hK1 => ?_
 refine rg ?_
 refine dbx F S rfl rfl rfl rfl rfl rfl fun a w b1 F S => ?_
 refine dv F (y_as rfl rfl) rfl rfl rfl fun a F => ?_
 refine dv F (y_as rfl rfl) rfl rfl rfl fun a F => ?_
 refine dn ?_
 refine tn <| hK1 _ _ ?_
 refine sq fun K2 hK2 => ?_
 replace S : St w0 _ [mr, bk b1 27 (actC u1 u2 t Ae env.length ce Ai ins.length ci Aa asks.length ca Ao outs.length co)] := S
 have S00 := S
 obtain ⟨N, hN⟩ := S.size
 refine rpF [.p, .p, .p, .p, .c (fun _ => []) (clE env) (clE_per env), .c (fun _ => []) (StartT N env (commandsE t)) (startT_per _ _ _), .p, .p, .p] 9 8 [[], [0], [], [2], [2, 3], [0, 1, 2, 3, 4], [0, 1, 2, 3, 4, 5], [0, 1, 2, 3, 4, 5, 6], [0, 1, 2, 3, 4, 5, 6]] [(0, _), (1, _), (2, _), (3, _)] F ⟨rfl, rfl, rfl, rfl, trivial⟩ Tryz.mixed (by kernel_rfl) rfl (by decide) (by decide) (by kernel_rfl) (by kernel_rfl) (by kernel_rfl) (by kernel_rfl) ⟨?_, ?_, ?_, ?_, ?_, ?_, ?_, ?_, ?_, trivial⟩ (fun a w1 J => ?_) (fun a w1 om of_ hom hof J => ?_)
 ·intro a w1 hB F hA
  have S0 := S
  replace S := S.call hB
  exact pv F (fun w2 hB2 => have S := S.call hB2; y_fa rfl rfl fi27_1) rfl rfl rfl (by decide)
 ·intro a w1 hB F hA
  have S0 := S
  replace S := S.call hB
  replace F := F.eP (hA 0 (by decide)) rfl (d := 8) rfl rfl (y_fa rfl rfl fi27_1)
  exact pv F (fun w2 hB2 => have S := S.call hB2; y_ld rfl rfl (S.ld (i := 1) rfl rfl Tryz.isAgg9)) rfl rfl rfl (by decide)
 ·intro a w1 hB F hA
  have S0 := S
  replace S := S.call hB
  exact pv F (fun w2 hB2 => have S := S.call hB2; y_fa rfl rfl fi27_2) rfl rfl rfl (by decide)
 ·intro a w1 hB F hA
  have S0 := S
  replace S := S.call hB
  replace F := F.eP (hA 2 (by decide)) rfl (d := 10) rfl rfl (y_fa rfl rfl fi27_2)
  exact pv F (fun w2 hB2 => have S := S.call hB2; y_ld rfl rfl (S.ld (i := 1) rfl rfl Tryz.isAgg24)) rfl rfl rfl (by decide)
 ·intro a w1 hB F hA
  have S0 := S
  replace S := S.call hB
  replace F := F.eP (hA 2 (by decide)) rfl (d := 10) rfl rfl (y_fa rfl rfl fi27_2)
  replace F := F.eP (hA 3 (by decide)) rfl (d := 11) rfl rfl (y_ld rfl rfl (S.ld (i := 1) rfl rfl Tryz.isAgg24))
  exact pc F (vs := [.slice Ae env.length ce]) (c_f (cap := []) (vs := [.slice Ae env.length ce]) rfl rfl rfl Tryz.call51) rfl rfl (c_CloneSt _ (he.st S) (by omega)) (fun v w2 h => clE_of h)
 ·intro a w1 hB F hA
  have S0 := S
  replace S := S.call hB
  replace F := F.eP (hA 0 (by decide)) rfl (d := 8) rfl rfl (y_fa rfl rfl fi27_1)
  replace F := F.eP (hA 1 (by decide)) rfl (d := 9) rfl rfl (y_ld rfl rfl (S.ld (i := 1) rfl rfl Tryz.isAgg9))
  replace F := F.eP (hA 2 (by decide)) rfl (d := 10) rfl rfl (y_fa rfl rfl fi27_2)
  replace F := F.eP (hA 3 (by decide)) rfl (d := 11) rfl rfl (y_ld rfl rfl (S.ld (i := 1) rfl rfl Tryz.isAgg24))
  obtain ⟨v12, F, hv12, ho12⟩ := F.eC (P := Tryz.prog) (hC := clE_per env) (hA 4 (by decide)) rfl (d := 12) rfl rfl
  obtain ⟨A12, c12, rfl, hA12⟩ := hv12
  exact pc F (vs := [.string t, .slice A12 env.length c12]) (c_f (cap := []) (vs := [.string t, .slice A12 env.length c12]) rfl rfl rfl Tryz.call27) rfl rfl (c_Start t env (G.st S) (St.refl _).nl hA12 hen ht) (fun v w2 h => startT_of (hN ▸ hB.size) h)
 ·intro a w1 hB F hA
  have S0 := S
  replace S := S.call hB
  replace F := F.eP (hA 0 (by decide)) rfl (d := 8) rfl rfl (y_fa rfl rfl fi27_1)
  replace F := F.eP (hA 1 (by decide)) rfl (d := 9) rfl rfl (y_ld rfl rfl (S.ld (i := 1) rfl rfl Tryz.isAgg9))
  replace F := F.eP (hA 2 (by decide)) rfl (d := 10) rfl rfl (y_fa rfl rfl fi27_2)
  replace F := F.eP (hA 3 (by decide)) rfl (d := 11) rfl rfl (y_ld rfl rfl (S.ld (i := 1) rfl rfl Tryz.isAgg24))
  obtain ⟨v12, F, hv12, ho12⟩ := F.eC (P := Tryz.prog) (hC := clE_per env) (hA 4 (by decide)) rfl (d := 12) rfl rfl
  obtain ⟨A12, c12, rfl, hA12⟩ := hv12
  obtain ⟨v13, F, hv13, ho13⟩ := F.eC (P := Tryz.prog) (hC := startT_per N env (commandsE t)) (hA 5 (by decide)) rfl (d := 13) rfl rfl
  obtain ⟨wx, pv_, ev_, hwx, rfl, hst⟩ := hv13
  exact pv F (fun w2 hB2 => have S := S.call hB2; y_mv rfl rfl) rfl rfl rfl (by decide)
 ·intro a w1 hB F hA
  have S0 := S
  replace S := S.call hB
  replace F := F.eP (hA 0 (by decide)) rfl (d := 8) rfl rfl (y_fa rfl rfl fi27_1)
  replace F := F.eP (hA 1 (by decide)) rfl (d := 9) rfl rfl (y_ld rfl rfl (S.ld (i := 1) rfl rfl Tryz.isAgg9))
  replace F := F.eP (hA 2 (by decide)) rfl (d := 10) rfl rfl (y_fa rfl rfl fi27_2)
  replace F := F.eP (hA 3 (by decide)) rfl (d := 11) rfl rfl (y_ld rfl rfl (S.ld (i := 1) rfl rfl Tryz.isAgg24))
  obtain ⟨v12, F, hv12, ho12⟩ := F.eC (P := Tryz.prog) (hC := clE_per env) (hA 4 (by decide)) rfl (d := 12) rfl rfl
  obtain ⟨A12, c12, rfl, hA12⟩ := hv12
  obtain ⟨v13, F, hv13, ho13⟩ := F.eC (P := Tryz.prog) (hC := startT_per N env (commandsE t)) (hA 5 (by decide)) rfl (d := 13) rfl rfl
  obtain ⟨wx, pv_, ev_, hwx, rfl, hst⟩ := hv13
  replace F := F.eP (hA 6 (by decide)) rfl (d := 7) rfl rfl (y_mv rfl rfl)
  exact pv F (fun w2 hB2 => have S := S.call hB2; y_ex rfl rfl rfl) rfl rfl rfl (by decide)
 ·intro a w1 hB F hA
  have S0 := S
  replace S := S.call hB
  replace F := F.eP (hA 0 (by decide)) rfl (d := 8) rfl rfl (y_fa rfl rfl fi27_1)
  replace F := F.eP (hA 1 (by decide)) rfl (d := 9) rfl rfl (y_ld rfl rfl (S.ld (i := 1) rfl rfl Tryz.isAgg9))
  replace F := F.eP (hA 2 (by decide)) rfl (d := 10) rfl rfl (y_fa rfl rfl fi27_2)
  replace F := F.eP (hA 3 (by decide)) rfl (d := 11) rfl rfl (y_ld rfl rfl (S.ld (i := 1) rfl rfl Tryz.isAgg24))
  obtain ⟨v12, F, hv12, ho12⟩ := F.eC (P := Tryz.prog) (hC := clE_per env) (hA 4 (by decide)) rfl (d := 12) rfl rfl
  obtain ⟨A12, c12, rfl, hA12⟩ := hv12
  obtain ⟨v13, F, hv13, ho13⟩ := F.eC (P := Tryz.prog) (hC := startT_per N env (commandsE t)) (hA 5 (by decide)) rfl (d := 13) rfl rfl
  obtain ⟨wx, pv_, ev_, hwx, rfl, hst⟩ := hv13
  replace F := F.eP (hA 6 (by decide)) rfl (d := 7) rfl rfl (y_mv rfl rfl)
  exact pv F (fun w2 hB2 => have S := S.call hB2; y_ex rfl rfl rfl) rfl rfl rfl (by decide)
 ·have F := J.fr
  have E := EX.start J S
  have hle' := S.bel.size
  replace S := S.call J.bel
  replace F := F.eP (J.at 0 rfl) rfl (d := 8) rfl rfl (y_fa rfl rfl fi27_1)
  replace F := F.eP (J.at 1 rfl) rfl (d := 9) rfl rfl (y_ld rfl rfl (S.ld (i := 1) rfl rfl Tryz.isAgg9))
  replace F := F.eP (J.at 2 rfl) rfl (d := 10) rfl rfl (y_fa rfl rfl fi27_2)
  replace F := F.eP (J.at 3 rfl) rfl (d := 11) rfl rfl (y_ld rfl rfl (S.ld (i := 1) rfl rfl Tryz.isAgg24))
  obtain ⟨v12, F, hv12, ho12⟩ := F.eC (P := Tryz.prog) (hC := clE_per env) (J.at 4 rfl) rfl (d := 12) rfl rfl
  obtain ⟨A12, c12, rfl, hA12⟩ := hv12
  obtain ⟨v13, F, hv13, ho13⟩ := F.eC (P := Tryz.prog) (hC := startT_per N env (commandsE t)) (J.at 5 rfl) rfl (d := 13) rfl rfl
  obtain ⟨wx, pv_, ev_, hwx, rfl, hst⟩ := hv13
  replace F := F.eP (J.at 6 rfl) rfl (d := 7) rfl rfl (y_mv rfl rfl)
  replace F := F.eP (J.at 7 rfl) rfl (d := 14) rfl rfl (y_ex rfl rfl rfl)
  replace F := F.eP (J.at 8 rfl) rfl (d := 15) rfl rfl (y_ex rfl rfl rfl)
  replace S := E.st
  clear E J
  refine dv F (y_as rfl rfl) rfl rfl rfl fun a F => ?_
  refine dv F (y_as rfl rfl) rfl rfl rfl fun a F => ?_
  refine dn ?_
  refine tn <| hK2 _ _ ?_
  refine sq fun K3 hK3 => ?_
  refine sq fun K4 hK4 => ?_
  refine rg ?_
  refine dv F (y_mv rfl rfl) rfl rfl rfl fun a F => ?_
  refine dv F (y_in rfl rfl rfl) rfl rfl rfl fun a F => ?_
  refine dn ?_
  refine tn <| hK4 _ _ ?_
  refine cb F rfl (fun h1 => ?_) (fun h1 => ?_)
  ·have g1 := h1
   try simp only [zi1, zi2, zi3, zi4, zi5, zi6, zi7, zi8] at g1
   refine sq fun K5 hK5 => ?_
   obtain ⟨n_, hr_, rfl, -⟩ := start_bad hst (by first | simpa using g1 | simpa using g2)
   refine rg ?_
   refine dv F (y_mv rfl rfl) rfl rfl rfl fun a F => ?_
   refine dv F (y_as rfl rfl) rfl rfl rfl fun a F => ?_
   refine dv F (y_as rfl rfl) rfl rfl rfl fun a F => ?_
   refine dn ?_
   refine tn <| hK5 _ _ ?_
   refine wp_ret ?_
   refine tr <| ?_
   exact rt2 F rfl rfl rfl (by rw [hr_]; exact ⟨rfl, S.pick [0] _ ⟨rfl, trivial⟩ rfl⟩)
  ·have g1 := h1
   try simp only [zi1, zi2, zi3, zi4, zi5, zi6, zi7, zi8] at g1
   refine wp_skip ?_
   refine tn <| hK3 _ _ ?_
   refine sq fun K6 hK6 => ?_
   obtain ⟨cs, C, H, hr_, hCe, rfl, sb, sr, hsr, A, c, vals, K, hle, hE, hv, T⟩ := start_ok hst (by first | simpa using g1 | simpa using g2)
   replace S := S.join S00 (hN ▸ hwx) T
   obtain ⟨M, hM⟩ := S.size
   refine rp [.p, .p, .p, .c (fun _ => []) (clO M outs) (clO_per _ _), .p, .c (fun _ => []) (rdO M outs ins asks) (rdO_per _ _ _ _), .c mapOwn mapC mapC_per] 7 [[], [], [1], [1, 2], [], [1, 2, 3, 4], []] [(0, _), (1, _), (2, _), (3, _), (4, _), (5, _), (7, _), (8, _), (9, _), (10, _), (11, _), (12, _), (13, _), (14, _), (15, _), (16, _), (17, _)] F ⟨rfl, rfl, rfl, rfl, rfl, rfl, rfl, rfl, rfl, rfl, rfl, rfl, rfl, rfl, rfl, rfl, rfl, trivial⟩ Tryz.mixed (by kernel_rfl) rfl (.inr ⟨by decide, by kernel_rfl, by kernel_rfl⟩) (by kernel_rfl) ⟨?_, ?_, ?_, ?_, ?_, ?_, ?_, trivial⟩ fun a w1 J => ?_
   ·intro a w1 hB F hA
    have S0 := S
    replace S := S.call hB
    exact pv F (fun w2 hB2 => have S := S.call hB2; y_mv rfl rfl) rfl rfl rfl (by decide)
   ·intro a w1 hB F hA
    have S0 := S
    replace S := S.call hB
    exact pv F (fun w2 hB2 => have S := S.call hB2; y_fa rfl rfl fi27_5) rfl rfl rfl (by decide)
   ·intro a w1 hB F hA
    have S0 := S
    replace S := S.call hB
    replace F := F.eP (hA 1 (by decide)) rfl (d := 20) rfl rfl (y_fa rfl rfl fi27_5)
    exact pv F (fun w2 hB2 => have S := S.call hB2; y_ld rfl rfl (S.ld (i := 1) rfl rfl Tryz.isAgg25)) rfl rfl rfl (by decide)
   ·intro a w1 hB F hA
    have S0 := S
    replace S := S.call hB
    replace F := F.eP (hA 1 (by decide)) rfl (d := 20) rfl rfl (y_fa rfl rfl fi27_5)
    replace F := F.eP (hA 2 (by decide)) rfl (d := 21) rfl rfl (y_ld rfl rfl (S.ld (i := 1) rfl rfl Tryz.isAgg25))
    exact pc F (vs := [.slice Ao outs.length co]) (c_f (cap := []) (vs := [.slice Ao outs.length co]) rfl rfl rfl Tryz.call52) rfl rfl (c_CloneS _ (ho.st S) (by omega)) (fun v w2 h => clO_of (hM ▸ hB.size) h)
   ·intro a w1 hB F hA
    have S0 := S
    replace S := S.call hB
    exact pv F (fun w2 hB2 => have S := S.call hB2; y_ld rfl rfl (S.lda (i := 1) rfl Tryz.isAgg27 Tryz.sizeOf27 rfl)) rfl rfl rfl (by decide)
   ·intro a w1 hB F hA
    have S0 := S
    replace S := S.call hB
    replace F := F.eP (hA 1 (by decide)) rfl (d := 20) rfl rfl (y_fa rfl rfl fi27_5)
    replace F := F.eP (hA 2 (by decide)) rfl (d := 21) rfl rfl (y_ld rfl rfl (S.ld (i := 1) rfl rfl Tryz.isAgg25))
    obtain ⟨v22, F, hv22, ho22⟩ := F.eC (P := Tryz.prog) (hC := clO_per M outs) (hA 3 (by decide)) rfl (d := 22) rfl rfl
    obtain ⟨A22, c22, rfl, hz22⟩ := hv22
    replace F := F.eP (hA 4 (by decide)) rfl (d := 23) rfl rfl (y_ld rfl rfl (S.lda (i := 1) rfl Tryz.isAgg27 Tryz.sizeOf27 rfl))
    exact pc F (vs := [.agg (actC u1 u2 t Ae env.length ce Ai ins.length ci Aa asks.length ca Ao outs.length co).toArray]) (c_f (cap := []) (vs := [.agg (actC u1 u2 t Ae env.length ce Ai ins.length ci Aa asks.length ca Ao outs.length co).toArray]) rfl rfl rfl Tryz.call53) rfl rfl (c_reader _ (hi.st S) (ha.st S) (ho.st S) hl) (fun v w2 h => rdO_of (hM ▸ hB.size) h)
   ·intro a w1 hB F hA
    have S0 := S
    replace S := S.call hB
    exact pe F (y_mm rfl) rfl rfl ((Below.refl _ _).alloc (Nat.le_refl _) _) (mapC_new _) (mapOwn_new _)
   have F := J.fr
   have E := EX.start J S
   have hle' := S.bel.size
   replace S := S.call J.bel
   replace F := F.eP (J.at 0 rfl) rfl (d := 19) rfl rfl (y_mv rfl rfl)
   replace F := F.eP (J.at 1 rfl) rfl (d := 20) rfl rfl (y_fa rfl rfl fi27_5)
   replace F := F.eP (J.at 2 rfl) rfl (d := 21) rfl rfl (y_ld rfl rfl (S.ld (i := 1) rfl rfl Tryz.isAgg25))
   obtain ⟨v22, F, hv22, ho22⟩ := F.eC (P := Tryz.prog) (hC := clO_per M outs) (J.at 3 rfl) rfl (d := 22) rfl rfl
   obtain ⟨A22, c22, rfl, hz22⟩ := hv22
   replace F := F.eP (J.at 4 rfl) rfl (d := 23) rfl rfl (y_ld rfl rfl (S.lda (i := 1) rfl Tryz.isAgg27 Tryz.sizeOf27 rfl))
   obtain ⟨v24, F, hv24, ho24⟩ := F.eC (P := Tryz.prog) (hC := rdO_per M outs ins asks) (J.at 5 rfl) rfl (d := 24) rfl rfl
   obtain ⟨bo, bi, ba, rfl, hz24⟩ := hv24
   obtain ⟨v25, F, hv25, ho25⟩ := F.eC (P := Tryz.prog) (hC := mapC_per) (J.at 6 rfl) rfl (d := 25) rfl rfl
   obtain ⟨mb, rfl, hmb⟩ := hv25
   have E := EX.mapE J hle' E 6 rfl rfl (d := 25) rfl hmb ho25
   obtain ⟨L, hlL, ⟨hfo, ⟨hbo, hbi⟩, hba⟩, S⟩ := EX.fzJ1 hle' J.bel.size E (i := 5) rfl ((fzIn_le (hM ▸ Nat.le_refl _) hz22).and (fzIn_le (hM ▸ Nat.le_refl _) hz24) (fun _ _ h k => k.le h) (fun _ _ h k => ⟨⟨k.1.1.le h, k.1.2.le h⟩, k.2.le h⟩)) (fun _ _ h k => ⟨k.1.le h, ⟨⟨k.2.1.1.le h, k.2.1.2.le h⟩, k.2.2.le h⟩⟩) (d := 25) rfl ho25 hmb
   clear E J
   refine dv F (y_bd rfl rfl (bd114)) rfl rfl rfl fun a F => ?_
   refine dbx F S rfl rfl rfl rfl rfl rfl fun a w b27 F S => ?_
   refine dv F (y_as rfl rfl) rfl rfl rfl fun a F => ?_
   refine dn ?_
   refine tn <| hK6 _ _ ?_
   refine sq fun K7 hK7 => ?_
   replace S : St w0 _ (BLs ⟨C, b27, mb, outs, ins, asks, A22, c22, bo, bi, ba⟩ A c vals L sr (BS.start cs) none 0 mr) := (ow_nil S 52 34).pick [2, 3, 4, 5, 6, 9, 8, 10, 0] _ ⟨rfl, rfl, rfl, rfl, rfl, rfl, rfl, rfl, rfl, trivial⟩ rfl
   refine rg ?_
   refine dv F (y_mv rfl rfl) rfl rfl rfl fun a F => ?_
   refine dc F (c_f rfl rfl rfl Tryz.call54) rfl rfl rfl (c_bgoOn (B := ⟨C, b27, mb, outs, ins, asks, A22, c22, bo, bi, ba⟩) (β0 := BS.start cs) (H0 := K) G (by rw [hCe]; exact hen) (by rw [hCe]; exact hez) hl hz ⟨inv_start hr_, fun _ => by show ¬ (0 : Int) = 2; decide⟩ ⟨sb, sr, A, c, vals, L, none, 0, hsr, hlL, hE.le hlL, hv.mono fun _ _ _ h => h.le hlL, ⟨hfo, hbo, hbi, hba⟩, S⟩) fun a v w' hr F => ?_
   have hB := hr
   refine dn ?_
   refine tn <| hK7 _ _ ?_
   refine sq fun K8 hK8 => ?_
   refine rg ?_
   refine dv F (y_mv rfl rfl) rfl rfl rfl fun a F => ?_
   refine dv F (y_as rfl rfl) rfl rfl rfl fun a F => ?_
   refine dv F (y_as rfl rfl) rfl rfl rfl fun a F => ?_
   refine dn ?_
   refine tn <| hK8 _ _ ?_
   refine wp_ret ?_
   refine ?_
   exact rt2 F rfl rfl rfl (by rw [hr_]; exact ⟨_, K, hCe, rfl, rfl, rfl, rfl, hB⟩)
 ·have F := J.fr
  obtain rfl := Option.some.inj hom
  obtain rfl := Option.some.inj hof
  have E := EX.start J S
  have hle' := S.bel.size
  replace S := S.call J.bel
  replace F := F.eP (J.atF 0 rfl) rfl (d := 8) rfl rfl (y_fa rfl rfl fi27_1)
  replace F := F.eP (J.atF 1 rfl) rfl (d := 9) rfl rfl (y_ld rfl rfl (S.ld (i := 1) rfl rfl Tryz.isAgg9))
  replace F := F.eP (J.atF 2 rfl) rfl (d := 10) rfl rfl (y_fa rfl rfl fi27_2)
  replace F := F.eP (J.atF 3 rfl) rfl (d := 11) rfl rfl (y_ld rfl rfl (S.ld (i := 1) rfl rfl Tryz.isAgg24))
  obtain ⟨v12, F, hv12, ho12⟩ := F.eC (P := Tryz.prog) (hC := clE_per env) (J.atF 4 rfl) rfl (d := 12) rfl rfl
  obtain ⟨A12, c12, rfl, hA12⟩ := hv12
  obtain ⟨v13, F, hv13, ho13⟩ := F.eC (P := Tryz.prog) (hC := startT_per N env (commandsE t)) (J.atF 5 rfl) rfl (d := 13) rfl rfl
  obtain ⟨wx, pv_, ev_, hwx, rfl, hst⟩ := hv13
  replace F := F.eP (J.atF 6 rfl) rfl (d := 7) rfl rfl (y_mv rfl rfl)
  replace F := F.eP (J.atF 7 rfl) rfl (d := 14) rfl rfl (y_ex rfl rfl rfl)
  replace S := E.st
  clear E J
  refine dv F (y_as rfl rfl) rfl rfl rfl fun a F => ?_
  refine dv F (y_ex rfl rfl rfl) rfl rfl rfl fun a F => ?_
  refine dv F (y_as rfl rfl) rfl rfl rfl fun a F => ?_
  refine dn ?_
  refine tn <| hK2 _ _ ?_
  refine sq fun K9 hK9 => ?_
  refine sq fun K10 hK10 => ?_
  refine rg ?_
  refine dv F (y_mv rfl rfl) rfl rfl rfl fun a F => ?_
  refine dv F (y_in rfl rfl rfl) rfl rfl rfl fun a F => ?_
  refine dn ?_
  refine tn <| hK10 _ _ ?_
  refine cb F rfl (fun h2 => ?_) (fun h2 => ?_)
  ·have g2 := h2
   try simp only [zi1, zi2, zi3, zi4, zi5, zi6, zi7, zi8] at g2
   refine sq fun K11 hK11 => ?_
   obtain ⟨n_, hr_, rfl, -⟩ := start_bad hst (by first | simpa using g1 | simpa using g2)
   refine rg ?_
   refine dv F (y_mv rfl rfl) rfl rfl rfl fun a F => ?_
   refine dv F (y_as rfl rfl) rfl rfl rfl fun a F => ?_
   refine dv F (y_as rfl rfl) rfl rfl rfl fun a F => ?_
   refine dn ?_
   refine tn <| hK11 _ _ ?_
   refine wp_ret ?_
   refine tr <| ?_
   exact rt2 F rfl rfl rfl (by rw [hr_]; exact ⟨rfl, S.pick [0] _ ⟨rfl, trivial⟩ rfl⟩)
  ·have g2 := h2
   try simp only [zi1, zi2, zi3, zi4, zi5, zi6, zi7, zi8] at g2
   refine wp_skip ?_
   refine tn <| hK9 _ _ ?_
   refine sq fun K12 hK12 => ?_
   obtain ⟨cs, C, H, hr_, hCe, rfl, sb, sr, hsr, A, c, vals, K, hle, hE, hv, T⟩ := start_ok hst (by first | simpa using g1 | simpa using g2)
   replace S := S.join S00 (hN ▸ hwx) T
   obtain ⟨M, hM⟩ := S.size
   refine rp [.p, .p, .p, .c (fun _ => []) (clO M outs) (clO_per _ _), .p, .c (fun _ => []) (rdO M outs ins asks) (rdO_per _ _ _ _), .c mapOwn mapC mapC_per] 7 [[], [], [1], [1, 2], [], [1, 2, 3, 4], []] [(0, _), (1, _), (2, _), (3, _), (4, _), (5, _), (7, _), (8, _), (9, _), (10, _), (11, _), (12, _), (13, _), (14, _), (15, _), (16, _), (17, _)] F ⟨rfl, rfl, rfl, rfl, rfl, rfl, rfl, rfl, rfl, rfl, rfl, rfl, rfl, rfl, rfl, rfl, rfl, trivial⟩ Tryz.mixed (by kernel_rfl) rfl (.inr ⟨by decide, by kernel_rfl, by kernel_rfl⟩) (by kernel_rfl) ⟨?_, ?_, ?_, ?_, ?_, ?_, ?_, trivial⟩ fun a w1 J => ?_
   ·intro a w1 hB F hA
    have S0 := S
    replace S := S.call hB
    exact pv F (fun w2 hB2 => have S := S.call hB2; y_mv rfl rfl) rfl rfl rfl (by decide)
   ·intro a w1 hB F hA
    have S0 := S
    replace S := S.call hB
    exact pv F (fun w2 hB2 => have S := S.call hB2; y_fa rfl rfl fi27_5) rfl rfl rfl (by decide)
   ·intro a w1 hB F hA
    have S0 := S
    replace S := S.call hB
    replace F := F.eP (hA 1 (by decide)) rfl (d := 20) rfl rfl (y_fa rfl rfl fi27_5)
    exact pv F (fun w2 hB2 => have S := S.call hB2; y_ld rfl rfl (S.ld (i := 1) rfl rfl Tryz.isAgg25)) rfl rfl rfl (by decide)
   ·intro a w1 hB F hA
    have S0 := S
    replace S := S.call hB
    replace F := F.eP (hA 1 (by decide)) rfl (d := 20) rfl rfl (y_fa rfl rfl fi27_5)
    replace F := F.eP (hA 2 (by decide)) rfl (d := 21) rfl rfl (y_ld rfl rfl (S.ld (i := 1) rfl rfl Tryz.isAgg25))
    exact pc F (vs := [.slice Ao outs.length co]) (c_f (cap := []) (vs := [.slice Ao outs.length co]) rfl rfl rfl Tryz.call52) rfl rfl (c_CloneS _ (ho.st S) (by omega)) (fun v w2 h => clO_of (hM ▸ hB.size) h)
   ·intro a w1 hB F hA
    have S0 := S
    replace S := S.call hB
    exact pv F (fun w2 hB2 => have S := S.call hB2; y_ld rfl rfl (S.lda (i := 1) rfl Tryz.isAgg27 Tryz.sizeOf27 rfl)) rfl rfl rfl (by decide)
   ·intro a w1 hB F hA
    have S0 := S
    replace S := S.call hB
    replace F := F.eP (hA 1 (by decide)) rfl (d := 20) rfl rfl (y_fa rfl rfl fi27_5)
    replace F := F.eP (hA 2 (by decide)) rfl (d := 21) rfl rfl (y_ld rfl rfl (S.ld (i := 1) rfl rfl Tryz.isAgg25))
    obtain ⟨v22, F, hv22, ho22⟩ := F.eC (P := Tryz.prog) (hC := clO_per M outs) (hA 3 (by decide)) rfl (d := 22) rfl rfl
    obtain ⟨A22, c22, rfl, hz22⟩ := hv22
    replace F := F.eP (hA 4 (by decide)) rfl (d := 23) rfl rfl (y_ld rfl rfl (S.lda (i := 1) rfl Tryz.isAgg27 Tryz.sizeOf27 rfl))
    exact pc F (vs := [.agg (actC u1 u2 t Ae env.length ce Ai ins.length ci Aa asks.length ca Ao outs.length co).toArray]) (c_f (cap := []) (vs := [.agg (actC u1 u2 t Ae env.length ce Ai ins.length ci Aa asks.length ca Ao outs.length co).toArray]) rfl rfl rfl Tryz.call53) rfl rfl (c_reader _ (hi.st S) (ha.st S) (ho.st S) hl) (fun v w2 h => rdO_of (hM ▸ hB.size) h)
   ·intro a w1 hB F hA
    have S0 := S
    replace S := S.call hB
    exact pe F (y_mm rfl) rfl rfl ((Below.refl _ _).alloc (Nat.le_refl _) _) (mapC_new _) (mapOwn_new _)
   have F := J.fr
   have E := EX.start J S
   have hle' := S.bel.size
   replace S := S.call J.bel
   replace F := F.eP (J.at 0 rfl) rfl (d := 19) rfl rfl (y_mv rfl rfl)
   replace F := F.eP (J.at 1 rfl) rfl (d := 20) rfl rfl (y_fa rfl rfl fi27_5)
   replace F := F.eP (J.at 2 rfl) rfl (d := 21) rfl rfl (y_ld rfl rfl (S.ld (i := 1) rfl rfl Tryz.isAgg25))
   obtain ⟨v22, F, hv22, ho22⟩ := F.eC (P := Tryz.prog) (hC := clO_per M outs) (J.at 3 rfl) rfl (d := 22) rfl rfl
   obtain ⟨A22, c22, rfl, hz22⟩ := hv22
   replace F := F.eP (J.at 4 rfl) rfl (d := 23) rfl rfl (y_ld rfl rfl (S.lda (i := 1) rfl Tryz.isAgg27 Tryz.sizeOf27 rfl))
   obtain ⟨v24, F, hv24, ho24⟩ := F.eC (P := Tryz.prog) (hC := rdO_per M outs ins asks) (J.at 5 rfl) rfl (d := 24) rfl rfl
   obtain ⟨bo, bi, ba, rfl, hz24⟩ := hv24
   obtain ⟨v25, F, hv25, ho25⟩ := F.eC (P := Tryz.prog) (hC := mapC_per) (J.at 6 rfl) rfl (d := 25) rfl rfl
   obtain ⟨mb, rfl, hmb⟩ := hv25
   have E := EX.mapE J hle' E 6 rfl rfl (d := 25) rfl hmb ho25
   obtain ⟨L, hlL, ⟨hfo, ⟨hbo, hbi⟩, hba⟩, S⟩ := EX.fzJ1 hle' J.bel.size E (i := 5) rfl ((fzIn_le (hM ▸ Nat.le_refl _) hz22).and (fzIn_le (hM ▸ Nat.le_refl _) hz24) (fun _ _ h k => k.le h) (fun _ _ h k => ⟨⟨k.1.1.le h, k.1.2.le h⟩, k.2.le h⟩)) (fun _ _ h k => ⟨k.1.le h, ⟨⟨k.2.1.1.le h, k.2.1.2.le h⟩, k.2.2.le h⟩⟩) (d := 25) rfl ho25 hmb
   clear E J
   refine dv F (y_bd rfl rfl (bd114)) rfl rfl rfl fun a F => ?_
   refine dbx F S rfl rfl rfl rfl rfl rfl fun a w b27 F S => ?_
   refine dv F (y_as rfl rfl) rfl rfl rfl fun a F => ?_
   refine dn ?_
   refine tn <| hK12 _ _ ?_
   refine sq fun K13 hK13 => ?_
   replace S : St w0 _ (BLs ⟨C, b27, mb, outs, ins, asks, A22, c22, bo, bi, ba⟩ A c vals L sr (BS.start cs) none 0 mr) := (ow_nil S 52 34).pick [2, 3, 4, 5, 6, 9, 8, 10, 0] _ ⟨rfl, rfl, rfl, rfl, rfl, rfl, rfl, rfl, rfl, trivial⟩ rfl
   refine rg ?_
   refine dv F (y_mv rfl rfl) rfl rfl rfl fun a F => ?_
   refine dc F (c_f rfl rfl rfl Tryz.call54) rfl rfl rfl (c_bgoOn (B := ⟨C, b27, mb, outs, ins, asks, A22, c22, bo, bi, ba⟩) (β0 := BS.start cs) (H0 := K) G (by rw [hCe]; exact hen) (by rw [hCe]; exact hez) hl hz ⟨inv_start hr_, fun _ => by show ¬ (0 : Int) = 2; decide⟩ ⟨sb, sr, A, c, vals, L, none, 0, hsr, hlL, hE.le hlL, hv.mono fun _ _ _ h => h.le hlL, ⟨hfo, hbo, hbi, hba⟩, S⟩) fun a v w' hr F => ?_
   have hB := hr
   refine dn ?_
   refine tn <| hK13 _ _ ?_
   refine sq fun K14 hK14 => ?_
   refine rg ?_
   refine dv F (y_mv rfl rfl) rfl rfl rfl fun a F => ?_
   refine dv F (y_as rfl rfl) rfl rfl rfl fun a F => ?_
   refine dv F (y_as rfl rfl) rfl rfl rfl fun a F => ?_
   refine dn ?_
   refine tn <| hK14 _ _ ?_
   refine wp_ret ?_
   refine ?_
   exact rt2 F rfl rfl rfl (by rw [hr_]; exact ⟨_, K, hCe, rfl, rfl, rfl, rfl, hB⟩)
end Go.Proofs.YtgcmddaibnimjaaGreatDoor
namespace Go.Proofs.YtgcmddaibnimjaaGreatDoor
open Go.RowKit Go.Eng
section
variable {env : List (ByteArray × ByteArray)}
theorem add_known (σ : RS) (s : ByteArray) : (σ.add s).known = σ.known := by unfold RS.add; split <;> rfl
theorem then_known (σ : RS) (t : Th) (k : Kn) : (σ.then_ t k).known = σ.known := by
 unfold RS.then_
 cases t <;> dsimp only <;> split <;> first | rfl | exact add_known _ _
theorem ask_known (σ : RS) (p : ByteArray) (t : Th) : (σ.ask p t).known = σ.known := by
 unfold RS.ask
 split
 ·exact then_known _ _ _
 ·split <;> rfl
theorem line_known (σ : RS) (s w : ByteArray) : (σ.line s w).known = σ.known := by
 unfold RS.line
 split
 ·exact add_known _ _
 split
 ·rfl
 ·exact ask_known _ _ _
theorem setLines_known (σ : RS) (l : List ByteArray) : (σ.setLines l).known = σ.known := add_known _ _
theorem turn_known (σ : RS) (n a : ByteArray) (l : List ByteArray) : (σ.turn n a l).known = σ.known := by
 unfold RS.turn
 repeat' split
 all_goals first | exact setLines_known _ _ | rfl
theorem env_known (σ : RS) (a : ByteArray) : (σ.envC env a).known = σ.known := by
 unfold RS.envC
 split
 ·rfl
 ·exact add_known _ _
theorem do_known (σ : RS) (c : Cmd) : (σ.doC env c).known = σ.known := by
 unfold RS.doC
 repeat' split
 all_goals first | exact ask_known _ _ _ | exact add_known _ _ | exact env_known _ _ | exact turn_known _ _ _ _ | rfl | (unfold RS.needC; split <;> rfl)
theorem run_known (σ : RS) : ∀ t : Task, (RS.run env σ t).known = σ.known
 | .cmd c => do_known σ c
 | .got p t => then_known _ _ _
 | .line s w => line_known _ _ _
theorem step_known (σ : RS) : (σ.step env).known = σ.known := by
 unfold RS.step
 split
 ·rfl
 ·exact run_known _ _
theorem settleF_known : ∀ (n : Nat) (σ : RS), (settleF env n σ).known = σ.known
 | 0, σ => rfl
 | n + 1, σ => by
  unfold settleF
  split
  ·rfl
  ·exact (settleF_known n _).trans (step_known σ)
theorem next_known (σ : RS) : (σ.next env).2.known = σ.known := by
 unfold RS.next
 split
 ·exact settleF_known _ _
 ·dsimp only
  split
  ·exact settleF_known _ _
  ·exact settleF_known _ _
end
structure Oc where
 kind : Int
 why : Int
 outs : List (ByteArray × ByteArray)
 reads : List Rd
def oc0 : Oc := ⟨0, 0, [], []⟩
def BS.files (β : BS) : List (ByteArray × ByteArray) := (sortS (β.wrote.map (·.1))).map fun p => (p, (wfind β.wrote p).getD eB)
def BS.out (β : BS) : Oc := if β.over = true then (if β.why = 0 then ⟨1, 0, β.files, β.reads⟩ else ⟨2, β.why, [], β.reads⟩) else oc0
def BS.feed (B : BC) (known : List Kn) : Nat → BS → BS
 | 0, β => β
 | n + 1, β => if β.over = true then β else match kfind known β.asks with
  | none => β
  | some k => BS.feed B known n (β.give B k).2
theorem out_wait {β : BS} (h : β.over = false) : β.out = oc0 := if_neg (by simp [h])
theorem out_end {β : BS} (h : β.over = true) (hw : β.why = 0) : β.out = ⟨1, 0, β.files, β.reads⟩ := (if_pos h).trans (if_pos hw)
theorem out_fail {β : BS} (h : β.over = true) (hw : ¬ β.why = 0) : β.out = ⟨2, β.why, [], β.reads⟩ := (if_pos h).trans (if_neg hw)
section
variable {B : BC}
theorem feed_over {known : List Kn} {β : BS} (h : β.over = true) : ∀ n, β.feed B known n = β
 | 0 => rfl
 | n + 1 => if_pos h
theorem feed_none {known : List Kn} {β : BS} (ho : β.over = false) (h : kfind known β.asks = none) : ∀ n, β.feed B known n = β
 | 0 => rfl
 | n + 1 => by unfold BS.feed; rw [if_neg (by simp [ho]), h]
theorem feed_some {known : List Kn} {β : BS} {k : Kn} (ho : β.over = false) (h : kfind known β.asks = some k) (n : Nat) : β.feed B known (n + 1) = (β.give B k).2.feed B known n := by
 show (if β.over = true then β else _) = _
 rw [if_neg (by simp [ho]), h]
theorem go_pres (P : BS → Prop) (hP : ∀ β, BI β → β.over = false → P β → P (β.turn B).1) : ∀ (n : Nat) (β : BS), bm β ≤ n → BI β → P β → P (β.go B) := by
 intro n
 induction n with
 | zero =>
  intro β hm hI h
  have ho : β.over = true := by
   unfold bm at hm
   split at hm
   ·assumption
   ·omega
  rw [go_over ho]; exact h
 | succ n ih =>
  intro β hm hI h
  cases ho : β.over with
  | true => rw [go_over ho]; exact h
  | false =>
   have ht0 := turn_ok (B := B) hI ho
   cases ht : (β.turn B).2 with
   | true => rw [go_stop ho ht]; exact hP β hI ho h
   | false =>
    have h3 := ht0.2.1 ht
    rw [← go_step hI ho ht]
    exact ih _ (by omega) ht0.1 (hP β hI ho h)
structure BJ (B : BC) (β : BS) : Prop where
 bi : BI β
 rd : β.reads = β.run.known.map sumRd
 wo : ∀ x ∈ β.wrote, (B.outs.any fun p => decide (x.1 = p)) = true
 nd : (β.wrote.map (·.1)).Nodup
 fi : β.over = true → β.why = 0 → ∀ p ∈ B.outs, (wfind β.wrote p).isSome = true
structure BOk (B : BC) (β : BS) : Prop where
 j : BJ B β
 wt : β.over = false → β.run.waits = true ∧ β.asks = β.run.asks
theorem wfind_none {l : List (ByteArray × ByteArray)} {p : ByteArray} (h : (wfind l p).isSome = false) : ∀ x ∈ l, x.1 ≠ p := fun x hx e => by
 unfold wfind at h
 rw [Option.isSome_map] at h
 cases hf : l.find? (fun x => decide (x.1 = p)) with
 | none => exact absurd e (by simpa using List.find?_eq_none.1 hf x hx)
 | some y => rw [hf] at h; cases h
theorem bj_over {β : BS} (h : BJ B β) {γ : BS} (hI : BI γ) (hr : γ.run.known = β.run.known) (h1 : γ.reads = β.reads) (h2 : γ.wrote = β.wrote) (h3 : γ.over = true → γ.why = 0 → ∀ p ∈ B.outs, (wfind γ.wrote p).isSome = true) : BJ B γ :=
 ⟨hI, by rw [h1, hr]; exact h.rd, by rw [h2]; exact h.wo, by rw [h2]; exact h.nd, h3⟩
theorem bj_write {β γ : BS} {p d : ByteArray} (h : BJ B β) (hg : γ.wrote = β.wrote ∧ γ.reads = β.reads ∧ γ.over = false ∧ γ.run.known = β.run.known) (hI : BI (γ.write B.outs p d)) : BJ B (γ.write B.outs p d) := by
 obtain ⟨hw, hr, ho, hk⟩ := hg
 by_cases hb : (wfind γ.wrote p).isSome = true ∨ (B.outs.any fun x => decide (p = x)) = false
 ·rw [write_bad hb] at hI ⊢
  exact bj_over h hI hk hr hw fun _ h0 => absurd h0 (by show ¬ (14 : Int) = 0; decide)
 ·have h1 : (wfind γ.wrote p).isSome = false := by
   cases hc : (wfind γ.wrote p).isSome
   ·rfl
   ·exact absurd (.inl hc) hb
  have h2 : (B.outs.any fun x => decide (p = x)) = true := by
   cases hc : (B.outs.any fun x => decide (p = x))
   ·exact absurd (.inr hc) hb
   ·rfl
  rw [write_ok h1 h2] at hI ⊢
  refine ⟨hI, by show γ.reads = γ.run.known.map sumRd; rw [hr, hk]; exact h.rd, fun x hx => ?_, ?_, fun h3 => (by rw [show γ.over = true from h3] at ho; cases ho)⟩
  ·rcases List.mem_append.1 hx with hx | hx
   ·exact h.wo x (hw ▸ hx)
   ·rw [List.mem_singleton] at hx; subst hx; exact h2
  ·show ((γ.wrote ++ [(p, d)]).map (·.1)).Nodup
   rw [List.map_append, List.nodup_append]
   refine ⟨by rw [hw]; exact h.nd, by simp, fun a ha b hb => ?_⟩
   have hb' : b = p := by simpa using hb
   subst hb'
   obtain ⟨y, hy, rfl⟩ := List.mem_map.1 ha
   exact wfind_none h1 y hy
theorem turn_bj {β : BS} (h : BJ B β) (ho : β.over = false) : BJ B (β.turn B).1 := by
 have hI := (turn_ok (B := B) h.bi ho).1
 have hk : (β.run.next B.C.env).2.known = β.run.known := next_known _
 have hnk := next_kinds (env := B.C.env) h.bi.inv
 by_cases h1 : (β.run.next B.C.env).1.kind = 1
 ·cases hm : mayP B.outs B.ins B.asks (β.run.next B.C.env).1.path with
  | true => rw [turn_may h1 hm] at hI ⊢; exact bj_over h hI hk rfl rfl fun h3 => (by rw [show β.over = true from h3] at ho; cases ho)
  | false => rw [turn_no h1 hm] at hI ⊢; exact bj_over h hI hk rfl rfl fun _ h0 => absurd h0 (by show ¬ (13 : Int) = 0; decide)
 by_cases h2 : (β.run.next B.C.env).1.kind = 2
 ·rw [turn_write h1 h2] at hI ⊢
  exact bj_write h ⟨rfl, rfl, ho, hk⟩ hI
 by_cases h3 : (β.run.next B.C.env).1.kind = 3
 ·cases h4 : (B.outs.any fun p => !(wfind β.wrote p).isSome) with
  | true => rw [turn_end_bad h1 h2 h3 h4] at hI ⊢; exact bj_over h hI hk rfl rfl fun _ h0 => absurd h0 (by show ¬ (14 : Int) = 0; decide)
  | false =>
   rw [turn_end h1 h2 h3 h4] at hI ⊢
   refine bj_over h hI hk rfl rfl fun _ _ p hp => ?_
   have := List.any_eq_false.1 h4 p hp
   cases hq : (wfind β.wrote p).isSome
   ·rw [hq] at this; exact absurd rfl this
   ·rfl
 ·rw [turn_fail h1 h2 h3] at hI ⊢
  refine bj_over h hI hk rfl rfl fun _ h0 => ?_
  rcases hnk with h5 | h5
  ·exact absurd h5.1 h1
  ·rcases h5.2 with h6 | h6 | h6
   ·exact absurd h6 h2
   ·exact absurd h6 h3
   ·exact absurd h0 h6.2
theorem go_ok {β : BS} (h : BJ B β) : BOk B (β.go B) :=
 have hj := go_pres (B := B) (BJ B) (fun β _ ho hj => turn_bj hj ho) _ β (Nat.le_refl _) h.bi h
 ⟨hj, fun ho => by
  rcases (go_ends (B := B) _ β (Nat.le_refl _) h.bi).2 with h1 | h1
  ·rw [ho] at h1; cases h1
  ·exact h1.2⟩
theorem turn_reads (β : BS) : (β.turn B).1.reads = β.reads := by
 unfold BS.turn
 dsimp only
 split
 ·split <;> rfl
 split
 ·unfold BS.write; split <;> rfl
 split
 ·unfold BS.fin; split <;> rfl
 ·rfl
theorem go_reads {β : BS} (h : BI β) : (β.go B).reads = β.reads :=
 go_pres (B := B) (fun γ => γ.reads = β.reads) (fun γ _ _ hg => (turn_reads γ).trans hg) _ β (Nat.le_refl _) h rfl
theorem start_bj {text : ByteArray} {cs : List Cmd} (h : commandsE text = .inr cs) : BJ B (BS.start cs) :=
 ⟨⟨inv_start h, fun _ => by show ¬ (0 : Int) = 2; decide⟩, rfl, fun x hx => (by cases hx), List.nodup_nil, fun h => (by cases h)⟩
theorem start_ok' {text : ByteArray} {cs : List Cmd} (h : commandsE text = .inr cs) : BOk B ((BS.start cs).go B) := go_ok (start_bj h)
def KOk (k : Kn) : Prop := k.is = true → k.data.size ≤ 65536
theorem give_take {β : BS} {k : Kn} (h : BOk B β) (ho : β.over = false) (hp : k.path = β.asks) (hs : KOk k) : (β.give B k).1 = 0 ∧ BOk B (β.give B k).2 ∧ (β.give B k).2.reads = β.reads ++ [sumRd k] := by
 obtain ⟨hw, ha⟩ := h.wt ho
 have hg : β.run.give B.C.env k = (0, { β.run with known := β.run.known ++ [k], asks := eB, waits := false }) := give_ok (settle_halt (.inr hw)) hw (hp.trans ha) hs
 have e := give_go (B := B) ho hp (fun h => by have := hs h.1; omega) (by rw [hg])
 have hI : BI { β with run := (β.run.give B.C.env k).2, reads := β.reads ++ [sumRd k] } := ⟨give_inv h.j.bi.inv k, fun _ => give_now h.j.bi.inv (by rw [hg])⟩
 have hj : BJ B { β with run := (β.run.give B.C.env k).2, reads := β.reads ++ [sumRd k] } :=
  ⟨hI, by show β.reads ++ [sumRd k] = (β.run.give B.C.env k).2.known.map sumRd; rw [hg, h.j.rd]; simp, h.j.wo, h.j.nd, fun h3 => (by rw [show β.over = true from h3] at ho; cases ho)⟩
 rw [e]
 exact ⟨rfl, go_ok hj, go_reads hI⟩
theorem reads_le {β : BS} (h : BJ B β) : β.reads.length ≤ 500 := by rw [h.rd, List.length_map]; exact h.bi.inv.kn
theorem kfind_ok {l : List Kn} (hk : ∀ k ∈ l, KOk k) {p : ByteArray} {k : Kn} (h : kfind l p = some k) : KOk k ∧ k.path = p := ⟨hk k (kfind_mem h).1, (kfind_mem h).2⟩
theorem feed_ok {known : List Kn} (hk : ∀ k ∈ known, KOk k) : ∀ (n : Nat) (β : BS), BOk B β → BOk B (β.feed B known n) ∧ (501 ≤ β.reads.length + n → (β.feed B known n).over = true ∨ kfind known (β.feed B known n).asks = none)
 | 0, β, h => ⟨h, fun hn => by have := reads_le h.j; omega⟩
 | n + 1, β, h => by
  cases ho : β.over with
  | true => rw [feed_over ho]; exact ⟨h, fun _ => .inl ho⟩
  | false =>
   cases hf : kfind known β.asks with
   | none => rw [feed_none ho hf]; exact ⟨h, fun _ => .inr hf⟩
   | some k =>
    obtain ⟨h1, h2⟩ := kfind_ok hk hf
    obtain ⟨h3, h4, h5⟩ := give_take h ho h2 h1
    rw [feed_some ho hf]
    obtain ⟨h6, h7⟩ := feed_ok hk n _ h4
    refine ⟨h6, fun hn => h7 ?_⟩
    rw [h5, List.length_append, List.length_cons, List.length_nil]; omega
end
end Go.Proofs.YtgcmddaibnimjaaGreatDoor
namespace Go.Proofs.YtgcmddaibnimjaaGreatDoor
open Go.RowKit Go.Eng Go.Maps Go.ChangeMaps Go.MapKept Go.WideShapes
open Go.WideElems (Fit rd rg pl rd_val rd_mk rg_of)
def R0 : Value → Option (DataW Unit × List MemPlace) := fun _ => some (.nil, [])
set_option maxRecDepth 8000
theorem rd_str (x : MapEntry) (s : ByteArray) (h : x.key = .string s) (hs : s.size ≤ maxLen) : rd Tryz.prog 9 R0 x = some (Lit.string s.data.toList, DataW.nil) := by
 obtain ⟨k, v, b⟩ := x
 subst h
 exact rd_mk (P := Tryz.prog) (k := 9) (R := R0) (yv := (DataW.nil, [])) (show keyOf Tryz.prog 9 (.string s) = some (Lit.string s.data.toList) from by simp [keyOf, Tryz.underlying9, mapKey]; exact hs) rfl
theorem mpe_own {w : World} {b : Nat} {l : List (ByteArray × Value)} (h : MpeOk w b l) (hl : l.length ≤ maxLen) (hk : ∀ x ∈ l, x.1.size ≤ maxLen) :
  ∃ D : DataW Unit, w.ownsMap Tryz.prog 9 R0 b l.length D ∧ Maps.size D = l.length ∧ (strKeys D).Perm (l.map fun x => x.1.data.toList) := by
 obtain ⟨es, clock, hb, ⟨he, hnd⟩, hbo⟩ := h
 have hlen : es.size = l.length := by have := congrArg List.length he; simpa using this
 have hkey : ∀ x ∈ es.toList, ∃ s : ByteArray, x.key = .string s ∧ s.size ≤ maxLen := fun x hx => by
  have h1 : (x.key, x.val) ∈ es.toList.map (fun e => (e.key, e.val)) := List.mem_map_of_mem hx
  rw [he] at h1
  obtain ⟨p, hp, hpe⟩ := List.mem_map.1 h1
  exact ⟨p.1, (congrArg Prod.fst hpe).symm, hk p hp⟩
 have hkeys : es.toList.map (·.key) = l.map (fun p => Value.string p.1) := by
  have := congrArg (List.map Prod.fst) he
  simpa [List.map_map, Function.comp_def] using this
 refine ⟨.map ((es.toList.map (rg Tryz.prog 9 R0)).foldr DataW.insert []), ⟨es, clock, hb, ⟨by omega, ⟨hbo.1, hbo.2, ?_⟩, fun x hx => ?_⟩, by omega, rfl⟩, ?_, ?_⟩
 ·rw [hkeys]
  have : l.map (fun p => Value.string p.1) = (l.map (·.1)).map Value.string := by simp
  rw [this]
  exact List.pairwise_map.2 (hnd.imp fun h e => h (by cases e; rfl))
 ·obtain ⟨s, h1, h2⟩ := hkey x hx
  exact ⟨_, rd_str x s h1 h2⟩
 ·rw [Maps.size_eq, (sorted_perm _).length_eq]; simpa using hlen
 ·refine ((sorted_perm _).map _).trans ?_
  have : (es.toList.map (rg Tryz.prog 9 R0)).map (fun p => strOf p.1) = l.map fun x => x.1.data.toList := by
   rw [List.map_map]
   have h3 : (l.map (fun p => Value.string p.1)).map (fun v => match v with | .string s => s.data.toList | _ => []) = l.map fun x => x.1.data.toList := by
    rw [List.map_map]; rfl
   rw [← h3, ← hkeys, List.map_map]
   refine List.map_congr_left fun x hx => ?_
   obtain ⟨s, h1, h2⟩ := hkey x hx
   exact (congrArg (fun y : Lit × DataW Unit => strOf y.1) (rg_of (rd_str x s h1 h2))).trans (congrArg (fun v : Value => match v with | .string s => s.data.toList | _ => []) h1.symm)
  rw [this]
end Go.Proofs.YtgcmddaibnimjaaGreatDoor
namespace Go.Proofs.YtgcmddaibnimjaaGreatDoor
open Go.RowKit Go.Eng Go.Maps
theorem c_keys (mb : Option Nat) (w : World) : Calls Tryz.prog 68 [.map mb].toArray w (Ret fun v w' => v = .func (.func 112) #[] [pt w.heap.size].toArray ∧ w' = w.alloc (.cells #[.map mb] 70)) :=
 ((callsIn_wide (n := 5)).1 (Tryz.maps_Keys_68 mb w)).mono fun e w' h => by
  obtain ⟨rfl, rfl⟩ := h
  exact ⟨rfl, rfl⟩
end Go.Proofs.YtgcmddaibnimjaaGreatDoor
namespace Go.Proofs.YtgcmddaibnimjaaGreatDoor
open Go.RowKit Go.Eng Go.Maps
theorem c_sortedKeys {w : World} {b : Nat} {l : List (ByteArray × Value)} (h : MpeOk w b l) (hl : l.length ≤ 1000000) (hk : ∀ x ∈ l, x.1.size ≤ maxLen) : Calls Tryz.prog 67 [.func (.func 112) #[] [pt w.heap.size].toArray].toArray (w.alloc (.cells #[.map (some b)] 70))
  (Ret fun v w' => ∃ ss : List (List UInt8), ss.Perm (l.map fun x => x.1.data.toList) ∧ w'.ownsRow (w.alloc (.cells #[.map (some b)] 70)).heap.size 9 1 v ss.length ((ss.mergeSort (fun x y => decide (x ≤ y))).map encStr) ∧ Below (w.alloc (.cells #[.map (some b)] 70)).heap.size (w.alloc (.cells #[.map (some b)] 70)) w') := by
 obtain ⟨D, h1, h2, h3⟩ := mpe_own h (by show _ ≤ 9223372036854775807; omega) hk
 refine ((callsIn_wide (n := 5)).1 (Tryz.slices_Sorted_keys_67_68 b l.length D R0 w h1 (by rw [h2]; show _ ≤ 9223372036854775807; omega) (by rw [h2]; omega))).mono fun e w' h => ?_
 obtain ⟨v, ss, rfl, hp, ho, _, hb⟩ := h
 exact ⟨ss, hp.trans h3, ho, hb⟩
end Go.Proofs.YtgcmddaibnimjaaGreatDoor
namespace Go.Proofs.YtgcmddaibnimjaaGreatDoor
open Go.RowKit Go.Eng Go.Maps
theorem sorted_cells {l : List ByteArray} {ss : List (List UInt8)} (h : ss.Perm (l.map tl)) : (ss.mergeSort (fun x y => decide (x ≤ y))).map encStr = (sortS l).flatMap encS ∧ ss.length = (sortS l).length := by
 have e : ss.mergeSort (fun x y => decide (x ≤ y)) = (l.map tl).mergeSort (fun x y => decide (x ≤ y)) := mergeSort_of_perm h
 refine ⟨?_, by rw [sortS_len, h.length_eq, List.length_map]⟩
 rw [e, sortS]
 generalize (l.map tl).mergeSort (fun x y => decide (x ≤ y)) = q
 induction q with
 | nil => rfl
 | cons x q ih => rw [List.map_cons, List.map_cons, List.flatMap_cons, ih]; rfl
end Go.Proofs.YtgcmddaibnimjaaGreatDoor
namespace Go.Proofs.YtgcmddaibnimjaaGreatDoor
open Go.RowKit Go.Eng Go.Maps
theorem newO_own {w0 w' : World} {e z n : Nat} {v : Value} {xs : List Value} (h : w'.ownsRow w0.heap.size e z v n xs) : NewO e z w0 w' v n xs := by
 obtain ⟨A, c, rfl, ho⟩ := OwOk.of_own h
 refine ⟨A, c, rfl, ho, fun k hk => ?_⟩
 rcases h.2 with ⟨h1, _⟩ | ⟨g, cap, cur, h1, hg, _⟩
 ·cases h1; cases hk
 ·cases h1
  have : g = k := by simpa [Value.ownBlock] using hk
  subst this; exact hg
theorem c_sorted {w : World} {b : Nat} {l : List (ByteArray × Value)} (h : MpeOk w b l) (hl : l.length ≤ 1000000) (hk : ∀ x ∈ l, x.1.size ≤ maxLen) : Calls Tryz.prog 67 [.func (.func 112) #[] [pt w.heap.size].toArray].toArray (w.alloc (.cells #[.map (some b)] 70))
  (Ret fun v w' => NewO 9 1 (w.alloc (.cells #[.map (some b)] 70)) w' v (sortS (l.map (·.1))).length ((sortS (l.map (·.1))).flatMap encS) ∧ Below (w.alloc (.cells #[.map (some b)] 70)).heap.size (w.alloc (.cells #[.map (some b)] 70)) w') :=
 (c_sortedKeys h hl hk).mono (Ret.mono fun v w' ⟨ss, hp, ho, hb⟩ => by
  have e := sorted_cells (l := l.map (·.1)) (ss := ss) (by rw [List.map_map]; exact hp)
  rw [e.1, e.2] at ho
  exact ⟨newO_own ho, hb⟩)
end Go.Proofs.YtgcmddaibnimjaaGreatDoor
namespace Go.Eng
open Go.RowKit
section
variable {P : Program} {n : Nat} {l : List (Nat × Value)} {a : Act} {w : World}
theorem rc2t {fn : Func} {R : Ending → World → Prop} {t ty u : Nat} {p : Addr} {v x : Value} (F : Fr n a l) (hr : fn.results = #[.cell t ty, .tmp u]) (hp : look l t = some (.pointer (some p))) (hx : look l u = some x) (hl : Ld P w ty p v) (h : R (.returned (.tuple #[v, x])) w) : bodyPost P fn R .ret a w := by
 refine bodyPost_ret (v := .tuple #[v, x]) ?_ F.defers h
 unfold Ld at hl
 simp [results, hr, Array.getD_eq_getD_getElem?, F.get t _ hp, F.get u _ hx, asAddr, hl]
theorem rc4t {fn : Func} {R : Ending → World → Prop} {t ty u q s : Nat} {p : Addr} {v x y z : Value} (F : Fr n a l) (hr : fn.results = #[.tmp u, .tmp q, .cell t ty, .tmp s]) (hu : look l u = some x) (hq : look l q = some y) (hp : look l t = some (.pointer (some p))) (hs : look l s = some z) (hl : Ld P w ty p v) (h : R (.returned (.tuple #[x, y, v, z])) w) : bodyPost P fn R .ret a w := by
 refine bodyPost_ret (v := .tuple #[x, y, v, z]) ?_ F.defers h
 unfold Ld at hl
 simp [results, hr, Array.getD_eq_getD_getElem?, F.get t _ hp, F.get u _ hu, F.get q _ hq, F.get s _ hs, asAddr, hl]
end
end Go.Eng
namespace Go.Proofs.YtgcmddaibnimjaaGreatDoor
open Go.RowKit Go.Eng
def ocZ : List Value := [.int .i64 0, .int .i64 0, .slice none 0 0, .slice none 0 0]
def encOc (o : Oc) (A1 : Option Addr) (c1 : Nat) (A2 : Option Addr) (c2 : Nat) : List Value := [.int .i64 o.kind, .int .i64 o.why, .slice A1 o.outs.length c1, .slice A2 o.reads.length c2]
theorem one41 (k y : Int) (A1 : Option Addr) (n1 c1 : Nat) (A2 : Option Addr) (n2 c2 : Nat) : ∀ u ∈ ([.int .i64 k, .int .i64 y, .slice A1 n1 c1, .slice A2 n2 c2] : List Value), u.oneCell' = true := all1 rfl
theorem bd41z (w : World) : (Instr.build 41 [].toArray).run Tryz.prog w = .ok (.agg ocZ.toArray) w := by kernel_rfl
theorem bd41 (y : Int) (A : Option Addr) (n c : Nat) (w : World) : (Instr.build 41 [(0, .int .i64 2), (1, .int .i64 y), (3, .slice A n c)].toArray).run Tryz.prog w = .ok (.agg [.int .i64 2, .int .i64 y, .slice none 0 0, .slice A n c].toArray) w := by kernel_rfl
theorem bdFile (p d : ByteArray) (w : World) : (Instr.build 66 [(0, .string p), (1, .string d)].toArray).run Tryz.prog w = .ok (.agg (encSt (p, d)).toArray) w := by kernel_rfl
theorem aiF : AI Tryz.prog 66 2 32 = true := by kernel_rfl
theorem wmap_keys (l : List (ByteArray × ByteArray)) : (wmap l).map (·.1) = l.map (·.1) := by simp [wmap, Function.comp_def]
theorem lk_file (l : List (ByteArray × ByteArray)) (p : ByteArray) : (getE (wmap l) p).getD (.string eB) = .string ((wfind l p).getD eB) := by
 rw [getE_wmap]; cases wfind l p <;> rfl
theorem files_len {β : BS} {i : Nat} (h : i ≤ (sortS (β.wrote.map (·.1))).length) : (β.files.take i).length = i := by
 rw [List.length_take, BS.files, List.length_map]; omega
theorem files_all (β : BS) : β.files.take (sortS (β.wrote.map (·.1))).length = β.files := List.take_of_length_le (by rw [BS.files, List.length_map]; exact Nat.le_refl _)
theorem files_take {β : BS} {i : Nat} (h : i < (sortS (β.wrote.map (·.1))).length) : (β.files.take i).flatMap encSt ++ encSt ((sortS (β.wrote.map (·.1)))[i], (wfind β.wrote (sortS (β.wrote.map (·.1)))[i]).getD eB) = (β.files.take (i + 1)).flatMap encSt := by
 have hl : i < β.files.length := by rw [BS.files, List.length_map]; exact h
 rw [List.take_succ_eq_append_getElem hl, List.flatMap_append]
 simp [BS.files]
theorem oc_end {β : BS} {i : Nat} {A1 A2 : Option Addr} {c1 c2 : Nat} (hw : β.why = 0) (hi : i = (sortS (β.wrote.map (·.1))).length) : (.agg [.int .i64 1, .int .i64 β.why, .slice A1 i c1, .slice A2 β.reads.length c2].toArray : Value) = .agg (encOc ⟨1, 0, β.files, β.reads⟩ A1 c1 A2 c2).toArray := by
 rw [encOc, hw, hi]
 simp [BS.files]
theorem fi41_0 : FieldIs Tryz.prog 41 0 0 := fieldIs (z := 0) Tryz.underlying41 rfl rfl rfl Tryz.sizeOf3
theorem fi41_2 : FieldIs Tryz.prog 41 2 2 := fieldIs (z := 0) Tryz.underlying41 rfl rfl rfl Tryz.sizeOf38
theorem c_bOutcome {B : BC} {H0 : Hp} {β : BS} {mr : Res} {w0 W : World} (hw : ∀ x ∈ β.wrote, x.1.size ≤ 1000000) (hwl : β.wrote.length ≤ 1000000) (hrl : β.reads.length ≤ 1000000) (hR : BRep B H0 β mr w0 W) : Calls Tryz.prog 26 [pt B.bx].toArray W (Ret fun v w' => ∃ H1 A1 c1 A2 c2, H0.le H1 ∧ v = .tuple [.agg (encOc β.out A1 c1 A2 c2).toArray, .bool β.over].toArray ∧ FzS H1 2 encSt A1 β.out.outs ∧ FzS H1 34 encRd A2 β.out.reads ∧ BRep B H1 β mr w0 w') := by
  obtain ⟨sb, sr, A, c, vals, H, Ar, cr, hsr, hle, hE, hv, hF, S⟩ := hR
  refine ent Tryz.func26 Tryz.ntmps26 rfl rfl ?_
  intro a F
  refine sq fun K1 hK1 => ?_
  refine rg ?_
  refine dal F S rfl Tryz.zeroValue41 rfl rfl rfl rfl fun a w b2 F S => ?_
  refine dv F (y_as rfl rfl) rfl rfl rfl fun a F => ?_
  refine dn ?_
  refine tn <| hK1 _ _ ?_
  refine sq fun K2 hK2 => ?_
  refine sq fun K3 hK3 => ?_
  refine rg ?_
  refine dv F (y_mv rfl rfl) rfl rfl rfl fun a F => ?_
  refine dv F (y_nc rfl rfl) rfl rfl rfl fun a F => ?_
  refine dv F (y_fa rfl rfl fi114_6) rfl rfl rfl fun a F => ?_
  refine dv F (y_ld rfl rfl (S.ld (i := 5) rfl rfl Tryz.isAgg4)) rfl rfl rfl fun a F => ?_
  refine dv F (y_nt rfl rfl) rfl rfl rfl fun a F => ?_
  refine dn ?_
  refine tn <| hK3 _ _ ?_
  refine cb F rfl (fun h1 => ?_) (fun h1 => ?_)
  · have g1 := h1
    try simp only [zi1, zi2, zi3, zi4, zi5, zi6, zi7, zi8] at g1
    refine sq fun K4 hK4 => ?_
    refine rg ?_
    refine dv F (y_bd rfl rfl (bd41z)) rfl rfl rfl fun a F => ?_
    refine dsw F S rfl rfl rfl Tryz.sizeOf41 (i := 9) rfl rfl rfl rfl (one41 _ _ _ _ _ _ _ _) rfl rfl fun a w F S => ?_
    refine dv F (y_as rfl rfl) rfl rfl rfl fun a F => ?_
    refine dn ?_
    refine tn <| hK4 _ _ ?_
    refine wp_ret ?_
    refine tr <| ?_
    exact rc2t F rfl rfl rfl (S.lda (i := 9) rfl Tryz.isAgg41 Tryz.sizeOf41 rfl) (by rw [out_wait (by simpa using g1)]; exact ⟨H, none, 0, none, 0, hle, by rw [show β.over = false by simpa using g1]; rfl, FzS.nil, FzS.nil, ⟨sb, sr, A, c, vals, H, Ar, cr, hsr, Hp.le_refl H, hE, hv, hF, (S.pick [0, 1, 2, 3, 4, 5, 6, 7, 8] _ ⟨rfl, rfl, rfl, rfl, rfl, rfl, rfl, rfl, rfl, trivial⟩ rfl)⟩⟩)
  · have g1 := h1
    try simp only [zi1, zi2, zi3, zi4, zi5, zi6, zi7, zi8] at g1
    refine wp_skip ?_
    refine tn <| hK2 _ _ ?_
    refine sq fun K5 hK5 => ?_
    refine rp [.p, .p, .p, .p, .p, .p, .p, .p, .c vOwn (slC 52 34 β.reads.length (β.reads.flatMap encRd)) (slC_per _ _ _ _), .p, .b 41 (mkP) [] (fun _ => ocZ)] 11 [[], [0], [0, 1], [0, 1, 2], [], [4], [4, 5], [4, 5, 6], [4, 5, 6, 7], [0, 1, 2, 3, 4, 5, 6, 7, 8], []] [(0, _), (2, _), (3, _), (7, _), (8, _), (9, _), (10, _), (11, _)] F ⟨rfl, rfl, rfl, rfl, rfl, rfl, rfl, rfl, trivial⟩ Tryz.mixed (by kernel_rfl) rfl (.inr ⟨by decide, by kernel_rfl, by kernel_rfl⟩) (by kernel_rfl) ⟨?_, ?_, ?_, ?_, ?_, ?_, ?_, ?_, ?_, ?_, ?_, trivial⟩ fun a w1 J => ?_
    · intro a w1 hB F hA
      have S0 := S
      replace S := S.call hB
      exact pv F (fun w2 hB2 => have S := S.call hB2; y_mv rfl rfl) rfl rfl rfl (by decide)
    · intro a w1 hB F hA
      have S0 := S
      replace S := S.call hB
      replace F := F.eP (hA 0 (by decide)) rfl (d := 13) rfl rfl (y_mv rfl rfl)
      exact pv F (fun w2 hB2 => have S := S.call hB2; y_nc rfl rfl) rfl rfl rfl (by decide)
    · intro a w1 hB F hA
      have S0 := S
      replace S := S.call hB
      replace F := F.eP (hA 0 (by decide)) rfl (d := 13) rfl rfl (y_mv rfl rfl)
      replace F := F.eP (hA 1 (by decide)) rfl (d := 14) rfl rfl (y_nc rfl rfl)
      exact pv F (fun w2 hB2 => have S := S.call hB2; y_fa rfl rfl fi114_7) rfl rfl rfl (by decide)
    · intro a w1 hB F hA
      have S0 := S
      replace S := S.call hB
      replace F := F.eP (hA 0 (by decide)) rfl (d := 13) rfl rfl (y_mv rfl rfl)
      replace F := F.eP (hA 1 (by decide)) rfl (d := 14) rfl rfl (y_nc rfl rfl)
      replace F := F.eP (hA 2 (by decide)) rfl (d := 15) rfl rfl (y_fa rfl rfl fi114_7)
      exact pv F (fun w2 hB2 => have S := S.call hB2; y_ld rfl rfl (S.ld (i := 5) rfl rfl Tryz.isAgg33)) rfl rfl rfl (by decide)
    · intro a w1 hB F hA
      have S0 := S
      replace S := S.call hB
      exact pv F (fun w2 hB2 => have S := S.call hB2; y_mv rfl rfl) rfl rfl rfl (by decide)
    · intro a w1 hB F hA
      have S0 := S
      replace S := S.call hB
      replace F := F.eP (hA 4 (by decide)) rfl (d := 17) rfl rfl (y_mv rfl rfl)
      exact pv F (fun w2 hB2 => have S := S.call hB2; y_nc rfl rfl) rfl rfl rfl (by decide)
    · intro a w1 hB F hA
      have S0 := S
      replace S := S.call hB
      replace F := F.eP (hA 4 (by decide)) rfl (d := 17) rfl rfl (y_mv rfl rfl)
      replace F := F.eP (hA 5 (by decide)) rfl (d := 18) rfl rfl (y_nc rfl rfl)
      exact pv F (fun w2 hB2 => have S := S.call hB2; y_fa rfl rfl fi114_4) rfl rfl rfl (by decide)
    · intro a w1 hB F hA
      have S0 := S
      replace S := S.call hB
      replace F := F.eP (hA 4 (by decide)) rfl (d := 17) rfl rfl (y_mv rfl rfl)
      replace F := F.eP (hA 5 (by decide)) rfl (d := 18) rfl rfl (y_nc rfl rfl)
      replace F := F.eP (hA 6 (by decide)) rfl (d := 19) rfl rfl (y_fa rfl rfl fi114_4)
      exact pv F (fun w2 hB2 => have S := S.call hB2; y_ld rfl rfl (S.ld (i := 5) rfl rfl Tryz.isAgg39)) rfl rfl rfl (by decide)
    · intro a w1 hB F hA
      have S0 := S
      replace S := S.call hB
      replace F := F.eP (hA 4 (by decide)) rfl (d := 17) rfl rfl (y_mv rfl rfl)
      replace F := F.eP (hA 5 (by decide)) rfl (d := 18) rfl rfl (y_nc rfl rfl)
      replace F := F.eP (hA 6 (by decide)) rfl (d := 19) rfl rfl (y_fa rfl rfl fi114_4)
      replace F := F.eP (hA 7 (by decide)) rfl (d := 20) rfl rfl (y_ld rfl rfl (S.ld (i := 5) rfl rfl Tryz.isAgg39))
      exact pc F (c_f rfl rfl rfl Tryz.call66) rfl rfl (c_CloneRd _ (S.ows (i := 7) rfl len37 (by decide)) (by omega)) (fun v w2 h => newO_C h.1 h.2)
    · intro a w1 hB F hA
      have S0 := S
      replace S := S.call hB
      replace F := F.eP (hA 0 (by decide)) rfl (d := 13) rfl rfl (y_mv rfl rfl)
      replace F := F.eP (hA 1 (by decide)) rfl (d := 14) rfl rfl (y_nc rfl rfl)
      replace F := F.eP (hA 2 (by decide)) rfl (d := 15) rfl rfl (y_fa rfl rfl fi114_7)
      replace F := F.eP (hA 3 (by decide)) rfl (d := 16) rfl rfl (y_ld rfl rfl (S.ld (i := 5) rfl rfl Tryz.isAgg33))
      replace F := F.eP (hA 4 (by decide)) rfl (d := 17) rfl rfl (y_mv rfl rfl)
      replace F := F.eP (hA 5 (by decide)) rfl (d := 18) rfl rfl (y_nc rfl rfl)
      replace F := F.eP (hA 6 (by decide)) rfl (d := 19) rfl rfl (y_fa rfl rfl fi114_4)
      replace F := F.eP (hA 7 (by decide)) rfl (d := 20) rfl rfl (y_ld rfl rfl (S.ld (i := 5) rfl rfl Tryz.isAgg39))
      obtain ⟨v21, F, hv21, ho21⟩ := F.eC (P := Tryz.prog) (hC := slC_per 52 34 β.reads.length (β.reads.flatMap encRd)) (hA 8 (by decide)) rfl (d := 21) rfl rfl
      obtain ⟨A1, c1, rfl, hk21⟩ := hv21
      exact pv F (fun w2 hB2 => have S := S.call hB2; y_bd rfl rfl (bd41 _ _ _ _)) rfl rfl rfl (by decide)
    · intro a w1 hB F hA
      have S0 := S
      replace S := S.call hB
      exact pb F rfl (y_al rfl Tryz.zeroValue41 rfl) (fun _ => rfl) rfl rfl rfl
    have F := J.fr
    have E := EX.start J S
    have hle' := S.bel.size
    replace S := S.call J.bel
    replace F := F.eP (J.at 0 rfl) rfl (d := 13) rfl rfl (y_mv rfl rfl)
    replace F := F.eP (J.at 1 rfl) rfl (d := 14) rfl rfl (y_nc rfl rfl)
    replace F := F.eP (J.at 2 rfl) rfl (d := 15) rfl rfl (y_fa rfl rfl fi114_7)
    replace F := F.eP (J.at 3 rfl) rfl (d := 16) rfl rfl (y_ld rfl rfl (S.ld (i := 5) rfl rfl Tryz.isAgg33))
    replace F := F.eP (J.at 4 rfl) rfl (d := 17) rfl rfl (y_mv rfl rfl)
    replace F := F.eP (J.at 5 rfl) rfl (d := 18) rfl rfl (y_nc rfl rfl)
    replace F := F.eP (J.at 6 rfl) rfl (d := 19) rfl rfl (y_fa rfl rfl fi114_4)
    replace F := F.eP (J.at 7 rfl) rfl (d := 20) rfl rfl (y_ld rfl rfl (S.ld (i := 5) rfl rfl Tryz.isAgg39))
    obtain ⟨v21, F, hv21, ho21⟩ := F.eC (P := Tryz.prog) (hC := slC_per 52 34 β.reads.length (β.reads.flatMap encRd)) (J.at 8 rfl) rfl (d := 21) rfl rfl
    obtain ⟨A1, c1, rfl, hk21⟩ := hv21
    have E := EX.slo J hle' E 8 rfl rfl (d := 21) rfl hk21 ho21
    replace F := F.eP (J.at 9 rfl) rfl (d := 22) rfl rfl (y_bd rfl rfl (bd41 _ _ _ _))
    obtain ⟨b4, F, hb4, ho4⟩ := F.eB (P := Tryz.prog) (e := 41) (mk := mkP) (xs := []) (cs := fun _ => ocZ) (J.at 10 rfl) rfl (d := 4) rfl rfl rfl
    have E := EX.row J hle' E 10 rfl rfl (d := 4) (e := 41) (cs := ocZ) rfl hb4 ho4
    replace S := E.st
    clear E J
    refine dsw F S rfl rfl rfl Tryz.sizeOf41 (i := 11) rfl rfl rfl rfl (one41 _ _ _ _ _ _ _ _) rfl rfl fun a w F S => ?_
    refine dn ?_
    refine tn <| hK5 _ _ ?_
    refine sq fun K6 hK6 => ?_
    refine sq fun K7 hK7 => ?_
    obtain ⟨K, hlK, hrK, S⟩ := S.frzOw (enc := encRd) (xs := β.reads) (i := 3) (j := 10) rfl rfl (by decide) len37
    refine rg ?_
    refine dv F (y_mv rfl rfl) rfl rfl rfl fun a F => ?_
    refine dv F (y_nc rfl rfl) rfl rfl rfl fun a F => ?_
    refine dv F (y_fa rfl rfl fi114_7) rfl rfl rfl fun a F => ?_
    refine dv F (y_ld rfl rfl (S.ld (i := 5) rfl rfl Tryz.isAgg33)) rfl rfl rfl fun a F => ?_
    refine dv F (y_ie rfl rfl rfl) rfl rfl rfl fun a F => ?_
    refine dn ?_
    refine tn <| hK7 _ _ ?_
    refine cb F rfl (fun h2 => ?_) (fun h2 => ?_)
    · have g2 := h2
      try simp only [zi1, zi2, zi3, zi4, zi5, zi6, zi7, zi8] at g2
      refine sq fun K8 hK8 => ?_
      refine rg ?_
      refine dv F (y_fa rfl rfl fi41_0) rfl rfl rfl fun a F => ?_
      refine dst F S rfl rfl rfl Tryz.sizeOf3 (i := 11) rfl rfl (Nat.le_of_ble_eq_true rfl) one1 rfl rfl fun a w F S => ?_
      refine dn ?_
      refine tn <| hK8 _ _ ?_
      refine sq fun K9 hK9 => ?_
      have hsl : (sortS (β.wrote.map (·.1))).length ≤ 1000000 := by rw [sortS_len, List.length_map]; exact hwl
      refine rg ?_
      refine dv F (y_mv rfl rfl) rfl rfl rfl fun a F => ?_
      refine dv F (y_nc rfl rfl) rfl rfl rfl fun a F => ?_
      refine dv F (y_fa rfl rfl fi114_3) rfl rfl rfl fun a F => ?_
      refine dv F (y_ld rfl rfl (S.ld (i := 5) rfl rfl Tryz.isAgg70)) rfl rfl rfl fun a F => ?_
      have hM := S.ok (i := 6) rfl
      refine dc F (c_f rfl rfl rfl Tryz.call68) rfl rfl rfl (c_keys _ _) fun a v w' hr F => ?_
      obtain ⟨rfl, rfl⟩ := hr
      have hO0 := S
      replace S := S.call ((Below.refl _ _).alloc (Nat.le_refl _) (Obj.cells #[.map (some B.wb)] 70))
      refine dc F (c_f rfl rfl rfl Tryz.call67) rfl rfl rfl (c_sorted hM (by simpa [wmap] using hwl) (fun x hx => by obtain ⟨y, hy, rfl⟩ := List.mem_map.1 hx; exact Nat.le_trans (hw y hy) (by decide))) fun a v w' hr F => ?_
      obtain ⟨⟨Ak, ck, rfl, hO, hlo⟩, hb⟩ := hr
      rw [wmap_keys] at hO F
      replace S := S.addOw hb rfl (by rw [wmap_keys]; exact hO) hlo
      rw [wmap_keys] at S
      refine dv F (y_ln rfl rfl Tryz.underlying25) rfl rfl rfl fun a F => ?_
      refine dv F (y_mv rfl rfl) rfl rfl rfl fun a F => ?_
      refine dn ?_
      refine tn <| hK9 _ _ ?_
      refine bl ?_
      refine lp (fun m a w => ∃ (i : Nat) (Ao : Option Addr) (co : Nat), m = (sortS (β.wrote.map (·.1))).length - i ∧ (i ≤ (sortS (β.wrote.map (·.1))).length) ∧ Fr 55 a [(0, pt B.bx), (2, pt b2), (4, pt b4), (34, .slice Ak (sortS (β.wrote.map (·.1))).length ck), (35, .int .i64 ((sortS (β.wrote.map (·.1))).length : Int)), (36, .int .i64 (i : Int))] ∧ St w0 w (BLs B A c vals K sr β Ar cr mr ++ [bk b2 41 ocZ, bk b4 41 [.int .i64 1, .int .i64 β.why, .slice Ao i co, .slice A1 β.reads.length c1], ow 9 1 (.slice Ak (sortS (β.wrote.map (·.1))).length ck) (sortS (β.wrote.map (·.1))).length ((sortS (β.wrote.map (·.1))).flatMap encS), ow 66 2 (.slice Ao i co) i ((β.files.take i).flatMap encSt)])) ((sortS (β.wrote.map (·.1))).length) ?_ ?_
      · exact ⟨0, none, 0, rfl, Nat.zero_le _, F.sub _ ⟨rfl, rfl, rfl, rfl, rfl, rfl, trivial⟩, (ow_nil S 66 2).pick [0, 1, 2, 3, 4, 5, 6, 7, 8, 9, 11, 12, 13] _ ⟨rfl, rfl, rfl, rfl, rfl, rfl, rfl, rfl, rfl, rfl, rfl, rfl, rfl, trivial⟩ rfl⟩
      · rintro m a w ⟨i, Ao, co, hm, hi, F, S⟩
        refine sq fun K10 hK10 => ?_
        refine rg ?_
        refine dv F (y_lt rfl rfl rfl) rfl rfl rfl fun a F => ?_
        refine dn ?_
        refine tn <| hK10 _ _ ?_
        refine sq fun K11 hK11 => ?_
        refine cd F rfl (fun hlt => ?_) (fun hlt => ?_)
        · refine wp_skip ?_
          refine tn <| hK11 _ _ ?_
          refine sq fun K12 hK12 => ?_
          refine bl ?_
          refine sq fun K13 hK13 => ?_
          have hlt' : i < (sortS (β.wrote.map (·.1))).length := by omega
          obtain ⟨ab, ao, rfl, hab, hcell⟩ := (S.ows (i := 11) rfl lenS (by decide)).at_ (j := i) hlt'
          refine rg ?_
          refine dv F (y_ia rfl rfl rfl rfl Tryz.underlying25 Tryz.sizeOf9 i rfl hlt') rfl rfl rfl fun a F => ?_
          refine dv F (y_ld rfl rfl (ld1 Tryz.isAgg9 (hcell 0 _ rfl))) rfl rfl rfl fun a F => ?_
          refine dv F (y_as rfl rfl) rfl rfl rfl fun a F => ?_
          refine dn ?_
          refine tn <| hK13 _ _ ?_
          refine rp [.p, .p, .p, .p, .p, .p, .p, .p, .p, .p, .b 66 (mkS 1) [.tmp 49] (fun vs => cellsOf (vs.getD 0 undef))] 11 [[], [0], [], [], [3], [3, 4], [3, 4, 5], [], [3, 4, 5, 6, 7], [2, 3, 4, 5, 6, 7, 8], [2, 3, 4, 5, 6, 7, 8, 9]] [(0, _), (2, _), (4, _), (6, _), (34, _), (35, _), (36, _), (37, _), (38, _), (39, _)] F ⟨rfl, rfl, rfl, rfl, rfl, rfl, rfl, rfl, rfl, rfl, trivial⟩ Tryz.mixed (by kernel_rfl) rfl (.inr ⟨by decide, by kernel_rfl, by kernel_rfl⟩) (by kernel_rfl) ⟨?_, ?_, ?_, ?_, ?_, ?_, ?_, ?_, ?_, ?_, ?_, trivial⟩ fun a w1 J => ?_
          · intro a w1 hB F hA
            have S0 := S
            replace S := S.call hB
            exact pv F (fun w2 hB2 => have S := S.call hB2; y_fa rfl rfl fi41_2) rfl rfl rfl (by decide)
          · intro a w1 hB F hA
            have S0 := S
            replace S := S.call hB
            replace F := F.eP (hA 0 (by decide)) rfl (d := 40) rfl rfl (y_fa rfl rfl fi41_2)
            exact pv F (fun w2 hB2 => have S := S.call hB2; y_ld rfl rfl (S.ld (i := 10) rfl rfl Tryz.isAgg38)) rfl rfl rfl (by decide)
          · intro a w1 hB F hA
            have S0 := S
            replace S := S.call hB
            exact pv F (fun w2 hB2 => have S := S.call hB2; y_mv rfl rfl) rfl rfl rfl (by decide)
          · intro a w1 hB F hA
            have S0 := S
            replace S := S.call hB
            exact pv F (fun w2 hB2 => have S := S.call hB2; y_mv rfl rfl) rfl rfl rfl (by decide)
          · intro a w1 hB F hA
            have S0 := S
            replace S := S.call hB
            replace F := F.eP (hA 3 (by decide)) rfl (d := 43) rfl rfl (y_mv rfl rfl)
            exact pv F (fun w2 hB2 => have S := S.call hB2; y_nc rfl rfl) rfl rfl rfl (by decide)
          · intro a w1 hB F hA
            have S0 := S
            replace S := S.call hB
            replace F := F.eP (hA 3 (by decide)) rfl (d := 43) rfl rfl (y_mv rfl rfl)
            replace F := F.eP (hA 4 (by decide)) rfl (d := 44) rfl rfl (y_nc rfl rfl)
            exact pv F (fun w2 hB2 => have S := S.call hB2; y_fa rfl rfl fi114_3) rfl rfl rfl (by decide)
          · intro a w1 hB F hA
            have S0 := S
            replace S := S.call hB
            replace F := F.eP (hA 3 (by decide)) rfl (d := 43) rfl rfl (y_mv rfl rfl)
            replace F := F.eP (hA 4 (by decide)) rfl (d := 44) rfl rfl (y_nc rfl rfl)
            replace F := F.eP (hA 5 (by decide)) rfl (d := 45) rfl rfl (y_fa rfl rfl fi114_3)
            exact pv F (fun w2 hB2 => have S := S.call hB2; y_ld rfl rfl (S.ld (i := 5) rfl rfl Tryz.isAgg70)) rfl rfl rfl (by decide)
          · intro a w1 hB F hA
            have S0 := S
            replace S := S.call hB
            exact pv F (fun w2 hB2 => have S := S.call hB2; y_mv rfl rfl) rfl rfl rfl (by decide)
          · intro a w1 hB F hA
            have S0 := S
            replace S := S.call hB
            replace F := F.eP (hA 3 (by decide)) rfl (d := 43) rfl rfl (y_mv rfl rfl)
            replace F := F.eP (hA 4 (by decide)) rfl (d := 44) rfl rfl (y_nc rfl rfl)
            replace F := F.eP (hA 5 (by decide)) rfl (d := 45) rfl rfl (y_fa rfl rfl fi114_3)
            replace F := F.eP (hA 6 (by decide)) rfl (d := 46) rfl rfl (y_ld rfl rfl (S.ld (i := 5) rfl rfl Tryz.isAgg70))
            replace F := F.eP (hA 7 (by decide)) rfl (d := 47) rfl rfl (y_mv rfl rfl)
            exact pv F (fun w2 hB2 => have S := S.call hB2; y_cast (lk_file β.wrote _) (y_lke rfl rfl rfl (S.ok (i := 6) rfl) Tryz.underlying70 Tryz.underlying9 zv9)) rfl rfl rfl (by decide)
          · intro a w1 hB F hA
            have S0 := S
            replace S := S.call hB
            replace F := F.eP (hA 2 (by decide)) rfl (d := 42) rfl rfl (y_mv rfl rfl)
            replace F := F.eP (hA 3 (by decide)) rfl (d := 43) rfl rfl (y_mv rfl rfl)
            replace F := F.eP (hA 4 (by decide)) rfl (d := 44) rfl rfl (y_nc rfl rfl)
            replace F := F.eP (hA 5 (by decide)) rfl (d := 45) rfl rfl (y_fa rfl rfl fi114_3)
            replace F := F.eP (hA 6 (by decide)) rfl (d := 46) rfl rfl (y_ld rfl rfl (S.ld (i := 5) rfl rfl Tryz.isAgg70))
            replace F := F.eP (hA 7 (by decide)) rfl (d := 47) rfl rfl (y_mv rfl rfl)
            replace F := F.eP (hA 8 (by decide)) rfl (d := 48) rfl rfl (y_cast (lk_file β.wrote _) (y_lke rfl rfl rfl (S.ok (i := 6) rfl) Tryz.underlying70 Tryz.underlying9 zv9))
            exact pv F (fun w2 hB2 => have S := S.call hB2; y_bd rfl rfl (bdFile _ _)) rfl rfl rfl (by decide)
          · intro a w1 hB F hA
            have S0 := S
            replace S := S.call hB
            replace F := F.eP (hA 2 (by decide)) rfl (d := 42) rfl rfl (y_mv rfl rfl)
            replace F := F.eP (hA 3 (by decide)) rfl (d := 43) rfl rfl (y_mv rfl rfl)
            replace F := F.eP (hA 4 (by decide)) rfl (d := 44) rfl rfl (y_nc rfl rfl)
            replace F := F.eP (hA 5 (by decide)) rfl (d := 45) rfl rfl (y_fa rfl rfl fi114_3)
            replace F := F.eP (hA 6 (by decide)) rfl (d := 46) rfl rfl (y_ld rfl rfl (S.ld (i := 5) rfl rfl Tryz.isAgg70))
            replace F := F.eP (hA 7 (by decide)) rfl (d := 47) rfl rfl (y_mv rfl rfl)
            replace F := F.eP (hA 8 (by decide)) rfl (d := 48) rfl rfl (y_cast (lk_file β.wrote _) (y_lke rfl rfl rfl (S.ok (i := 6) rfl) Tryz.underlying70 Tryz.underlying9 zv9))
            replace F := F.eP (hA 9 (by decide)) rfl (d := 49) rfl rfl (y_bd rfl rfl (bdFile _ _))
            exact pb F rfl (y_bs rfl rfl (bsOne Tryz.underlying38 aiF (lenSt _) rfl rfl)) (fun _ => rfl) rfl rfl rfl
          have F := J.fr
          have E := EX.start J S
          have hle' := S.bel.size
          replace S := S.call J.bel
          replace F := F.eP (J.at 0 rfl) rfl (d := 40) rfl rfl (y_fa rfl rfl fi41_2)
          replace F := F.eP (J.at 1 rfl) rfl (d := 41) rfl rfl (y_ld rfl rfl (S.ld (i := 10) rfl rfl Tryz.isAgg38))
          replace F := F.eP (J.at 2 rfl) rfl (d := 42) rfl rfl (y_mv rfl rfl)
          replace F := F.eP (J.at 3 rfl) rfl (d := 43) rfl rfl (y_mv rfl rfl)
          replace F := F.eP (J.at 4 rfl) rfl (d := 44) rfl rfl (y_nc rfl rfl)
          replace F := F.eP (J.at 5 rfl) rfl (d := 45) rfl rfl (y_fa rfl rfl fi114_3)
          replace F := F.eP (J.at 6 rfl) rfl (d := 46) rfl rfl (y_ld rfl rfl (S.ld (i := 5) rfl rfl Tryz.isAgg70))
          replace F := F.eP (J.at 7 rfl) rfl (d := 47) rfl rfl (y_mv rfl rfl)
          replace F := F.eP (J.at 8 rfl) rfl (d := 48) rfl rfl (y_cast (lk_file β.wrote _) (y_lke rfl rfl rfl (S.ok (i := 6) rfl) Tryz.underlying70 Tryz.underlying9 zv9))
          replace F := F.eP (J.at 9 rfl) rfl (d := 49) rfl rfl (y_bd rfl rfl (bdFile _ _))
          obtain ⟨b50, F, hb50, ho50⟩ := F.eB (P := Tryz.prog) (e := 66) (mk := mkS 1) (xs := [.tmp 49]) (cs := fun vs => cellsOf (vs.getD 0 undef)) (J.at 10 rfl) rfl (d := 50) rfl rfl rfl
          have E := EX.row J hle' E 10 rfl rfl (d := 50) (e := 66) (cs := (encSt ((sortS (β.wrote.map (·.1)))[i], (wfind β.wrote (sortS (β.wrote.map (·.1)))[i]).getD eB))) rfl hb50 ho50
          replace S := E.st
          clear E J
          refine dap F S rfl rfl rfl (i := 12) rfl (S.fl (i := 13) rfl) (lenSt _) (oneSt _) Tryz.underlying38 aiF rfl (N := i + 1) (XS := (β.files.take (i + 1)).flatMap encSt) rfl (files_take hlt') (by omega) (by omega) rfl rfl rfl fun a w A' c' F S => ?_
          refine dv F (y_fa rfl rfl fi41_2) rfl rfl rfl fun a F => ?_
          refine dst F S rfl rfl rfl Tryz.sizeOf38 (i := 10) rfl rfl (Nat.le_of_ble_eq_true rfl) one1 rfl rfl fun a w F S => ?_
          refine dn ?_
          refine bn <| tn <| hK12 _ _ ?_
          refine rg ?_
          refine dv F (y_add rfl rfl rfl (by omega)) rfl rfl rfl fun a F => ?_
          refine dv F (y_mv rfl rfl) rfl rfl rfl fun a F => ?_
          refine dn ?_
          exact ln (by omega) ⟨i + 1, A', c', rfl, by omega, F.sub _ ⟨rfl, rfl, rfl, rfl, rfl, rfl, trivial⟩, S.pick [0, 1, 2, 3, 4, 5, 6, 7, 8, 9, 10, 11, 12] _ ⟨rfl, rfl, rfl, rfl, rfl, rfl, rfl, rfl, rfl, rfl, rfl, rfl, rfl, trivial⟩ rfl⟩
        · refine wp_exit ?_
          refine tx <| lx <| bh <| tn <| hK6 _ _ ?_
          refine sq fun K14 hK14 => ?_
          first
            | (have hin : i = (sortS (β.wrote.map (·.1))).length := by omega
               have hil : β.files.take i = β.files := by rw [hin]; exact files_all β
               obtain ⟨L, hlL, hfo, S⟩ := S.frzOw (enc := encSt) (xs := β.files.take i) (i := 3) (j := 12) rfl (by rw [files_len hi]; rfl) (by decide) lenSt)
            | skip
          refine rg ?_
          refine dv F (y_ld rfl rfl (S.lda (i := 10) rfl Tryz.isAgg41 Tryz.sizeOf41 rfl)) rfl rfl rfl fun a F => ?_
          refine dsw F S rfl rfl rfl Tryz.sizeOf41 (i := 9) rfl rfl rfl rfl (one41 _ _ _ _ _ _ _ _) rfl rfl fun a w F S => ?_
          refine dv F (y_as rfl rfl) rfl rfl rfl fun a F => ?_
          refine dn ?_
          refine tn <| hK14 _ _ ?_
          refine wp_ret ?_
          refine ?_
          exact rc2t F rfl rfl rfl (S.lda (i := 9) rfl Tryz.isAgg41 Tryz.sizeOf41 rfl) (by rw [out_end (by simpa using g1) g2]; exact ⟨L, Ao, co, A1, c1, Hp.le_trans hle (Hp.le_trans hlK hlL), by rw [show β.over = true by simpa using g1]; exact congrArg (fun q => Value.tuple #[q, .bool true]) (oc_end g2 hin), by rw [hil] at hfo; exact hfo, hrK.le hlL, ⟨sb, sr, A, c, vals, L, Ar, cr, hsr, Hp.le_refl L, hE.le (Hp.le_trans hlK hlL), hv.mono fun _ _ _ h => h.le (Hp.le_trans hlK hlL), hF.le (Hp.le_trans hlK hlL), S.pick [0, 1, 2, 3, 4, 5, 6, 7, 8] _ ⟨rfl, rfl, rfl, rfl, rfl, rfl, rfl, rfl, rfl, trivial⟩ rfl⟩⟩)
    · have g2 := h2
      try simp only [zi1, zi2, zi3, zi4, zi5, zi6, zi7, zi8] at g2
      refine wp_skip ?_
      refine tn <| hK6 _ _ ?_
      refine sq fun K15 hK15 => ?_
      first
        | (have hin : i = (sortS (β.wrote.map (·.1))).length := by omega
           have hil : β.files.take i = β.files := by rw [hin]; exact files_all β
           obtain ⟨L, hlL, hfo, S⟩ := S.frzOw (enc := encSt) (xs := β.files.take i) (i := 3) (j := 12) rfl (by rw [files_len hi]; rfl) (by decide) lenSt)
        | skip
      refine rg ?_
      refine dv F (y_ld rfl rfl (S.lda (i := 11) rfl Tryz.isAgg41 Tryz.sizeOf41 rfl)) rfl rfl rfl fun a F => ?_
      refine dsw F S rfl rfl rfl Tryz.sizeOf41 (i := 9) rfl rfl rfl rfl (one41 _ _ _ _ _ _ _ _) rfl rfl fun a w F S => ?_
      refine dv F (y_as rfl rfl) rfl rfl rfl fun a F => ?_
      refine dn ?_
      refine tn <| hK15 _ _ ?_
      refine wp_ret ?_
      refine ?_
      exact rc2t F rfl rfl rfl (S.lda (i := 9) rfl Tryz.isAgg41 Tryz.sizeOf41 rfl) (by rw [out_fail (by simpa using g1) g2]; exact ⟨K, none, 0, A1, c1, Hp.le_trans hle hlK, by rw [show β.over = true by simpa using g1]; rfl, FzS.nil, hrK, ⟨sb, sr, A, c, vals, K, Ar, cr, hsr, Hp.le_refl K, hE.le hlK, hv.mono fun _ _ _ h => h.le hlK, hF.le hlK, S.pick [0, 1, 2, 3, 4, 5, 6, 7, 8] _ ⟨rfl, rfl, rfl, rfl, rfl, rfl, rfl, rfl, rfl, trivial⟩ rfl⟩⟩)
end Go.Proofs.YtgcmddaibnimjaaGreatDoor
namespace Go.Proofs.YtgcmddaibnimjaaGreatDoor
open Go.RowKit Go.Eng
abbrev BL8 (B : BC) (A : Option Addr) (c : Nat) (vals : List Value) (H : Hp) (sr : Res) (β : BS) (Ar : Option Addr) (cr : Nat) : List Res :=
 [bk B.C.rb 137 (rcells B.C A vals.length c β.run), ow 1 1 (.slice A vals.length c) vals.length vals, mpe B.C.kb (kmap β.run.known), fz H, sr, bk B.bx 114 (bcells B β Ar cr), mpe B.wb (wmap β.wrote), ow 52 34 (.slice Ar β.reads.length cr) β.reads.length (β.reads.flatMap encRd)]
def BE (B : BC) (H0 : Hp) (β : BS) (cs : List Res) (w0 w : World) : Prop :=
 ∃ sb sr A c vals H Ar cr, (sr = mpe sb (smap β.run.seen) ∨ ∀ x ∈ β.run.todo, ¬ needs x) ∧ H0.le H ∧ FzS H 2 encSt B.C.eA B.C.env ∧ All2 (TaskAt H B.C.rb sb) β.run.todo vals ∧ BFz B H ∧ St w0 w (BL8 B A c vals H sr β Ar cr ++ cs)
section
variable {B : BC} {H0 H1 : Hp} {β : BS} {cs : List Res} {mr : Res} {w0 w W : World}
theorem BE.of (h : BRep B H0 β mr w0 w) : BE B H0 β [mr] w0 w := h
theorem BE.le (h : BE B H1 β cs w0 w) (hle : H0.le H1) : BE B H0 β cs w0 w := by
 obtain ⟨sb, sr, A, c, vals, K, Ar, cr, h1, h2, h3⟩ := h
 exact ⟨sb, sr, A, c, vals, K, Ar, cr, h1, Hp.le_trans hle h2, h3⟩
theorem BE.pk (h : BE B H0 β cs w0 w) : BRep B H0 β (Go.Eng.pk cs) w0 w ∧ SepL cs := by
 obtain ⟨sb, sr, A, c, vals, K, Ar, cr, h1, h2, h3, h4, h5, S⟩ := h
 obtain ⟨S, hS⟩ := S.packS
 exact ⟨⟨sb, sr, A, c, vals, K, Ar, cr, h1, h2, h3, h4, h5, S⟩, hS⟩
theorem BE.un (h : BRep B H0 β (Go.Eng.pk cs) w0 w) (hS : SepL cs) : BE B H0 β cs w0 w := by
 obtain ⟨sb, sr, A, c, vals, K, Ar, cr, h1, h2, h3, h4, h5, S⟩ := h
 exact ⟨sb, sr, A, c, vals, K, Ar, cr, h1, h2, h3, h4, h5, St.unpS (xs := [_, _, _, _, _, _, _, _]) S hS⟩
theorem BE.bel (h : BE B H0 β cs w0 w) : Below w0.heap.size w0 w := by
 obtain ⟨sb, sr, A, c, vals, K, Ar, cr, h1, h2, h3, h4, h5, S⟩ := h
 exact S.bel
structure BSm (B : BC) : Prop where
 en : B.C.env.length ≤ 1000000
 ez : ∀ x ∈ B.C.env, x.2.size ≤ 1000000000
 l : B.outs.length ≤ 1000000 ∧ B.ins.length ≤ 1000000 ∧ B.asks.length ≤ 1000000
 z : ∀ x ∈ B.asks, x.size ≤ 1000000
 oz : ∀ x ∈ B.outs, x.size ≤ 1000000
theorem wrote_in (h : BJ B β) {x : ByteArray × ByteArray} (hx : x ∈ β.wrote) : x.1 ∈ B.outs := by
 obtain ⟨p, hp, he⟩ := List.any_eq_true.1 (h.wo x hx)
 rw [of_decide_eq_true he]; exact hp
theorem wrote_le (h : BJ B β) : β.wrote.length ≤ B.outs.length := by
 have := sub_len h.nd (m := B.outs) fun x hx => by
  obtain ⟨y, hy, rfl⟩ := List.mem_map.1 hx
  exact wrote_in h hy
 simpa using this
theorem e_Asks (hR : BE B H0 β cs w0 W) : Calls Tryz.prog 24 [pt B.bx].toArray W (Ret fun v w' => v = .tuple [.string (if β.over = true then eB else β.asks), .bool (!β.over)].toArray ∧ BE B H0 β cs w0 w') :=
 (c_bAsks hR.pk.1).mono (Ret.mono fun v w' h => ⟨h.1, BE.un h.2 hR.pk.2⟩)
theorem e_Outcome (hB : BSm B) (hj : BJ B β) (hR : BE B H0 β cs w0 W) : Calls Tryz.prog 26 [pt B.bx].toArray W (Ret fun v w' => ∃ H1 A1 c1 A2 c2, H0.le H1 ∧ v = .tuple [.agg (encOc β.out A1 c1 A2 c2).toArray, .bool β.over].toArray ∧ FzS H1 2 encSt A1 β.out.outs ∧ FzS H1 34 encRd A2 β.out.reads ∧ BE B H1 β cs w0 w') :=
 (c_bOutcome (fun x hx => hB.oz _ (wrote_in hj hx)) (Nat.le_trans (wrote_le hj) hB.l.1) (Nat.le_trans (reads_le hj) (by decide)) hR.pk.1).mono (Ret.mono fun v w' ⟨H1, A1, c1, A2, c2, h1, h2, h3, h4, h5⟩ => ⟨H1, A1, c1, A2, c2, h1, h2, h3, h4, BE.un h5 hR.pk.2⟩)
theorem e_Give (k : Kn) (G : Gl w0) (hB : BSm B) (hj : BJ B β) (hks : k.data.size ≤ 9000000000000000000) (hR : BE B H0 β cs w0 W) : Calls Tryz.prog 25 [pt B.bx, .agg (encK k).toArray].toArray W (Ret fun v w' => v = .int .i64 (β.give B k).1 ∧ BE B H0 (β.give B k).2 cs w0 w') :=
 (c_bGive k G hB.en hB.ez hB.l hB.z hj.bi hks (Nat.le_trans (reads_le hj) (by decide)) hR.pk.1).mono (Ret.mono fun v w' h => ⟨h.1, BE.un h.2 hR.pk.2⟩)
def NewE (w0 w' : World) (v : Value) (env : List (ByteArray × ByteArray)) (outs ins asks : List ByteArray) (cs : List Res) : (Int × Int) ⊕ List Cmd → Prop
 | .inl (e, n) => v = .tuple [.pointer none, .int .i64 e].toArray ∧ St w0 w' cs
 | .inr l => ∃ (B : BC) (H0 : Hp), B.C.env = env ∧ B.outs = outs ∧ B.ins = ins ∧ B.asks = asks ∧ v = .tuple [pt B.bx, .int .i64 0].toArray ∧ BE B H0 ((BS.start l).go B) cs w0 w'
theorem newE_of {v : Value} {env : List (ByteArray × ByteArray)} {outs ins asks : List ByteArray} (hS : SepL cs) : ∀ {r : (Int × Int) ⊕ List Cmd}, NewP w0 w v env outs ins asks (Go.Eng.pk cs) r → NewE w0 w v env outs ins asks cs r
 | .inl (e, n), ⟨h1, h2⟩ => ⟨h1, St.unpS (xs := []) h2 hS⟩
 | .inr l, ⟨B, H0, h1, h2, h3, h4, h5, h6⟩ => ⟨B, H0, h1, h2, h3, h4, h5, BE.un h6 hS⟩
theorem e_New {u1 u2 : Value} {t : ByteArray} {Ae Ai Aa Ao : Option Addr} {ce ci ca co : Nat} {env : List (ByteArray × ByteArray)} {ins asks outs : List ByteArray} (G : Gl w0) (S : St w0 W cs) (ht : t.size ≤ 1000000) (he : Sl w0 2 encSt Ae env) (hi : Sl w0 1 encS Ai ins) (ha : Sl w0 1 encS Aa asks) (ho : Sl w0 1 encS Ao outs) (hen : env.length ≤ 1000000) (hez : ∀ x ∈ env, x.2.size ≤ 1000000000) (hl : outs.length ≤ 1000000 ∧ ins.length ≤ 1000000 ∧ asks.length ≤ 1000000) (hz : ∀ x ∈ asks, x.size ≤ 1000000) : Calls Tryz.prog 17 [.agg (actC u1 u2 t Ae env.length ce Ai ins.length ci Aa asks.length ca Ao outs.length co).toArray].toArray W (Ret fun v w' => NewE w0 w' v env outs ins asks cs (commandsE t)) :=
 have hS := St.packS (xs := []) S
 (c_New G hS.1 ht he hi ha ho hen hez hl hz).mono (Ret.mono fun v w' h => newE_of hS.2 h)
end
end Go.Proofs.YtgcmddaibnimjaaGreatDoor
namespace Go.Proofs.YtgcmddaibnimjaaGreatDoor
open Go.RowKit Go.Eng
theorem oneK (k : Kn) : ∀ u ∈ encK k, u.oneCell' = true := all1 rfl
theorem lenK (k : Kn) : (encK k).length = 3 := rfl
def kz1 (k : Kn) : Nat := k.path.size + k.data.size + 1
def kz (l : List Kn) : Nat := (l.map kz1).sum
def sz1 (l : List ByteArray) : Nat := (l.map fun s => s.size + 1).sum
def ez1 (l : List (ByteArray × ByteArray)) : Nat := (l.map fun x => x.1.size + x.2.size + 1).sum
def gl (ins asks outs : List ByteArray) : List (List ByteArray) := [ins, asks, outs]
def lsz (l : List (List ByteArray)) : Nat := (l.map sz1).sum
def gz (t : ByteArray) (env : List (ByteArray × ByteArray)) (ins asks outs : List ByteArray) : Nat := t.size + lsz (gl ins asks outs) + ez1 env
theorem sum_take_succ {α : Type} (f : α → Nat) {l : List α} {j : Nat} (h : j < l.length) : ((l.take (j + 1)).map f).sum = ((l.take j).map f).sum + f l[j] := by
 rw [List.take_succ_eq_append_getElem h, List.map_append, List.sum_append]; simp
theorem sum_take_le {α : Type} (f : α → Nat) (l : List α) (j : Nat) : ((l.take j).map f).sum ≤ (l.map f).sum := by
 conv => rhs; rw [← List.take_append_drop j l]
 rw [List.map_append, List.sum_append]; omega
theorem sum_ge {α : Type} (f : α → Nat) (hf : ∀ x, 1 ≤ f x) : ∀ l : List α, l.length ≤ (l.map f).sum
 | [] => Nat.le_refl _
 | x :: l => by have := sum_ge f hf l; have := hf x; rw [List.map_cons, List.sum_cons, List.length_cons]; omega
theorem kz_len (l : List Kn) : l.length ≤ kz l := sum_ge kz1 (fun x => Nat.le_add_left _ _) l
theorem sz1_len (l : List ByteArray) : l.length ≤ sz1 l := sum_ge _ (fun x => Nat.le_add_left _ _) l
theorem ez1_len (l : List (ByteArray × ByteArray)) : l.length ≤ ez1 l := sum_ge _ (fun x => Nat.le_add_left _ _) l
theorem kz_succ {l : List Kn} {j : Nat} (h : j < l.length) : kz (l.take (j + 1)) = kz (l.take j) + (l[j].path.size + l[j].data.size + 1) := sum_take_succ kz1 h
theorem kz_le (l : List Kn) (j : Nat) : kz (l.take j) ≤ kz l := sum_take_le kz1 l j
theorem kz_add {l : List Kn} {j : Nat} (h : j < l.length) : ((kz (l.take j) : Nat) : Int) + ((l[j].path.size : Int) + (l[j].data.size : Int) + 1) = ((kz (l.take (j + 1)) : Nat) : Int) := by rw [kz_succ h]; omega
theorem sz1_succ {l : List ByteArray} {j : Nat} (h : j < l.length) : sz1 (l.take (j + 1)) = sz1 (l.take j) + (l[j].size + 1) := sum_take_succ _ h
theorem sz1_le (l : List ByteArray) (j : Nat) : sz1 (l.take j) ≤ sz1 l := sum_take_le _ l j
theorem sz1_add {l : List ByteArray} {j n : Nat} (h : j < l.length) : ((n + sz1 (l.take j) : Nat) : Int) + ((l[j].size : Int) + 1) = ((n + sz1 (l.take (j + 1)) : Nat) : Int) := by rw [sz1_succ h]; omega
theorem ez1_succ {l : List (ByteArray × ByteArray)} {j : Nat} (h : j < l.length) : ez1 (l.take (j + 1)) = ez1 (l.take j) + (l[j].1.size + l[j].2.size + 1) := sum_take_succ _ h
theorem ez1_le (l : List (ByteArray × ByteArray)) (j : Nat) : ez1 (l.take j) ≤ ez1 l := sum_take_le _ l j
theorem ez1_add {l : List (ByteArray × ByteArray)} {j n : Nat} (h : j < l.length) : ((n + ez1 (l.take j) : Nat) : Int) + ((l[j].1.size : Int) + (l[j].2.size : Int) + 1) = ((n + ez1 (l.take (j + 1)) : Nat) : Int) := by rw [ez1_succ h]; omega
theorem lsz_succ {l : List (List ByteArray)} {k : Nat} {xs : List ByteArray} (h : l[k]? = some xs) : lsz (l.take (k + 1)) = lsz (l.take k) + sz1 xs := by
 obtain ⟨hk, rfl⟩ := List.getElem?_eq_some_iff.1 h
 exact sum_take_succ sz1 hk
theorem lsz_le (l : List (List ByteArray)) (k : Nat) : lsz (l.take k) ≤ lsz l := sum_take_le _ l k
theorem gl_at {w0 w : World} {hs : List Res} {ins asks outs : List ByteArray} {Ai Aa Ao : Option Addr} {ci ca co b i k : Nat} (hi : Sl w0 1 encS Ai ins) (ha : Sl w0 1 encS Aa asks) (ho : Sl w0 1 encS Ao outs) (S : St w0 w hs)
  (h : nth hs i = some (bk b 25 [.slice Ai ins.length ci, .slice Aa asks.length ca, .slice Ao outs.length co])) (hk : k < 3) : ∃ xs Ax cx, (gl ins asks outs)[k]? = some xs ∧ Sl w0 1 encS Ax xs ∧ w.cell? ⟨b, 0 + k * 1, none⟩ = some (.slice Ax xs.length cx) := by
 match k, hk with
 | 0, _ => exact ⟨ins, Ai, ci, rfl, hi, S.cell h rfl⟩
 | 1, _ => exact ⟨asks, Aa, ca, rfl, ha, S.cell h rfl⟩
 | 2, _ => exact ⟨outs, Ao, co, rfl, ho, S.cell h rfl⟩
theorem c_Many {A : Option Addr} {c : Nat} {known : List Kn} (w0 : World) (hA : Sl w0 3 encK A known) (hz : kz known ≤ 100000000) : Calls Tryz.prog 16 [.slice A known.length c].toArray w0 (Ret fun v w' => v = .bool (decide (5000 < ((kz known : Nat) : Int))) ∧ Below w0.heap.size w0 w') := by
 refine ent Tryz.func16 Tryz.ntmps16 rfl rfl ?_
 intro a F
 have S := St.refl w0
 refine sq fun K1 hK1 => ?_
 refine rg ?_
 refine dv F (y_as rfl rfl) rfl rfl rfl fun a F => ?_
 refine dn ?_
 refine tn <| hK1 _ _ ?_
 refine sq fun K2 hK2 => ?_
 refine rg ?_
 refine dv F (y_as rfl rfl) rfl rfl rfl fun a F => ?_
 refine dn ?_
 refine tn <| hK2 _ _ ?_
 refine sq fun K3 hK3 => ?_
 refine sq fun K4 hK4 => ?_
 refine rg ?_
 refine dv F (y_mv rfl rfl) rfl rfl rfl fun a F => ?_
 refine dv F (y_ln rfl rfl Tryz.underlying28) rfl rfl rfl fun a F => ?_
 refine dv F (y_mv rfl rfl) rfl rfl rfl fun a F => ?_
 refine dn ?_
 refine tn <| hK4 _ _ ?_
 refine bl ?_
 refine lp (fun m a w => ∃ j : Nat, m = known.length - j ∧ (j ≤ known.length) ∧ Fr 25 a [(3, .int .i64 ((kz (known.take j) : Nat) : Int)), (6, .slice A known.length c), (7, .int .i64 (known.length : Int)), (8, .int .i64 (j : Int))] ∧ St w0 w []) (known.length) ?_ ?_
 ·exact ⟨0, rfl, Nat.zero_le _, F.sub _ ⟨rfl, rfl, rfl, rfl, trivial⟩, S.pick [] _ trivial rfl⟩
 ·rintro m a w ⟨j, hm, hj, F, S⟩
  refine sq fun K5 hK5 => ?_
  have hkl := kz_len known
  refine rg ?_
  refine dv F (y_lt rfl rfl rfl) rfl rfl rfl fun a F => ?_
  refine dn ?_
  refine tn <| hK5 _ _ ?_
  refine sq fun K6 hK6 => ?_
  refine cd F rfl (fun hlt => ?_) (fun hlt => ?_)
  ·refine wp_skip ?_
   refine tn <| hK6 _ _ ?_
   refine sq fun K7 hK7 => ?_
   refine bl ?_
   refine sq fun K8 hK8 => ?_
   replace hlt : j < known.length := by omega
   obtain ⟨ab, ao, rfl, hab, hcell⟩ := (hA.st S).at_ (j := j) hlt
   refine rg ?_
   refine dv F (y_ia rfl rfl rfl rfl Tryz.underlying28 Tryz.sizeOf55 j rfl hlt) rfl rfl rfl fun a F => ?_
   refine dv F (y_ld rfl rfl (lda Tryz.isAgg55 Tryz.sizeOf55 (lenK _) hcell)) rfl rfl rfl fun a F => ?_
   refine dal F S rfl Tryz.zeroValue55 rfl rfl rfl rfl fun a w b5 F S => ?_
   refine dsw F S rfl rfl rfl Tryz.sizeOf55 (i := 0) rfl rfl rfl rfl (oneK _) rfl rfl fun a w F S => ?_
   refine dn ?_
   refine tn <| hK8 _ _ ?_
   have hk1 := kz_succ hlt
   have hk2 := kz_le known (j + 1)
   refine rg ?_
   refine dv F (y_mv rfl rfl) rfl rfl rfl fun a F => ?_
   refine dv F (y_fa rfl rfl fi55_0) rfl rfl rfl fun a F => ?_
   refine dv F (y_ld rfl rfl (S.ld (i := 0) rfl rfl Tryz.isAgg9)) rfl rfl rfl fun a F => ?_
   refine dv F (y_ls rfl rfl Tryz.underlying9) rfl rfl rfl fun a F => ?_
   refine dv F (y_fa rfl rfl fi55_2) rfl rfl rfl fun a F => ?_
   refine dv F (y_ld rfl rfl (S.ld (i := 0) rfl rfl Tryz.isAgg9)) rfl rfl rfl fun a F => ?_
   refine dv F (y_ls rfl rfl Tryz.underlying9) rfl rfl rfl fun a F => ?_
   refine dv F (y_add rfl rfl rfl (by omega)) rfl rfl rfl fun a F => ?_
   refine dv F (y_add rfl rfl rfl (by omega)) rfl rfl rfl fun a F => ?_
   refine dv F (y_add rfl rfl rfl (by omega)) rfl rfl rfl fun a F => ?_
   refine dv F (y_as rfl rfl) rfl rfl rfl fun a F => ?_
   refine dn ?_
   refine bn <| tn <| hK7 _ _ ?_
   rw [kz_add hlt] at F
   refine rg ?_
   refine dv F (y_add rfl rfl rfl (by omega)) rfl rfl rfl fun a F => ?_
   refine dv F (y_mv rfl rfl) rfl rfl rfl fun a F => ?_
   refine dn ?_
   exact ln (by omega) ⟨j + 1, rfl, by omega, F.sub _ ⟨rfl, rfl, rfl, rfl, trivial⟩, S.pick [] _ trivial rfl⟩
  ·refine wp_exit ?_
   refine tx <| lx <| bh <| tn <| hK3 _ _ ?_
   refine sq fun K9 hK9 => ?_
   have hje : j = known.length := by omega
   subst hje
   rw [List.take_length] at F
   refine rg ?_
   refine dv F (y_mv rfl rfl) rfl rfl rfl fun a F => ?_
   refine dv F (y_gt rfl rfl rfl) rfl rfl rfl fun a F => ?_
   refine dv F (y_as rfl rfl) rfl rfl rfl fun a F => ?_
   refine dn ?_
   refine tn <| hK9 _ _ ?_
   refine wp_ret ?_
   refine ?_
   exact rt1 F rfl rfl ⟨rfl, S.bel⟩
theorem c_Great {u1 u2 : Value} {t : ByteArray} {Ae Ai Aa Ao : Option Addr} {ce ci ca co : Nat} {env : List (ByteArray × ByteArray)} {ins asks outs : List ByteArray} (w0 : World) (he : Sl w0 2 encSt Ae env) (hi : Sl w0 1 encS Ai ins) (ha : Sl w0 1 encS Aa asks) (ho : Sl w0 1 encS Ao outs) (hz : gz t env ins asks outs ≤ 100000000) : Calls Tryz.prog 15 [.agg (actC u1 u2 t Ae env.length ce Ai ins.length ci Aa asks.length ca Ao outs.length co).toArray].toArray w0 (Ret fun v w' => v = .bool (decide (2000 < ((gz t env ins asks outs : Nat) : Int))) ∧ Below w0.heap.size w0 w') := by
 refine ent Tryz.func15 Tryz.ntmps15 rfl rfl ?_
 intro a F
 have S := St.refl w0
 refine sq fun K1 hK1 => ?_
 refine rg ?_
 refine dbx F S rfl rfl rfl rfl rfl rfl fun a w b1 F S => ?_
 refine dv F (y_as rfl rfl) rfl rfl rfl fun a F => ?_
 refine dn ?_
 refine tn <| hK1 _ _ ?_
 refine sq fun K2 hK2 => ?_
 have hz0 : t.size + lsz (gl ins asks outs) + ez1 env ≤ 100000000 := hz
 refine rg ?_
 refine dv F (y_fa rfl rfl fi27_1) rfl rfl rfl fun a F => ?_
 refine dv F (y_ld rfl rfl (S.ld (i := 0) rfl rfl Tryz.isAgg9)) rfl rfl rfl fun a F => ?_
 refine dv F (y_ls rfl rfl Tryz.underlying9) rfl rfl rfl fun a F => ?_
 refine dv F (y_as rfl rfl) rfl rfl rfl fun a F => ?_
 refine dn ?_
 refine tn <| hK2 _ _ ?_
 refine sq fun K3 hK3 => ?_
 refine sq fun K4 hK4 => ?_
 refine rg ?_
 refine dv F (y_fa rfl rfl fi27_3) rfl rfl rfl fun a F => ?_
 refine dv F (y_ld rfl rfl (S.ld (i := 0) rfl rfl Tryz.isAgg25)) rfl rfl rfl fun a F => ?_
 refine dv F (y_fa rfl rfl fi27_4) rfl rfl rfl fun a F => ?_
 refine dv F (y_ld rfl rfl (S.ld (i := 0) rfl rfl Tryz.isAgg25)) rfl rfl rfl fun a F => ?_
 refine dv F (y_fa rfl rfl fi27_5) rfl rfl rfl fun a F => ?_
 refine dv F (y_ld rfl rfl (S.ld (i := 0) rfl rfl Tryz.isAgg25)) rfl rfl rfl fun a F => ?_
 refine dbs (cs := [.slice Ai ins.length ci, .slice Aa asks.length ca, .slice Ao outs.length co]) (e := 25) F S rfl rfl (fun w => by kernel_rfl) rfl rfl rfl fun a w b19 F S => ?_
 refine dv F (y_ln rfl rfl Tryz.underlying107) rfl rfl rfl fun a F => ?_
 refine dv F (y_mv rfl rfl) rfl rfl rfl fun a F => ?_
 refine dn ?_
 refine tn <| hK4 _ _ ?_
 refine bl ?_
 refine lp (fun m a w => ∃ k : Nat, m = 3 - k ∧ (k ≤ 3) ∧ Fr 58 a [(1, pt b1), (3, .int .i64 ((t.size + lsz ((gl ins asks outs).take k) : Nat) : Int)), (19, .slice (some ⟨b19, 0, none⟩) 3 3), (20, .int .i64 3), (21, .int .i64 (k : Int))] ∧ St w0 w [bk b1 27 (actC u1 u2 t Ae env.length ce Ai ins.length ci Aa asks.length ca Ao outs.length co), bk b19 25 [.slice Ai ins.length ci, .slice Aa asks.length ca, .slice Ao outs.length co]]) (3) ?_ ?_
 ·exact ⟨0, rfl, Nat.zero_le _, F.sub _ ⟨rfl, rfl, rfl, rfl, rfl, trivial⟩, S.pick [0, 1] _ ⟨rfl, rfl, trivial⟩ rfl⟩
 ·rintro m a w ⟨k, hm, hk, F, S⟩
  refine sq fun K5 hK5 => ?_
  refine rg ?_
  refine dv F (y_lt rfl rfl rfl) rfl rfl rfl fun a F => ?_
  refine dn ?_
  refine tn <| hK5 _ _ ?_
  refine sq fun K6 hK6 => ?_
  refine cd F rfl (fun hlt => ?_) (fun hlt => ?_)
  ·refine wp_skip ?_
   refine tn <| hK6 _ _ ?_
   refine sq fun K7 hK7 => ?_
   refine bl ?_
   refine sq fun K8 hK8 => ?_
   obtain ⟨xs, Ax, cx, hgk, hxA, hcl⟩ := gl_at (k := k) hi ha ho S (i := 1) rfl (by omega)
   refine rg ?_
   refine dv F (y_ia rfl rfl rfl rfl Tryz.underlying107 Tryz.sizeOf25 k rfl (by omega)) rfl rfl rfl fun a F => ?_
   refine dv F (y_ld rfl rfl (ld1 Tryz.isAgg25 hcl)) rfl rfl rfl fun a F => ?_
   refine dv F (y_as rfl rfl) rfl rfl rfl fun a F => ?_
   refine dn ?_
   refine tn <| hK8 _ _ ?_
   refine sq fun K9 hK9 => ?_
   have hxl := sz1_len xs
   have hz1 : lsz ((gl ins asks outs).take (k + 1)) = lsz ((gl ins asks outs).take k) + sz1 xs := lsz_succ hgk
   have hz2 := lsz_le (gl ins asks outs) (k + 1)
   refine rg ?_
   refine dv F (y_mv rfl rfl) rfl rfl rfl fun a F => ?_
   refine dv F (y_ln rfl rfl Tryz.underlying25) rfl rfl rfl fun a F => ?_
   refine dv F (y_mv rfl rfl) rfl rfl rfl fun a F => ?_
   refine dn ?_
   refine tn <| hK9 _ _ ?_
   refine bl ?_
   refine lp (fun m a w => ∃ j : Nat, m = xs.length - j ∧ (j ≤ xs.length) ∧ Fr 58 a [(1, pt b1), (3, .int .i64 ((t.size + lsz ((gl ins asks outs).take k) + sz1 (xs.take j) : Nat) : Int)), (19, .slice (some ⟨b19, 0, none⟩) 3 3), (20, .int .i64 3), (21, .int .i64 (k : Int)), (25, .slice Ax xs.length cx), (26, .int .i64 (xs.length : Int)), (27, .int .i64 (j : Int))] ∧ St w0 w [bk b1 27 (actC u1 u2 t Ae env.length ce Ai ins.length ci Aa asks.length ca Ao outs.length co), bk b19 25 [.slice Ai ins.length ci, .slice Aa asks.length ca, .slice Ao outs.length co]]) (xs.length) ?_ ?_
   ·exact ⟨0, rfl, Nat.zero_le _, F.sub _ ⟨rfl, rfl, rfl, rfl, rfl, rfl, rfl, rfl, trivial⟩, S.pick [0, 1] _ ⟨rfl, rfl, trivial⟩ rfl⟩
   ·rintro m a w ⟨j, hm, hj, F, S⟩
    refine sq fun K10 hK10 => ?_
    refine rg ?_
    refine dv F (y_lt rfl rfl rfl) rfl rfl rfl fun a F => ?_
    refine dn ?_
    refine tn <| hK10 _ _ ?_
    refine sq fun K11 hK11 => ?_
    refine cd F rfl (fun hjt => ?_) (fun hjt => ?_)
    ·refine wp_skip ?_
     refine tn <| hK11 _ _ ?_
     refine sq fun K12 hK12 => ?_
     refine bl ?_
     refine sq fun K13 hK13 => ?_
     replace hjt : j < xs.length := by omega
     obtain ⟨ab, ao, rfl, hab, hcell⟩ := (hxA.st S).at_ (j := j) hjt
     refine rg ?_
     refine dv F (y_ia rfl rfl rfl rfl Tryz.underlying25 Tryz.sizeOf9 j rfl hjt) rfl rfl rfl fun a F => ?_
     refine dv F (y_ld rfl rfl (ld1 Tryz.isAgg9 (hcell 0 _ rfl))) rfl rfl rfl fun a F => ?_
     refine dv F (y_as rfl rfl) rfl rfl rfl fun a F => ?_
     refine dn ?_
     refine tn <| hK13 _ _ ?_
     have hk1 := sz1_succ hjt
     have hk2 := sz1_le xs (j + 1)
     refine rg ?_
     refine dv F (y_mv rfl rfl) rfl rfl rfl fun a F => ?_
     refine dv F (y_mv rfl rfl) rfl rfl rfl fun a F => ?_
     refine dv F (y_ls rfl rfl Tryz.underlying9) rfl rfl rfl fun a F => ?_
     refine dv F (y_add rfl rfl rfl (by omega)) rfl rfl rfl fun a F => ?_
     refine dv F (y_add rfl rfl rfl (by omega)) rfl rfl rfl fun a F => ?_
     refine dv F (y_as rfl rfl) rfl rfl rfl fun a F => ?_
     refine dn ?_
     refine bn <| tn <| hK12 _ _ ?_
     rw [sz1_add hjt] at F
     refine rg ?_
     refine dv F (y_add rfl rfl rfl (by omega)) rfl rfl rfl fun a F => ?_
     refine dv F (y_mv rfl rfl) rfl rfl rfl fun a F => ?_
     refine dn ?_
     exact ln (by omega) ⟨j + 1, rfl, by omega, F.sub _ ⟨rfl, rfl, rfl, rfl, rfl, rfl, rfl, rfl, trivial⟩, S.pick [0, 1] _ ⟨rfl, rfl, trivial⟩ rfl⟩
    ·refine wp_exit ?_
     refine tx <| lx <| bh <| bn <| tn <| hK7 _ _ ?_
     have hje : j = xs.length := by omega
     subst hje
     rw [List.take_length, Nat.add_assoc, ← hz1] at F
     refine rg ?_
     refine dv F (y_add rfl rfl rfl (by omega)) rfl rfl rfl fun a F => ?_
     refine dv F (y_mv rfl rfl) rfl rfl rfl fun a F => ?_
     refine dn ?_
     exact ln (by omega) ⟨k + 1, rfl, by omega, F.sub _ ⟨rfl, rfl, rfl, rfl, rfl, trivial⟩, S.pick [0, 1] _ ⟨rfl, rfl, trivial⟩ rfl⟩
  ·refine wp_exit ?_
   refine tx <| lx <| bh <| tn <| hK3 _ _ ?_
   refine sq fun K14 hK14 => ?_
   refine sq fun K15 hK15 => ?_
   have hel := ez1_len env
   have hke : k = 3 := by omega
   subst hke
   rw [show (gl ins asks outs).take 3 = gl ins asks outs from rfl] at F
   refine rg ?_
   refine dv F (y_fa rfl rfl fi27_2) rfl rfl rfl fun a F => ?_
   refine dv F (y_ld rfl rfl (S.ld (i := 0) rfl rfl Tryz.isAgg24)) rfl rfl rfl fun a F => ?_
   refine dv F (y_ln rfl rfl Tryz.underlying24) rfl rfl rfl fun a F => ?_
   refine dv F (y_mv rfl rfl) rfl rfl rfl fun a F => ?_
   refine dn ?_
   refine tn <| hK15 _ _ ?_
   refine bl ?_
   refine lp (fun m a w => ∃ j : Nat, m = env.length - j ∧ (j ≤ env.length) ∧ Fr 58 a [(3, .int .i64 ((t.size + lsz (gl ins asks outs) + ez1 (env.take j) : Nat) : Int)), (39, .slice Ae env.length ce), (40, .int .i64 (env.length : Int)), (41, .int .i64 (j : Int))] ∧ St w0 w []) (env.length) ?_ ?_
   ·exact ⟨0, rfl, Nat.zero_le _, F.sub _ ⟨rfl, rfl, rfl, rfl, trivial⟩, S.pick [] _ trivial rfl⟩
   ·repeat clear S
    rintro m a w ⟨j, hm, hj, F, S⟩
    refine sq fun K16 hK16 => ?_
    refine rg ?_
    refine dv F (y_lt rfl rfl rfl) rfl rfl rfl fun a F => ?_
    refine dn ?_
    refine tn <| hK16 _ _ ?_
    refine sq fun K17 hK17 => ?_
    refine cd F rfl (fun hjt => ?_) (fun hjt => ?_)
    ·refine wp_skip ?_
     refine tn <| hK17 _ _ ?_
     refine sq fun K18 hK18 => ?_
     refine bl ?_
     refine sq fun K19 hK19 => ?_
     replace hjt : j < env.length := by omega
     obtain ⟨ab, ao, rfl, hab, hcell⟩ := (he.st S).at_ (j := j) hjt
     refine rg ?_
     refine dv F (y_ia rfl rfl rfl rfl Tryz.underlying24 Tryz.sizeOf109 j rfl hjt) rfl rfl rfl fun a F => ?_
     refine dv F (y_ld rfl rfl (lda Tryz.isAgg109 Tryz.sizeOf109 (lenSt _) hcell)) rfl rfl rfl fun a F => ?_
     refine dal F S rfl Tryz.zeroValue109 rfl rfl rfl rfl fun a w b9 F S => ?_
     refine dsw F S rfl rfl rfl Tryz.sizeOf109 (i := 0) rfl rfl rfl rfl (oneSt _) rfl rfl fun a w F S => ?_
     refine dn ?_
     refine tn <| hK19 _ _ ?_
     have hk1 := ez1_succ hjt
     have hk2 := ez1_le env (j + 1)
     refine rg ?_
     refine dv F (y_mv rfl rfl) rfl rfl rfl fun a F => ?_
     refine dv F (y_fa rfl rfl fi109_0) rfl rfl rfl fun a F => ?_
     refine dv F (y_ld rfl rfl (S.ld (i := 0) rfl rfl Tryz.isAgg9)) rfl rfl rfl fun a F => ?_
     refine dv F (y_ls rfl rfl Tryz.underlying9) rfl rfl rfl fun a F => ?_
     refine dv F (y_fa rfl rfl fi109_1) rfl rfl rfl fun a F => ?_
     refine dv F (y_ld rfl rfl (S.ld (i := 0) rfl rfl Tryz.isAgg9)) rfl rfl rfl fun a F => ?_
     refine dv F (y_ls rfl rfl Tryz.underlying9) rfl rfl rfl fun a F => ?_
     refine dv F (y_add rfl rfl rfl (by omega)) rfl rfl rfl fun a F => ?_
     refine dv F (y_add rfl rfl rfl (by omega)) rfl rfl rfl fun a F => ?_
     refine dv F (y_add rfl rfl rfl (by omega)) rfl rfl rfl fun a F => ?_
     refine dv F (y_as rfl rfl) rfl rfl rfl fun a F => ?_
     refine dn ?_
     refine bn <| tn <| hK18 _ _ ?_
     rw [ez1_add hjt] at F
     refine rg ?_
     refine dv F (y_add rfl rfl rfl (by omega)) rfl rfl rfl fun a F => ?_
     refine dv F (y_mv rfl rfl) rfl rfl rfl fun a F => ?_
     refine dn ?_
     exact ln (by omega) ⟨j + 1, rfl, by omega, F.sub _ ⟨rfl, rfl, rfl, rfl, trivial⟩, S.pick [] _ trivial rfl⟩
    ·refine wp_exit ?_
     refine tx <| lx <| bh <| tn <| hK14 _ _ ?_
     refine sq fun K20 hK20 => ?_
     have hje : j = env.length := by omega
     subst hje
     rw [List.take_length] at F
     refine rg ?_
     refine dv F (y_mv rfl rfl) rfl rfl rfl fun a F => ?_
     refine dv F (y_gt rfl rfl rfl) rfl rfl rfl fun a F => ?_
     refine dv F (y_as rfl rfl) rfl rfl rfl fun a F => ?_
     refine dn ?_
     refine tn <| hK20 _ _ ?_
     refine wp_ret ?_
     refine ?_
     exact rt1 F rfl rfl ⟨rfl, S.bel⟩
end Go.Proofs.YtgcmddaibnimjaaGreatDoor
