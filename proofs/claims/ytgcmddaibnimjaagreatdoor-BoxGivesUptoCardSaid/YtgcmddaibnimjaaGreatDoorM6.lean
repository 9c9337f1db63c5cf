/- A part of the proof of a law of this seat. No condition of its own. -/
import Derived.Test.YtgcmddaibnimjaaGreatDoorM5
import Derived.ProofKit
import Derived.SizedLaws
import Derived.Deep.Slices
import Derived.OpenShut
import Derived.Test.YtgcmddaibnimjaaGreatDoorRows
set_option linter.unusedVariables false
set_option linter.unusedSimpArgs false
namespace Go.Proofs.YtgcmddaibnimjaaGreatDoor
open Go.RowKit Go.Eng
def sameO (p q : Oc) : Bool := decide (p.kind = q.kind) && decide (p.why = q.why) && decide (p.outs = q.outs) && decide (p.reads = q.reads)
theorem sameO_yes {p q : Oc} (h1 : p.kind = q.kind) (h2 : p.why = q.why) (h3 : p.outs = q.outs) (h4 : p.reads = q.reads) : sameO p q = true := by simp [sameO, h1, h2, h3, h4]
theorem sameO_rfl (p : Oc) : sameO p p = true := sameO_yes rfl rfl rfl rfl
theorem sameO_eq {p q : Oc} (h : sameO p q = true) : p = q := by
 simp only [sameO, Bool.and_eq_true, decide_eq_true_eq] at h
 cases p; cases q; simp_all
theorem sameO_no {p q : Oc} (h : ¬ p = q) : sameO p q = false := by
 cases hs : sameO p q
 ·rfl
 ·exact absurd (sameO_eq hs) h
theorem take_eq {α : Type} {l m : List α} {i : Nat} (h1 : i < l.length) (h2 : i < m.length) (h : l.take i = m.take i) (he : l[i] = m[i]) : l.take (i + 1) = m.take (i + 1) := by
 rw [List.take_succ_eq_append_getElem h1, List.take_succ_eq_append_getElem h2, h, he]
set_option maxRecDepth 4000
set_option maxHeartbeats 1000000 in
theorem c_Same {p q : Oc} {A1 A2 B1 B2 : Option Addr} {c1 c2 d1 d2 : Nat} (w0 : World) (sx1 : Sl w0 2 encSt A1 p.outs) (sx2 : Sl w0 34 encRd A2 p.reads) (sy1 : Sl w0 2 encSt B1 q.outs) (sy2 : Sl w0 34 encRd B2 q.reads) (hl : p.outs.length ≤ 1000000 ∧ p.reads.length ≤ 1000000) : Calls Tryz.prog 21 [.agg (encOc p A1 c1 A2 c2).toArray, .agg (encOc q B1 d1 B2 d2).toArray].toArray w0 (Ret fun v w' => v = .bool (sameO p q) ∧ Below w0.heap.size w0 w') := by
 refine ent Tryz.func21 Tryz.ntmps21 rfl rfl ?_
 intro a F
 have S := St.refl w0
 refine sq fun K1 hK1 => ?_
 refine rg ?_
 refine dbx F S rfl rfl rfl rfl rfl rfl fun a w b2 F S => ?_
 refine dbx F S rfl rfl rfl rfl rfl rfl fun a w b3 F S => ?_
 refine dv F (y_as rfl rfl) rfl rfl rfl fun a F => ?_
 refine dn ?_
 refine tn <| hK1 _ _ ?_
 refine sq fun K2 hK2 => ?_
 refine sq fun K3 hK3 => ?_
 refine rg ?_
 refine dv F (y_fa rfl rfl fi41_0) rfl rfl rfl fun a F => ?_
 refine dv F (y_ld rfl rfl (S.ld (i := 0) rfl rfl Tryz.isAgg3)) rfl rfl rfl fun a F => ?_
 refine dv F (y_fa rfl rfl fi41_0) rfl rfl rfl fun a F => ?_
 refine dv F (y_ld rfl rfl (S.ld (i := 1) rfl rfl Tryz.isAgg3)) rfl rfl rfl fun a F => ?_
 refine dv F (y_in rfl rfl rfl) rfl rfl rfl fun a F => ?_
 refine dv F (y_mv rfl rfl) rfl rfl rfl fun a F => ?_
 refine gsp F 12 rfl (fun h1 => ?_) (fun h1 => ?_)
 ·have g1 := h1
  try simp only [decide_eq_true_eq, decide_eq_false_iff_not, Bool.not_eq_true', Bool.not_eq_false', Bool.not_eq_eq_eq_not, Bool.not_true, Bool.not_false, Decidable.not_not] at g1
  refine gs F rfl rfl rfl h1 rfl rfl fun a F => ?_
  refine gs F rfl rfl rfl h1 rfl rfl fun a F => ?_
  refine gs F rfl rfl rfl h1 rfl rfl fun a F => ?_
  refine gs F rfl rfl rfl h1 rfl rfl fun a F => ?_
  refine gs F rfl rfl rfl h1 rfl rfl fun a F => ?_
  refine dv F (y_pkt h1 rfl rfl rfl) rfl rfl rfl fun a F => ?_
  refine dv F (y_mv rfl rfl) rfl rfl rfl fun a F => ?_
  refine gs F rfl rfl rfl rfl rfl rfl fun a F => ?_
  refine gs F rfl rfl rfl rfl rfl rfl fun a F => ?_
  refine gs F rfl rfl rfl rfl rfl rfl fun a F => ?_
  refine gs F rfl rfl rfl rfl rfl rfl fun a F => ?_
  refine gs F rfl rfl rfl rfl rfl rfl fun a F => ?_
  refine gs F rfl rfl rfl rfl rfl rfl fun a F => ?_
  refine gs F rfl rfl rfl rfl rfl rfl fun a F => ?_
  refine dv F (y_pkt rfl rfl rfl rfl) rfl rfl rfl fun a F => ?_
  refine dv F (y_mv rfl rfl) rfl rfl rfl fun a F => ?_
  refine gs F rfl rfl rfl rfl rfl rfl fun a F => ?_
  refine gs F rfl rfl rfl rfl rfl rfl fun a F => ?_
  refine gs F rfl rfl rfl rfl rfl rfl fun a F => ?_
  refine gs F rfl rfl rfl rfl rfl rfl fun a F => ?_
  refine gs F rfl rfl rfl rfl rfl rfl fun a F => ?_
  refine gs F rfl rfl rfl rfl rfl rfl fun a F => ?_
  refine gs F rfl rfl rfl rfl rfl rfl fun a F => ?_
  refine dv F (y_pkt rfl rfl rfl rfl) rfl rfl rfl fun a F => ?_
  refine dn ?_
  refine tn <| hK3 _ _ ?_
  refine ct F rfl rfl ?_
  refine sq fun K4 hK4 => ?_
  refine rg ?_
  refine dv F (y_as rfl rfl) rfl rfl rfl fun a F => ?_
  refine dn ?_
  refine tn <| hK4 _ _ ?_
  refine wp_ret ?_
  refine tr <| ?_
  exact rt1 F rfl rfl ⟨congrArg Value.bool (sameO_no fun e => by subst e; simp_all).symm, S.bel⟩
 ·have g1 := h1
  try simp only [decide_eq_true_eq, decide_eq_false_iff_not, Bool.not_eq_true', Bool.not_eq_false', Bool.not_eq_eq_eq_not, Bool.not_true, Bool.not_false, Decidable.not_not] at g1
  refine gv F rfl rfl rfl h1 (y_fa rfl rfl fi41_1) rfl rfl fun a F => ?_
  refine gv F rfl rfl rfl h1 (y_ld rfl rfl (S.ld (i := 0) rfl rfl Tryz.isAgg33)) rfl rfl fun a F => ?_
  refine gv F rfl rfl rfl h1 (y_fa rfl rfl fi41_1) rfl rfl fun a F => ?_
  refine gv F rfl rfl rfl h1 (y_ld rfl rfl (S.ld (i := 1) rfl rfl Tryz.isAgg33)) rfl rfl fun a F => ?_
  refine gv F rfl rfl rfl h1 (y_in rfl rfl rfl) rfl rfl fun a F => ?_
  refine dv F (y_pkf h1 rfl rfl rfl) rfl rfl rfl fun a F => ?_
  refine dv F (y_mv rfl rfl) rfl rfl rfl fun a F => ?_
  refine gsp F 19 rfl (fun h2 => ?_) (fun h2 => ?_)
  ·have g2 := h2
   try simp only [decide_eq_true_eq, decide_eq_false_iff_not, Bool.not_eq_true', Bool.not_eq_false', Bool.not_eq_eq_eq_not, Bool.not_true, Bool.not_false, Decidable.not_not] at g2
   refine gs F rfl rfl rfl h2 rfl rfl fun a F => ?_
   refine gs F rfl rfl rfl h2 rfl rfl fun a F => ?_
   refine gs F rfl rfl rfl h2 rfl rfl fun a F => ?_
   refine gs F rfl rfl rfl h2 rfl rfl fun a F => ?_
   refine gs F rfl rfl rfl h2 rfl rfl fun a F => ?_
   refine gs F rfl rfl rfl h2 rfl rfl fun a F => ?_
   refine gs F rfl rfl rfl h2 rfl rfl fun a F => ?_
   refine dv F (y_pkt h2 rfl rfl rfl) rfl rfl rfl fun a F => ?_
   refine dv F (y_mv rfl rfl) rfl rfl rfl fun a F => ?_
   refine gs F rfl rfl rfl rfl rfl rfl fun a F => ?_
   refine gs F rfl rfl rfl rfl rfl rfl fun a F => ?_
   refine gs F rfl rfl rfl rfl rfl rfl fun a F => ?_
   refine gs F rfl rfl rfl rfl rfl rfl fun a F => ?_
   refine gs F rfl rfl rfl rfl rfl rfl fun a F => ?_
   refine gs F rfl rfl rfl rfl rfl rfl fun a F => ?_
   refine gs F rfl rfl rfl rfl rfl rfl fun a F => ?_
   refine dv F (y_pkt rfl rfl rfl rfl) rfl rfl rfl fun a F => ?_
   refine dn ?_
   refine tn <| hK3 _ _ ?_
   refine ct F rfl rfl ?_
   refine sq fun K5 hK5 => ?_
   refine rg ?_
   refine dv F (y_as rfl rfl) rfl rfl rfl fun a F => ?_
   refine dn ?_
   refine tn <| hK5 _ _ ?_
   refine wp_ret ?_
   refine tr <| ?_
   exact rt1 F rfl rfl ⟨congrArg Value.bool (sameO_no fun e => by subst e; simp_all).symm, S.bel⟩
  ·have g2 := h2
   try simp only [decide_eq_true_eq, decide_eq_false_iff_not, Bool.not_eq_true', Bool.not_eq_false', Bool.not_eq_eq_eq_not, Bool.not_true, Bool.not_false, Decidable.not_not] at g2
   refine gv F rfl rfl rfl h2 (y_fa rfl rfl fi41_2) rfl rfl fun a F => ?_
   refine gv F rfl rfl rfl h2 (y_ld rfl rfl (S.ld (i := 0) rfl rfl Tryz.isAgg38)) rfl rfl fun a F => ?_
   refine gv F rfl rfl rfl h2 (y_ln rfl rfl Tryz.underlying38) rfl rfl fun a F => ?_
   refine gv F rfl rfl rfl h2 (y_fa rfl rfl fi41_2) rfl rfl fun a F => ?_
   refine gv F rfl rfl rfl h2 (y_ld rfl rfl (S.ld (i := 1) rfl rfl Tryz.isAgg38)) rfl rfl fun a F => ?_
   refine gv F rfl rfl rfl h2 (y_ln rfl rfl Tryz.underlying38) rfl rfl fun a F => ?_
   refine gv F rfl rfl rfl h2 (y_in rfl rfl rfl) rfl rfl fun a F => ?_
   refine dv F (y_pkf h2 rfl rfl rfl) rfl rfl rfl fun a F => ?_
   refine dv F (y_mv rfl rfl) rfl rfl rfl fun a F => ?_
   refine gsp F 28 rfl (fun h3 => ?_) (fun h3 => ?_)
   ·have g3 := h3
    try simp only [decide_eq_true_eq, decide_eq_false_iff_not, Bool.not_eq_true', Bool.not_eq_false', Bool.not_eq_eq_eq_not, Bool.not_true, Bool.not_false, Decidable.not_not] at g3
    refine gs F rfl rfl rfl h3 rfl rfl fun a F => ?_
    refine gs F rfl rfl rfl h3 rfl rfl fun a F => ?_
    refine gs F rfl rfl rfl h3 rfl rfl fun a F => ?_
    refine gs F rfl rfl rfl h3 rfl rfl fun a F => ?_
    refine gs F rfl rfl rfl h3 rfl rfl fun a F => ?_
    refine gs F rfl rfl rfl h3 rfl rfl fun a F => ?_
    refine gs F rfl rfl rfl h3 rfl rfl fun a F => ?_
    refine dv F (y_pkt h3 rfl rfl rfl) rfl rfl rfl fun a F => ?_
    refine dn ?_
    refine tn <| hK3 _ _ ?_
    refine ct F rfl rfl ?_
    refine sq fun K6 hK6 => ?_
    refine rg ?_
    refine dv F (y_as rfl rfl) rfl rfl rfl fun a F => ?_
    refine dn ?_
    refine tn <| hK6 _ _ ?_
    refine wp_ret ?_
    refine tr <| ?_
    exact rt1 F rfl rfl ⟨congrArg Value.bool (sameO_no fun e => by subst e; simp_all).symm, S.bel⟩
   ·have g3 := h3
    try simp only [decide_eq_true_eq, decide_eq_false_iff_not, Bool.not_eq_true', Bool.not_eq_false', Bool.not_eq_eq_eq_not, Bool.not_true, Bool.not_false, Decidable.not_not] at g3
    refine gv F rfl rfl rfl h3 (y_fa rfl rfl fi41_3) rfl rfl fun a F => ?_
    refine gv F rfl rfl rfl h3 (y_ld rfl rfl (S.ld (i := 0) rfl rfl Tryz.isAgg39)) rfl rfl fun a F => ?_
    refine gv F rfl rfl rfl h3 (y_ln rfl rfl Tryz.underlying39) rfl rfl fun a F => ?_
    refine gv F rfl rfl rfl h3 (y_fa rfl rfl fi41_3) rfl rfl fun a F => ?_
    refine gv F rfl rfl rfl h3 (y_ld rfl rfl (S.ld (i := 1) rfl rfl Tryz.isAgg39)) rfl rfl fun a F => ?_
    refine gv F rfl rfl rfl h3 (y_ln rfl rfl Tryz.underlying39) rfl rfl fun a F => ?_
    refine gv F rfl rfl rfl h3 (y_in rfl rfl rfl) rfl rfl fun a F => ?_
    refine dv F (y_pkf h3 rfl rfl rfl) rfl rfl rfl fun a F => ?_
    refine dn ?_
    refine tn <| hK3 _ _ ?_
    refine cb F rfl (fun hhd => ?_) (fun hhd => ?_)
    ·have hno : ¬ p = q := by
      intro e
      subst e
      simp at hhd
     refine sq fun K7 hK7 => ?_
     refine rg ?_
     refine dv F (y_as rfl rfl) rfl rfl rfl fun a F => ?_
     refine dn ?_
     refine tn <| hK7 _ _ ?_
     refine wp_ret ?_
     refine tr <| ?_
     exact rt1 F rfl rfl ⟨congrArg Value.bool (sameO_no fun e => by subst e; simp_all).symm, S.bel⟩
    ·obtain ⟨hk, hw, ho, hr⟩ : p.kind = q.kind ∧ p.why = q.why ∧ p.outs.length = q.outs.length ∧ p.reads.length = q.reads.length := by
      simp only [decide_eq_true_eq, decide_eq_false_iff_not, Bool.not_eq_true', Bool.not_eq_false'] at *
      refine ⟨by assumption, by assumption, by omega, by omega⟩
     refine wp_skip ?_
     refine tn <| hK2 _ _ ?_
     refine sq fun K8 hK8 => ?_
     refine sq fun K9 hK9 => ?_
     refine rg ?_
     refine dv F (y_fa rfl rfl fi41_2) rfl rfl rfl fun a F => ?_
     refine dv F (y_ld rfl rfl (S.ld (i := 0) rfl rfl Tryz.isAgg38)) rfl rfl rfl fun a F => ?_
     refine dv F (y_ln rfl rfl Tryz.underlying38) rfl rfl rfl fun a F => ?_
     refine dv F (y_mv rfl rfl) rfl rfl rfl fun a F => ?_
     refine dn ?_
     refine tn <| hK9 _ _ ?_
     refine bl ?_
     refine lp (fun m a w => ∃ i : Nat, m = p.outs.length - i ∧ (i ≤ p.outs.length) ∧ (p.outs.take i = q.outs.take i) ∧ Fr 73 a [(2, pt b2), (3, pt b3), (38, .slice A1 p.outs.length c1), (39, .int .i64 (p.outs.length : Int)), (40, .int .i64 (i : Int))] ∧ St w0 w [bk b2 41 (encOc p A1 c1 A2 c2), bk b3 41 (encOc q B1 d1 B2 d2)]) (p.outs.length) ?_ ?_
     ·exact ⟨0, rfl, Nat.zero_le _, rfl, F.sub _ ⟨rfl, rfl, rfl, rfl, rfl, trivial⟩, S.pick [0, 1] _ ⟨rfl, rfl, trivial⟩ rfl⟩
     ·repeat clear S
      repeat clear F
      rintro m a w ⟨i, hm, hi, he, F, S⟩
      refine sq fun K10 hK10 => ?_
      refine rg ?_
      refine dv F (y_lt rfl rfl rfl) rfl rfl rfl fun a F => ?_
      refine dn ?_
      refine tn <| hK10 _ _ ?_
      refine sq fun K11 hK11 => ?_
      refine cd F rfl (fun hlt => ?_) (fun hlt => ?_)
      ·refine wp_skip ?_
       refine tn <| hK11 _ _ ?_
       refine sq fun K12 hK12 => ?_
       refine bl ?_
       refine sq fun K13 hK13 => ?_
       replace hlt : i < p.outs.length := by omega
       have hlt2 : i < q.outs.length := by omega
       obtain ⟨ab, ao, rfl, -, -⟩ := sx1.at_ hlt
       obtain ⟨bb, bo, rfl, -, -⟩ := sy1.at_ hlt2
       refine rg ?_
       refine dv F (y_mv rfl rfl) rfl rfl rfl fun a F => ?_
       refine dv F (y_as rfl rfl) rfl rfl rfl fun a F => ?_
       refine dn ?_
       refine tn <| hK13 _ _ ?_
       refine sq fun K14 hK14 => ?_
       refine rq (C := fun w => St _ w _) Tryz.mixed (by kernel_rfl) (S.drewN 1) ?_
       refine qv F (fun w S => y_fa rfl rfl fi41_2) rfl rfl rfl fun a F => ?_
       refine qv F (fun w S => y_ld rfl rfl (S.ld (i := 0) rfl rfl Tryz.isAgg38)) rfl rfl rfl fun a F => ?_
       refine qv F (fun w S => y_mv rfl rfl) rfl rfl rfl fun a F => ?_
       refine qv F (fun w S => y_ia rfl rfl rfl rfl Tryz.underlying38 Tryz.sizeOf66 i rfl hlt) rfl rfl rfl fun a F => ?_
       refine qv F (fun w S => y_ld rfl rfl (lda Tryz.isAgg66 Tryz.sizeOf66 (lenSt _) (sl_at2 (sx1.st S) hlt))) rfl rfl rfl fun a F => ?_
       refine qv F (fun w S => y_fa rfl rfl fi41_2) rfl rfl rfl fun a F => ?_
       refine qv F (fun w S => y_ld rfl rfl (S.ld (i := 1) rfl rfl Tryz.isAgg38)) rfl rfl rfl fun a F => ?_
       refine qv F (fun w S => y_mv rfl rfl) rfl rfl rfl fun a F => ?_
       refine qv F (fun w S => y_ia rfl rfl rfl rfl Tryz.underlying38 Tryz.sizeOf66 i rfl hlt2) rfl rfl rfl fun a F => ?_
       refine qv F (fun w S => y_ld rfl rfl (lda Tryz.isAgg66 Tryz.sizeOf66 (lenSt _) (sl_at2 (sy1.st S) hlt2))) rfl rfl rfl fun a F => ?_
       refine qv F (fun w S => y_nqF rfl rfl rfl) rfl rfl rfl fun a F => ?_
       refine qn fun w S => ?_
       refine tn <| hK14 _ _ ?_
       refine cb F rfl (fun hne => ?_) (fun hne => ?_)
       ·refine sq fun K15 hK15 => ?_
        refine rg ?_
        refine dv F (y_as rfl rfl) rfl rfl rfl fun a F => ?_
        refine dn ?_
        refine tn <| hK15 _ _ ?_
        refine wp_ret ?_
        refine br <| tr <| lr <| br <| tr <| ?_
        exact rt1 F rfl rfl ⟨congrArg Value.bool (sameO_no fun e => by subst e; simp at hne).symm, S.bel⟩
       ·refine wp_skip ?_
        refine bn <| tn <| hK12 _ _ ?_
        refine rg ?_
        refine dv F (y_add rfl rfl rfl (by omega)) rfl rfl rfl fun a F => ?_
        refine dv F (y_mv rfl rfl) rfl rfl rfl fun a F => ?_
        refine dn ?_
        exact ln (by omega) ⟨i + 1, rfl, (by omega), (take_eq hlt hlt2 he (by simpa using hne)), F.sub _ ⟨rfl, rfl, rfl, rfl, rfl, trivial⟩, S.pick [0, 1] _ ⟨rfl, rfl, trivial⟩ rfl⟩
      ·refine wp_exit ?_
       refine tx <| lx <| bh <| tn <| hK8 _ _ ?_
       refine sq fun K16 hK16 => ?_
       refine sq fun K17 hK17 => ?_
       refine rg ?_
       refine dv F (y_fa rfl rfl fi41_3) rfl rfl rfl fun a F => ?_
       refine dv F (y_ld rfl rfl (S.ld (i := 0) rfl rfl Tryz.isAgg39)) rfl rfl rfl fun a F => ?_
       refine dv F (y_ln rfl rfl Tryz.underlying39) rfl rfl rfl fun a F => ?_
       refine dv F (y_mv rfl rfl) rfl rfl rfl fun a F => ?_
       refine dn ?_
       refine tn <| hK17 _ _ ?_
       refine bl ?_
       refine lp (fun m a w => ∃ j : Nat, m = p.reads.length - j ∧ (j ≤ p.reads.length) ∧ (p.reads.take j = q.reads.take j) ∧ Fr 73 a [(2, pt b2), (3, pt b3), (56, .slice A2 p.reads.length c2), (57, .int .i64 (p.reads.length : Int)), (58, .int .i64 (j : Int))] ∧ St w0 w [bk b2 41 (encOc p A1 c1 A2 c2), bk b3 41 (encOc q B1 d1 B2 d2)]) (p.reads.length) ?_ ?_
       ·exact ⟨0, rfl, Nat.zero_le _, rfl, F.sub _ ⟨rfl, rfl, rfl, rfl, rfl, trivial⟩, S.pick [0, 1] _ ⟨rfl, rfl, trivial⟩ rfl⟩
       ·repeat clear S
        repeat clear F
        rintro m a w ⟨j, hm, hj, he2, F, S⟩
        refine sq fun K18 hK18 => ?_
        refine rg ?_
        refine dv F (y_lt rfl rfl rfl) rfl rfl rfl fun a F => ?_
        refine dn ?_
        refine tn <| hK18 _ _ ?_
        refine sq fun K19 hK19 => ?_
        refine cd F rfl (fun hlt => ?_) (fun hlt => ?_)
        ·refine wp_skip ?_
         refine tn <| hK19 _ _ ?_
         refine sq fun K20 hK20 => ?_
         refine bl ?_
         refine sq fun K21 hK21 => ?_
         replace hlt : j < p.reads.length := by omega
         have hlt2 : j < q.reads.length := by omega
         obtain ⟨ab, ao, rfl, -, -⟩ := sx2.at_ hlt
         obtain ⟨bb, bo, rfl, -, -⟩ := sy2.at_ hlt2
         refine rg ?_
         refine dv F (y_mv rfl rfl) rfl rfl rfl fun a F => ?_
         refine dv F (y_as rfl rfl) rfl rfl rfl fun a F => ?_
         refine dn ?_
         refine tn <| hK21 _ _ ?_
         refine sq fun K22 hK22 => ?_
         refine rq (C := fun w => St _ w _) Tryz.mixed (by kernel_rfl) (S.drewN 1) ?_
         refine qv F (fun w S => y_fa rfl rfl fi41_3) rfl rfl rfl fun a F => ?_
         refine qv F (fun w S => y_ld rfl rfl (S.ld (i := 0) rfl rfl Tryz.isAgg39)) rfl rfl rfl fun a F => ?_
         refine qv F (fun w S => y_mv rfl rfl) rfl rfl rfl fun a F => ?_
         refine qv F (fun w S => y_ia rfl rfl rfl rfl Tryz.underlying39 Tryz.sizeOf52 j rfl hlt) rfl rfl rfl fun a F => ?_
         refine qv F (fun w S => y_ld rfl rfl (lda Tryz.isAgg52 Tryz.sizeOf52 (len37 _) (sl_at2 (sx2.st S) hlt))) rfl rfl rfl fun a F => ?_
         refine qv F (fun w S => y_fa rfl rfl fi41_3) rfl rfl rfl fun a F => ?_
         refine qv F (fun w S => y_ld rfl rfl (S.ld (i := 1) rfl rfl Tryz.isAgg39)) rfl rfl rfl fun a F => ?_
         refine qv F (fun w S => y_mv rfl rfl) rfl rfl rfl fun a F => ?_
         refine qv F (fun w S => y_ia rfl rfl rfl rfl Tryz.underlying39 Tryz.sizeOf52 j rfl hlt2) rfl rfl rfl fun a F => ?_
         refine qv F (fun w S => y_ld rfl rfl (lda Tryz.isAgg52 Tryz.sizeOf52 (len37 _) (sl_at2 (sy2.st S) hlt2))) rfl rfl rfl fun a F => ?_
         refine qv F (fun w S => y_ne37 rfl rfl rfl) rfl rfl rfl fun a F => ?_
         refine qn fun w S => ?_
         refine tn <| hK22 _ _ ?_
         refine cb F rfl (fun hne => ?_) (fun hne => ?_)
         ·refine sq fun K23 hK23 => ?_
          refine rg ?_
          refine dv F (y_as rfl rfl) rfl rfl rfl fun a F => ?_
          refine dn ?_
          refine tn <| hK23 _ _ ?_
          refine wp_ret ?_
          refine br <| tr <| lr <| br <| tr <| ?_
          exact rt1 F rfl rfl ⟨congrArg Value.bool (sameO_no fun e => by subst e; simp at hne).symm, S.bel⟩
         ·refine wp_skip ?_
          refine bn <| tn <| hK20 _ _ ?_
          refine rg ?_
          refine dv F (y_add rfl rfl rfl (by omega)) rfl rfl rfl fun a F => ?_
          refine dv F (y_mv rfl rfl) rfl rfl rfl fun a F => ?_
          refine dn ?_
          exact ln (by omega) ⟨j + 1, rfl, (by omega), (take_eq hlt hlt2 he2 (by simpa using hne)), F.sub _ ⟨rfl, rfl, rfl, rfl, rfl, trivial⟩, S.pick [0, 1] _ ⟨rfl, rfl, trivial⟩ rfl⟩
        ·refine wp_exit ?_
         refine tx <| lx <| bh <| tn <| hK16 _ _ ?_
         refine sq fun K24 hK24 => ?_
         refine rg ?_
         refine dv F (y_as rfl rfl) rfl rfl rfl fun a F => ?_
         refine dn ?_
         refine tn <| hK24 _ _ ?_
         refine wp_ret ?_
         refine ?_
         exact rt1 F rfl rfl ⟨congrArg Value.bool (sameO_yes hk hw (by rw [List.take_of_length_le (by omega), List.take_of_length_le (by omega)] at he; exact he) (by rw [List.take_of_length_le (by omega), List.take_of_length_le (by omega)] at he2; exact he2)).symm, S.bel⟩
end Go.Proofs.YtgcmddaibnimjaaGreatDoor
namespace Go.Proofs.YtgcmddaibnimjaaGreatDoor
open Go.RowKit Go.Eng
structure SameB (B C : BC) : Prop where
 env : B.C.env = C.C.env
 outs : B.outs = C.outs
 ins : B.ins = C.ins
 asks : B.asks = C.asks
section
variable {B C : BC}
theorem turn_same (h : SameB B C) (β : BS) : β.turn B = β.turn C := by
 unfold BS.turn
 rw [h.env, h.outs, h.ins, h.asks]
theorem goF_same (h : SameB B C) : ∀ (n : Nat) (β : BS), β.goF B n = β.goF C n
 | 0, β => rfl
 | n + 1, β => by
  unfold BS.goF
  rw [turn_same h, goF_same h n]
theorem go_same (h : SameB B C) (β : BS) : β.go B = β.go C := goF_same h _ β
theorem give_same (h : SameB B C) (β : BS) (k : Kn) : β.give B k = β.give C k := by
 unfold BS.give
 rw [h.env]
 simp only [go_same h]
theorem feed_same (h : SameB B C) (known : List Kn) : ∀ (n : Nat) (β : BS), β.feed B known n = β.feed C known n
 | 0, β => rfl
 | n + 1, β => by
  unfold BS.feed
  simp only [give_same h, feed_same h known n]
end
end Go.Proofs.YtgcmddaibnimjaaGreatDoor
namespace Go.Proofs.YtgcmddaibnimjaaGreatDoor
open Go.RowKit Go.Eng
section
variable {P : Program} {Q : Exit → Act → World → Prop} {w : World} {n : Nat} {l : List (Nat × Value)} {o : Oper} {rest : List Oper} {ops : Array Oper} {a : Act}
theorem gnd (F : Fr n a l) {j dj : Nat} {b want : Bool} (hg : o.guard = some (j, want)) (hj : (ops[j]?).bind (·.dst) = some dj) (hb : Go.Eng.look l dj = some (.bool b)) (he : b = want) (k : wpList P ops Q ({ o with guard := none } :: rest) a w) : wpList P ops Q (o :: rest) a w := by
 have h1 : Region.wanted o (yielded ops a.tmps) = true := by rw [wanted_some F hg hj hb, he]; simp
 have h2 : Region.wanted { o with guard := none } (yielded ops a.tmps) = true := by simp [Region.wanted]
 unfold wpList at k ⊢
 rw [if_pos h1]
 rw [if_pos h2] at k
 exact k
theorem y_bnB {t s : Nat} {x y : Operand} {p q : Bool} (ho : o.op = .binOp .neq t x y s) (hx : evl l x = some (.bool p)) (hy : evl l y = some (.bool q)) (ht : P.underlying t = some .bool) : Yl P o l w (.bool (!(p == q))) w := fun n a F => by
 simp only [execOp, ho, F.ev hx, F.ev hy]
 simp [eqGuard, run_neq_bool w t p q ht]
end
noncomputable def AI5 : Bool := (Tryz.prog.info? 5).any fun i => Nat.beq i.size 1 && Nat.beq i.bytes 1 && i.zero.any fun v => match v with | .int .u8 b => decide (b = 0) | _ => false
theorem infoU8 : ∃ i, Tryz.prog.info? 5 = some i ∧ i.zero = some (.int .u8 0) ∧ i.size = 1 ∧ i.bytes = 1 := by
 have h : AI5 = true := by kernel_rfl
 unfold AI5 at h
 cases hi : Tryz.prog.info? 5 with
 | none => rw [hi] at h; cases h
 | some i =>
  rw [hi] at h
  simp only [Option.any_some, Bool.and_eq_true] at h
  obtain ⟨⟨h1, h2⟩, h3⟩ := h
  refine ⟨i, rfl, ?_, Nat.eq_of_beq_eq_true h1, Nat.eq_of_beq_eq_true h2⟩
  cases hz : i.zero with
  | none => rw [hz] at h3; cases h3
  | some v =>
   rw [hz] at h3
   simp only [Option.any_some] at h3
   split at h3
   ·rename_i b
    rw [of_decide_eq_true h3]
   ·cases h3
theorem zeros : ∃ xs : List Int, xs.length = 65537 ∧ List.replicate 65537 (Value.int .u8 0) = xs.flatMap encU8 := by
 have key : ∀ n : Nat, List.replicate n (Value.int .u8 0) = (List.replicate n (0 : Int)).flatMap encU8 := fun n => by
  induction n with
  | zero => rfl
  | succ n ih => rw [List.replicate_succ, List.replicate_succ, List.flatMap_cons, ih]; rfl
 exact ⟨List.replicate 65537 0, List.length_replicate, key 65537⟩
theorem mkB_size (xs : List Int) : (mkB xs).size = xs.length := by simp [mkB, ByteArray.size]
theorem give_big {B : BC} {β : BS} {xs : List Int} (h : β.over = false) (hx : xs.length = 65537) : β.give B ⟨β.asks, true, mkB xs⟩ = (6, β) :=
 give_lim h rfl ⟨rfl, by show 65536 < (mkB xs).size; rw [mkB_size, hx]; decide⟩
theorem big_small {p : ByteArray} {xs : List Int} (hx : xs.length = 65537) : (⟨p, true, mkB xs⟩ : Kn).data.size ≤ 9000000000000000000 := by
 show (mkB xs).size ≤ _
 rw [mkB_size, hx]; decide
theorem bdKz (p d : ByteArray) (w : World) : (Instr.build 55 [(0, .string p), (1, .bool true), (2, .string d)].toArray).run Tryz.prog w = .ok (.agg (encK ⟨p, true, d⟩).toArray) w := by kernel_rfl
theorem feed_lens {B : BC} {γ : BS} (hS : BSm B) (h : BOk B γ) : γ.out.outs.length ≤ 1000000 ∧ γ.out.reads.length ≤ 1000000 := by
 have h1 := wrote_le h.j; have h2 := hS.l.1; have h3 := reads_le h.j
 cases ho : γ.over with
 | false => rw [out_wait ho]; exact ⟨Nat.zero_le _, Nat.zero_le _⟩
 | true =>
  by_cases hw : γ.why = 0
  ·rw [out_end ho hw]
   refine ⟨?_, by show γ.reads.length ≤ _; omega⟩
   show γ.files.length ≤ _
   rw [BS.files, List.length_map, sortS_len, List.length_map]; omega
  ·rw [out_fail ho hw]; exact ⟨Nat.zero_le _, by show γ.reads.length ≤ _; omega⟩
theorem c_lawGoOnE {γ : BS} {Ak : Option Addr} {ck : Nat} {known : List Kn} {B : BC} {H0 : Hp} {β0 : BS} {cs : List Res} {w0 W : World} (hγ : β0.feed B known 600 = γ) (G : Gl w0) (hS : BSm B) (hB0 : BOk B β0) (hA : Sl w0 3 encK Ak known) (hks : ∀ k ∈ known, KOk k) (hkl : known.length ≤ 1000000000) (hkz : ∀ k ∈ known, k.data.size ≤ 9000000000000000000) (hR : BE B H0 β0 cs w0 W) :
  Calls Tryz.prog 19 [pt B.bx, .slice Ak known.length ck].toArray W (Ret fun v w' => GoP B H0 cs w0 w' v γ) :=
 (c_lawGoOn2 hγ G hS hB0 hA hks hkl hkz hR.pk.1).mono (Ret.mono fun v w' ⟨H1, A1, c1, A2, c2, h1, h2, h3, h4, h5⟩ => ⟨H1, A1, c1, A2, c2, h1, h2, h3, h4, BE.un h5 hR.pk.2⟩)
set_option maxRecDepth 4000
set_option maxHeartbeats 1000000 in
theorem c_BoxGives {u1 u2 : Value} {t : ByteArray} {Ae Ai Aa Ao : Option Addr} {ce ci ca co : Nat} {env : List (ByteArray × ByteArray)} {ins asks outs : List ByteArray} {Ak : Option Addr} {ck : Nat} {known : List Kn} (w0 : World) (G : Gl w0) (he : Sl w0 2 encSt Ae env) (hi : Sl w0 1 encS Ai ins) (ha : Sl w0 1 encS Aa asks) (ho : Sl w0 1 encS Ao outs) (hK : Sl w0 3 encK Ak known) (hgz : gz t env ins asks outs ≤ 100000000) (hkz : kz known ≤ 100000000) (k : Kn) (hkk : kz1 k ≤ 100000000) : Calls Tryz.prog 5 [.agg (actC u1 u2 t Ae env.length ce Ai ins.length ci Aa asks.length ca Ao outs.length co).toArray, .slice Ak known.length ck, .agg (encK k).toArray].toArray w0 (Ret fun v w' => v = .bool true ∧ Below w0.heap.size w0 w') := by
 refine ent Tryz.func5 Tryz.ntmps5 rfl rfl ?_
 intro a F
 have S := St.refl w0
 refine sq fun K1 hK1 => ?_
 refine rg ?_
 refine dbx F S rfl rfl rfl rfl rfl rfl fun a w b3 F S => ?_
 refine dbx F S rfl rfl rfl rfl rfl rfl fun a w b5 F S => ?_
 refine dv F (y_as rfl rfl) rfl rfl rfl fun a F => ?_
 refine dn ?_
 refine tn <| hK1 _ _ ?_
 refine sq fun K2 hK2 => ?_
 refine sq fun K3 hK3 => ?_
 refine rg ?_
 refine dc F (c_f rfl rfl rfl Tryz.call14) rfl rfl rfl (c_boxAlive _ (G.st S)) fun a v w' hr F => ?_
 obtain ⟨rfl, hb⟩ := hr
 replace S := S.call hb
 refine dv F (y_nt rfl rfl) rfl rfl rfl fun a F => ?_
 refine dn ?_
 refine tn <| hK3 _ _ ?_
 refine cf F rfl (congrArg not rfl) ?_
 refine wp_skip ?_
 refine tn <| hK2 _ _ ?_
 refine sq fun K4 hK4 => ?_
 refine sq fun K5 hK5 => ?_
 refine rg ?_
 refine dv F (y_ld rfl rfl (S.lda (i := 0) rfl Tryz.isAgg27 Tryz.sizeOf27 rfl)) rfl rfl rfl fun a F => ?_
 refine dc F (c_f rfl rfl rfl Tryz.call15) rfl rfl rfl (c_Great _ (he.st S) (hi.st S) (ha.st S) (ho.st S) hgz) fun a v w' hr F => ?_
 obtain ⟨rfl, hb⟩ := hr
 replace S := S.call hb
 refine dv F (y_mv rfl rfl) rfl rfl rfl fun a F => ?_
 refine gsp F 25 rfl (fun h1 => ?_) (fun h1 => ?_)
 ·have g1 := h1
  try simp only [decide_eq_true_eq, decide_eq_false_iff_not, Bool.not_eq_true', Bool.not_eq_false', Bool.not_eq_eq_eq_not, Bool.not_true, Bool.not_false, Decidable.not_not] at g1
  refine gs F rfl rfl rfl h1 rfl rfl fun a F => ?_
  refine gs F rfl rfl rfl h1 rfl rfl fun a F => ?_
  refine dv F (y_pkt h1 rfl rfl rfl) rfl rfl rfl fun a F => ?_
  refine dv F (y_mv rfl rfl) rfl rfl rfl fun a F => ?_
  refine gs F rfl rfl rfl rfl rfl rfl fun a F => ?_
  refine gs F rfl rfl rfl rfl rfl rfl fun a F => ?_
  refine gs F rfl rfl rfl rfl rfl rfl fun a F => ?_
  refine gs F rfl rfl rfl rfl rfl rfl fun a F => ?_
  refine dv F (y_pkt rfl rfl rfl rfl) rfl rfl rfl fun a F => ?_
  refine dv F (y_mv rfl rfl) rfl rfl rfl fun a F => ?_
  refine gs F rfl rfl rfl rfl rfl rfl fun a F => ?_
  refine gs F rfl rfl rfl rfl rfl rfl fun a F => ?_
  refine gs F rfl rfl rfl rfl rfl rfl fun a F => ?_
  refine gs F rfl rfl rfl rfl rfl rfl fun a F => ?_
  refine dv F (y_pkt rfl rfl rfl rfl) rfl rfl rfl fun a F => ?_
  refine dn ?_
  refine tn <| hK5 _ _ ?_
  refine ct F rfl rfl ?_
  refine sq fun K6 hK6 => ?_
  refine rg ?_
  refine dv F (y_as rfl rfl) rfl rfl rfl fun a F => ?_
  refine dn ?_
  refine tn <| hK6 _ _ ?_
  refine wp_ret ?_
  refine tr <| ?_
  exact rt1 F rfl rfl ⟨rfl, S.bel⟩
 ·have g1 := h1
  try simp only [decide_eq_true_eq, decide_eq_false_iff_not, Bool.not_eq_true', Bool.not_eq_false', Bool.not_eq_eq_eq_not, Bool.not_true, Bool.not_false, Decidable.not_not] at g1
  refine gv F rfl rfl rfl h1 (y_mv rfl rfl) rfl rfl fun a F => ?_
  refine gc F rfl rfl rfl h1 (c_f rfl rfl rfl Tryz.call16) rfl rfl (c_Many _ (hK.st S) hkz) fun a v w' hr F => ?_
  obtain ⟨rfl, hb⟩ := hr
  replace S := S.call hb
  refine dv F (y_pkf h1 rfl rfl rfl) rfl rfl rfl fun a F => ?_
  refine dv F (y_mv rfl rfl) rfl rfl rfl fun a F => ?_
  refine gsp F 29 rfl (fun h2 => ?_) (fun h2 => ?_)
  ·have g2 := h2
   try simp only [decide_eq_true_eq, decide_eq_false_iff_not, Bool.not_eq_true', Bool.not_eq_false', Bool.not_eq_eq_eq_not, Bool.not_true, Bool.not_false, Decidable.not_not] at g2
   refine gs F rfl rfl rfl h2 rfl rfl fun a F => ?_
   refine gs F rfl rfl rfl h2 rfl rfl fun a F => ?_
   refine gs F rfl rfl rfl h2 rfl rfl fun a F => ?_
   refine gs F rfl rfl rfl h2 rfl rfl fun a F => ?_
   refine dv F (y_pkt h2 rfl rfl rfl) rfl rfl rfl fun a F => ?_
   refine dv F (y_mv rfl rfl) rfl rfl rfl fun a F => ?_
   refine gs F rfl rfl rfl rfl rfl rfl fun a F => ?_
   refine gs F rfl rfl rfl rfl rfl rfl fun a F => ?_
   refine gs F rfl rfl rfl rfl rfl rfl fun a F => ?_
   refine gs F rfl rfl rfl rfl rfl rfl fun a F => ?_
   refine dv F (y_pkt rfl rfl rfl rfl) rfl rfl rfl fun a F => ?_
   refine dn ?_
   refine tn <| hK5 _ _ ?_
   refine ct F rfl rfl ?_
   refine sq fun K7 hK7 => ?_
   refine rg ?_
   refine dv F (y_as rfl rfl) rfl rfl rfl fun a F => ?_
   refine dn ?_
   refine tn <| hK7 _ _ ?_
   refine wp_ret ?_
   refine tr <| ?_
   exact rt1 F rfl rfl ⟨rfl, S.bel⟩
  ·have g2 := h2
   try simp only [decide_eq_true_eq, decide_eq_false_iff_not, Bool.not_eq_true', Bool.not_eq_false', Bool.not_eq_eq_eq_not, Bool.not_true, Bool.not_false, Decidable.not_not] at g2
   refine gv F rfl rfl rfl h2 (y_fa rfl rfl fi55_0) rfl rfl fun a F => ?_
   refine gv F rfl rfl rfl h2 (y_ld rfl rfl (S.ld (i := 1) rfl rfl Tryz.isAgg9)) rfl rfl fun a F => ?_
   refine gv F rfl rfl rfl h2 (y_ls rfl rfl Tryz.underlying9) rfl rfl fun a F => ?_
   refine gv F rfl rfl rfl h2 (y_gt rfl rfl rfl) rfl rfl fun a F => ?_
   refine dv F (y_pkf h2 rfl rfl rfl) rfl rfl rfl fun a F => ?_
   refine dv F (y_mv rfl rfl) rfl rfl rfl fun a F => ?_
   refine gsp F 35 rfl (fun h3 => ?_) (fun h3 => ?_)
   ·have g3 := h3
    try simp only [decide_eq_true_eq, decide_eq_false_iff_not, Bool.not_eq_true', Bool.not_eq_false', Bool.not_eq_eq_eq_not, Bool.not_true, Bool.not_false, Decidable.not_not] at g3
    refine gs F rfl rfl rfl h3 rfl rfl fun a F => ?_
    refine gs F rfl rfl rfl h3 rfl rfl fun a F => ?_
    refine gs F rfl rfl rfl h3 rfl rfl fun a F => ?_
    refine gs F rfl rfl rfl h3 rfl rfl fun a F => ?_
    refine dv F (y_pkt h3 rfl rfl rfl) rfl rfl rfl fun a F => ?_
    refine dn ?_
    refine tn <| hK5 _ _ ?_
    refine ct F rfl rfl ?_
    refine sq fun K8 hK8 => ?_
    refine rg ?_
    refine dv F (y_as rfl rfl) rfl rfl rfl fun a F => ?_
    refine dn ?_
    refine tn <| hK8 _ _ ?_
    refine wp_ret ?_
    refine tr <| ?_
    exact rt1 F rfl rfl ⟨rfl, S.bel⟩
   ·have g3 := h3
    try simp only [decide_eq_true_eq, decide_eq_false_iff_not, Bool.not_eq_true', Bool.not_eq_false', Bool.not_eq_eq_eq_not, Bool.not_true, Bool.not_false, Decidable.not_not] at g3
    refine gv F rfl rfl rfl h3 (y_fa rfl rfl fi55_2) rfl rfl fun a F => ?_
    refine gv F rfl rfl rfl h3 (y_ld rfl rfl (S.ld (i := 1) rfl rfl Tryz.isAgg9)) rfl rfl fun a F => ?_
    refine gv F rfl rfl rfl h3 (y_ls rfl rfl Tryz.underlying9) rfl rfl fun a F => ?_
    refine gv F rfl rfl rfl h3 (y_gt rfl rfl rfl) rfl rfl fun a F => ?_
    refine dv F (y_pkf h3 rfl rfl rfl) rfl rfl rfl fun a F => ?_
    refine dn ?_
    refine tn <| hK5 _ _ ?_
    refine cd F rfl (fun hkd => ?_) (fun hkd => ?_)
    ·refine sq fun K9 hK9 => ?_
     refine rg ?_
     refine dv F (y_as rfl rfl) rfl rfl rfl fun a F => ?_
     refine dn ?_
     refine tn <| hK9 _ _ ?_
     refine wp_ret ?_
     refine tr <| ?_
     exact rt1 F rfl rfl ⟨rfl, S.bel⟩
    ·refine wp_skip ?_
     refine tn <| hK4 _ _ ?_
     refine sq fun K10 hK10 => ?_
     have gsz : gz t env ins asks outs ≤ 2000 := by omega
     have g3 : kz known ≤ 5000 := by omega
     have hks := kok_of g3
     have hkd2 : k.data.size ≤ 1000 := by omega
     refine rg ?_
     refine dv F (y_ld rfl rfl (S.lda (i := 0) rfl Tryz.isAgg27 Tryz.sizeOf27 rfl)) rfl rfl rfl fun a F => ?_
     obtain ⟨hm1, hm2, hm3, hm4, hm5, hm6⟩ := small_of gsz
     refine dc F (c_f rfl rfl rfl Tryz.call17) rfl rfl rfl (e_New (cs := [bk b3 27 (actC u1 u2 t Ae env.length ce Ai ins.length ci Aa asks.length ca Ao outs.length co), bk b5 55 (encK k)]) G S hm1 he hi ha ho hm2 hm3 hm4 hm5) fun a v w' hr F => ?_
     have hN := hr
     have hN2 := newE_cases hN
     clear S
     rcases hN2 with ⟨e, n, hcm, hne, rfl, S⟩ | ⟨lc, B, Hb, hcm, hbe, hbo, hbi, hba, rfl, hR⟩
     ·refine dv F (y_mv rfl rfl) rfl rfl rfl fun a F => ?_
      refine dv F (y_ex rfl rfl rfl) rfl rfl rfl fun a F => ?_
      refine dv F (y_ex rfl rfl rfl) rfl rfl rfl fun a F => ?_
      refine dv F (y_as rfl rfl) rfl rfl rfl fun a F => ?_
      refine dv F (y_as rfl rfl) rfl rfl rfl fun a F => ?_
      refine dn ?_
      refine tn <| hK10 _ _ ?_
      refine sq fun K11 hK11 => ?_
      refine rg ?_
      refine dv F (y_ld rfl rfl (S.lda (i := 0) rfl Tryz.isAgg27 Tryz.sizeOf27 rfl)) rfl rfl rfl fun a F => ?_
      refine dc F (c_f rfl rfl rfl Tryz.call17) rfl rfl rfl (e_New (cs := [bk b3 27 (actC u1 u2 t Ae env.length ce Ai ins.length ci Aa asks.length ca Ao outs.length co), bk b5 55 (encK k)]) G S hm1 he hi ha ho hm2 hm3 hm4 hm5) fun a v w' hr F => ?_
      have hN := hr
      rw [hcm] at hN
      obtain ⟨rfl, S⟩ := hN
      refine dv F (y_mv rfl rfl) rfl rfl rfl fun a F => ?_
      refine dv F (y_ex rfl rfl rfl) rfl rfl rfl fun a F => ?_
      refine dv F (y_ex rfl rfl rfl) rfl rfl rfl fun a F => ?_
      refine dv F (y_as rfl rfl) rfl rfl rfl fun a F => ?_
      refine dv F (y_as rfl rfl) rfl rfl rfl fun a F => ?_
      refine dn ?_
      refine tn <| hK11 _ _ ?_
      refine sq fun K12 hK12 => ?_
      refine sq fun K13 hK13 => ?_
      refine rg ?_
      refine dv F (y_mv rfl rfl) rfl rfl rfl fun a F => ?_
      refine dv F (y_in rfl rfl rfl) rfl rfl rfl fun a F => ?_
      refine dn ?_
      refine tn <| hK13 _ _ ?_
      refine ct F rfl (by simpa using hne) ?_
      refine sq fun K14 hK14 => ?_
      refine rg ?_
      refine dv F (y_as rfl rfl) rfl rfl rfl fun a F => ?_
      refine dn ?_
      refine tn <| hK14 _ _ ?_
      refine wp_ret ?_
      refine tr <| ?_
      exact rt1 F rfl rfl ⟨rfl, S.bel⟩
     ·have hSm : BSm B := bsm_of hbe hbo hbi hba hm2 hm3 hm4 hm5 hm6
      have hB := start_ok' (B := B) hcm
      generalize hβ : (BS.start lc).go B = β0 at hB hR
      obtain ⟨sb, sr, A, c, vals, H, Ar, cr, hsr, hle, hE, hv, hF, S⟩ := hR
      refine dv F (y_mv rfl rfl) rfl rfl rfl fun a F => ?_
      refine dv F (y_ex rfl rfl rfl) rfl rfl rfl fun a F => ?_
      refine dv F (y_ex rfl rfl rfl) rfl rfl rfl fun a F => ?_
      refine dv F (y_as rfl rfl) rfl rfl rfl fun a F => ?_
      refine dv F (y_as rfl rfl) rfl rfl rfl fun a F => ?_
      refine dn ?_
      refine tn <| hK10 _ _ ?_
      refine sq fun K15 hK15 => ?_
      refine rg ?_
      refine dv F (y_ld rfl rfl (S.lda (i := 8) rfl Tryz.isAgg27 Tryz.sizeOf27 rfl)) rfl rfl rfl fun a F => ?_
      refine dc F (c_f rfl rfl rfl Tryz.call17) rfl rfl rfl (e_New (cs := BL8 B A c vals H sr β0 Ar cr ++ [bk b3 27 (actC u1 u2 t Ae env.length ce Ai ins.length ci Aa asks.length ca Ao outs.length co), bk b5 55 (encK k)]) G S hm1 he hi ha ho hm2 hm3 hm4 hm5) fun a v w' hr F => ?_
      have hN := hr
      rw [hcm] at hN
      obtain ⟨C, Hc, hce, hco, hci, hca, rfl, hR⟩ := hN
      have hSc : BSm C := bsm_of hce hco hci hca hm2 hm3 hm4 hm5 hm6
      have hsm : SameB B C := ⟨hbe.trans hce.symm, hbo.trans hco.symm, hbi.trans hci.symm, hba.trans hca.symm⟩
      rw [← go_same hsm, hβ] at hR
      have hBc : BOk C β0 := by rw [← hβ, go_same hsm]; exact start_ok' hcm
      obtain ⟨sb', sr', A', c', vals', H', Ar', cr', hsr', hle', hE', hv', hF', S⟩ := hR
      replace S : St w0 _ (BL8 B A c vals H sr β0 Ar cr ++ (BL8 C A' c' vals' H' sr' β0 Ar' cr' ++ [bk b3 27 (actC u1 u2 t Ae env.length ce Ai ins.length ci Aa asks.length ca Ao outs.length co), bk b5 55 (encK k)])) := S.pick [8, 9, 10, 11, 12, 13, 14, 15, 0, 1, 2, 3, 4, 5, 6, 7, 16, 17] _ ⟨rfl, rfl, rfl, rfl, rfl, rfl, rfl, rfl, rfl, rfl, rfl, rfl, rfl, rfl, rfl, rfl, rfl, rfl, trivial⟩ rfl
      refine dv F (y_mv rfl rfl) rfl rfl rfl fun a F => ?_
      refine dv F (y_ex rfl rfl rfl) rfl rfl rfl fun a F => ?_
      refine dv F (y_ex rfl rfl rfl) rfl rfl rfl fun a F => ?_
      refine dv F (y_as rfl rfl) rfl rfl rfl fun a F => ?_
      refine dv F (y_as rfl rfl) rfl rfl rfl fun a F => ?_
      refine dn ?_
      refine tn <| hK15 _ _ ?_
      refine sq fun K16 hK16 => ?_
      refine sq fun K17 hK17 => ?_
      refine rg ?_
      refine dv F (y_mv rfl rfl) rfl rfl rfl fun a F => ?_
      refine dv F (y_in rfl rfl rfl) rfl rfl rfl fun a F => ?_
      refine dn ?_
      refine tn <| hK17 _ _ ?_
      refine cf F rfl rfl ?_
      refine wp_skip ?_
      refine tn <| hK16 _ _ ?_
      refine sq fun K18 hK18 => ?_
      refine rg ?_
      refine dv F (y_mv rfl rfl) rfl rfl rfl fun a F => ?_
      have hR : BE B Hb β0 (BL8 C A' c' vals' H' sr' β0 Ar' cr' ++ [bk b3 27 (actC u1 u2 t Ae env.length ce Ai ins.length ci Aa asks.length ca Ao outs.length co), bk b5 55 (encK k)]) w0 _ := ⟨sb, sr, A, c, vals, H, Ar, cr, hsr, hle, hE, hv, hF, (S.pick [0, 1, 2, 3, 4, 5, 6, 7, 8, 9, 10, 11, 12, 13, 14, 15, 16, 17] _ ⟨rfl, rfl, rfl, rfl, rfl, rfl, rfl, rfl, rfl, rfl, rfl, rfl, rfl, rfl, rfl, rfl, rfl, rfl, trivial⟩ rfl)⟩
      refine dc F (c_f rfl rfl rfl Tryz.call24) rfl rfl rfl (e_Asks hR) fun a v w' hr F => ?_
      obtain ⟨rfl, hR⟩ := hr
      obtain ⟨sb, sr, A, c, vals, H, Ar, cr, hsr, hle, hE, hv, hF, S⟩ := hR
      refine dv F (y_mv rfl rfl) rfl rfl rfl fun a F => ?_
      refine dv F (y_ex rfl rfl rfl) rfl rfl rfl fun a F => ?_
      refine dv F (y_ex rfl rfl rfl) rfl rfl rfl fun a F => ?_
      refine dv F (y_as rfl rfl) rfl rfl rfl fun a F => ?_
      refine dv F (y_as rfl rfl) rfl rfl rfl fun a F => ?_
      refine dn ?_
      refine tn <| hK18 _ _ ?_
      refine sq fun K19 hK19 => ?_
      refine sq fun K20 hK20 => ?_
      refine rg ?_
      refine dv F (y_mv rfl rfl) rfl rfl rfl fun a F => ?_
      refine dn ?_
      refine tn <| hK20 _ _ ?_
      refine cb F rfl (fun hwt => ?_) (fun hwt => ?_)
      ·refine sq fun K21 hK21 => ?_
       have hov : β0.over = false := by simpa using hwt
       rw [if_neg (by rw [hov]; exact Bool.false_ne_true)] at F
       refine rg ?_
       refine dv F (y_fa rfl rfl fi55_0) rfl rfl rfl fun a F => ?_
       refine dv F (y_ld rfl rfl (S.ld (i := 17) rfl rfl Tryz.isAgg9)) rfl rfl rfl fun a F => ?_
       refine dv F (y_mv rfl rfl) rfl rfl rfl fun a F => ?_
       refine dv F (Go.Eng.y_sn rfl rfl rfl) rfl rfl rfl fun a F => ?_
       refine dv F (y_mv rfl rfl) rfl rfl rfl fun a F => ?_
       refine gsp F 63 rfl (fun h4 => ?_) (fun h4 => ?_)
       ·have g4 := h4
        try simp only [decide_eq_true_eq, decide_eq_false_iff_not, Bool.not_eq_true', Bool.not_eq_false', Bool.not_eq_eq_eq_not, Bool.not_true, Bool.not_false, Decidable.not_not] at g4
        refine gv F rfl rfl rfl h4 (y_mv rfl rfl) rfl rfl fun a F => ?_
        refine gv F rfl rfl rfl h4 (y_ld rfl rfl (S.lda (i := 17) rfl Tryz.isAgg55 Tryz.sizeOf55 rfl)) rfl rfl fun a F => ?_
        have hna : ¬ k.path = β0.asks := by assumption
        have hR : BE B Hb β0 (BL8 C A' c' vals' H' sr' β0 Ar' cr' ++ [bk b3 27 (actC u1 u2 t Ae env.length ce Ai ins.length ci Aa asks.length ca Ao outs.length co), bk b5 55 (encK k)]) w0 _ := ⟨sb, sr, A, c, vals, H, Ar, cr, hsr, hle, hE, hv, hF, (S.pick [0, 1, 2, 3, 4, 5, 6, 7, 8, 9, 10, 11, 12, 13, 14, 15, 16, 17] _ ⟨rfl, rfl, rfl, rfl, rfl, rfl, rfl, rfl, rfl, rfl, rfl, rfl, rfl, rfl, rfl, rfl, rfl, rfl, trivial⟩ rfl)⟩
        refine gc F rfl rfl rfl h4 (c_f rfl rfl rfl Tryz.call25) rfl rfl (e_Give k G hSm hB.j (by omega) hR) fun a v w' hr F => ?_
        obtain ⟨hvv, hR⟩ := hr
        rw [give_asks hov hna] at hvv hR
        subst hvv
        obtain ⟨sb, sr, A, c, vals, H, Ar, cr, hsr, hle, hE, hv, hF, S⟩ := hR
        refine gv F rfl rfl rfl h4 (y_in rfl rfl rfl) rfl rfl fun a F => ?_
        refine dv F (y_pkt h4 rfl rfl rfl) rfl rfl rfl fun a F => ?_
        refine dv F (y_mv rfl rfl) rfl rfl rfl fun a F => ?_
        refine gv F rfl rfl rfl rfl (y_mv rfl rfl) rfl rfl fun a F => ?_
        refine gv F rfl rfl rfl rfl (y_mv rfl rfl) rfl rfl fun a F => ?_
        refine gnd F rfl rfl rfl rfl ?_
        refine dms F S (m := 65537) rfl rfl rfl Tryz.underlying61 infoU8 rfl (by decide) (by decide) rfl rfl rfl fun a w b72 F S => ?_
        obtain ⟨xs, hxl, hxs⟩ := zeros
        rw [hxs] at S
        rw [← hxl] at F
        refine gv F rfl rfl rfl rfl (y_cbs rfl rfl Tryz.underlying61 Tryz.underlying5 Tryz.underlying9 (S.sl (i := 18) rfl lenU8)) rfl rfl fun a F => ?_
        refine gv F rfl rfl rfl rfl (y_bd rfl rfl (bdKz _ _)) rfl rfl fun a F => ?_
        have hR : BE B Hb β0 (BL8 C A' c' vals' H' sr' β0 Ar' cr' ++ [bk b3 27 (actC u1 u2 t Ae env.length ce Ai ins.length ci Aa asks.length ca Ao outs.length co), bk b5 55 (encK k)]) w0 _ := ⟨sb, sr, A, c, vals, H, Ar, cr, hsr, hle, hE, hv, hF, (S.pick [0, 1, 2, 3, 4, 5, 6, 7, 8, 9, 10, 11, 12, 13, 14, 15, 16, 17] _ ⟨rfl, rfl, rfl, rfl, rfl, rfl, rfl, rfl, rfl, rfl, rfl, rfl, rfl, rfl, rfl, rfl, rfl, rfl, trivial⟩ rfl)⟩
        refine gc F rfl rfl rfl rfl (c_f rfl rfl rfl Tryz.call25) rfl rfl (e_Give ⟨β0.asks, true, mkB xs⟩ G hSm hB.j (big_small hxl) hR) fun a v w' hr F => ?_
        obtain ⟨hvv, hR⟩ := hr
        rw [give_big hov hxl] at hvv hR
        subst hvv
        obtain ⟨sb, sr, A, c, vals, H, Ar, cr, hsr, hle, hE, hv, hF, S⟩ := hR
        refine gv F rfl rfl rfl rfl (y_in rfl rfl rfl) rfl rfl fun a F => ?_
        refine dv F (y_pkf rfl rfl rfl rfl) rfl rfl rfl fun a F => ?_
        refine dn ?_
        refine tn <| hK21 _ _ ?_
        refine cf F rfl rfl ?_
        refine wp_skip ?_
        refine tn <| hK19 _ _ ?_
        refine sq fun K22 hK22 => ?_
        refine rg ?_
        refine dv F (y_mv rfl rfl) rfl rfl rfl fun a F => ?_
        refine dv F (y_mv rfl rfl) rfl rfl rfl fun a F => ?_
        obtain ⟨γ, hγ, hfo⟩ := feed_ex (known := known) hks hB
        have hγc : β0.feed C known 600 = γ := (feed_same hsm known 600 β0).symm.trans hγ
        have hkl := kz_len known
        have hR : BE B Hb β0 (BL8 C A' c' vals' H' sr' β0 Ar' cr' ++ [bk b3 27 (actC u1 u2 t Ae env.length ce Ai ins.length ci Aa asks.length ca Ao outs.length co), bk b5 55 (encK k)]) w0 _ := ⟨sb, sr, A, c, vals, H, Ar, cr, hsr, hle, hE, hv, hF, (S.pick [0, 1, 2, 3, 4, 5, 6, 7, 8, 9, 10, 11, 12, 13, 14, 15, 16, 17] _ ⟨rfl, rfl, rfl, rfl, rfl, rfl, rfl, rfl, rfl, rfl, rfl, rfl, rfl, rfl, rfl, rfl, rfl, rfl, trivial⟩ rfl)⟩
        refine dc F (c_f rfl rfl rfl Tryz.call19) rfl rfl rfl (c_lawGoOnE hγ G hSm hB hK hks (by omega) (fun k hk => by have := kz_mem hk; omega) hR) fun a v w' hr F => ?_
        obtain ⟨H1, A1, c1, A2, c2, hle1, rfl, hf1, hf2, hR⟩ := hr
        obtain ⟨sb, sr, A, c, vals, H, Ar, cr, hsr, hle, hE, hv, hF, S⟩ := hR
        refine dv F (y_mv rfl rfl) rfl rfl rfl fun a F => ?_
        refine dv F (y_ex rfl rfl rfl) rfl rfl rfl fun a F => ?_
        refine dv F (y_ex rfl rfl rfl) rfl rfl rfl fun a F => ?_
        refine dv F (y_ex rfl rfl rfl) rfl rfl rfl fun a F => ?_
        refine dv F (y_ex rfl rfl rfl) rfl rfl rfl fun a F => ?_
        refine dal F S rfl Tryz.zeroValue41 rfl rfl rfl rfl fun a w b13 F S => ?_
        refine dv F (y_as rfl rfl) rfl rfl rfl fun a F => ?_
        refine dv F (y_as rfl rfl) rfl rfl rfl fun a F => ?_
        refine dsw F S rfl rfl rfl Tryz.sizeOf41 (i := 18) rfl rfl rfl rfl (one41 _ _ _ _ _ _ _ _) rfl rfl fun a w F S => ?_
        refine dv F (y_as rfl rfl) rfl rfl rfl fun a F => ?_
        refine dn ?_
        refine tn <| hK22 _ _ ?_
        refine sq fun K23 hK23 => ?_
        refine rg ?_
        refine dv F (y_mv rfl rfl) rfl rfl rfl fun a F => ?_
        refine dv F (y_mv rfl rfl) rfl rfl rfl fun a F => ?_
        have hR : BE C Hc β0 (BL8 B A c vals H sr γ Ar cr ++ [bk b3 27 (actC u1 u2 t Ae env.length ce Ai ins.length ci Aa asks.length ca Ao outs.length co), bk b5 55 (encK k), bk b13 41 (encOc γ.out A1 c1 A2 c2)]) w0 _ := ⟨sb', sr', A', c', vals', H', Ar', cr', hsr', hle', hE', hv', hF', (S.pick [8, 9, 10, 11, 12, 13, 14, 15, 0, 1, 2, 3, 4, 5, 6, 7, 16, 17, 18] _ ⟨rfl, rfl, rfl, rfl, rfl, rfl, rfl, rfl, rfl, rfl, rfl, rfl, rfl, rfl, rfl, rfl, rfl, rfl, rfl, trivial⟩ rfl)⟩
        refine dc F (c_f rfl rfl rfl Tryz.call19) rfl rfl rfl (c_lawGoOnE hγc G hSc hBc hK hks (by omega) (fun k hk => by have := kz_mem hk; omega) hR) fun a v w' hr F => ?_
        obtain ⟨H2, A3, c3, A4, c4, hle2, rfl, hf3, hf4, hR⟩ := hr
        obtain ⟨sb', sr', A', c', vals', H', Ar', cr', hsr', hle', hE', hv', hF', S⟩ := hR
        replace S : St w0 _ (BL8 B A c vals H sr γ Ar cr ++ (BL8 C A' c' vals' H' sr' γ Ar' cr' ++ [bk b3 27 (actC u1 u2 t Ae env.length ce Ai ins.length ci Aa asks.length ca Ao outs.length co), bk b5 55 (encK k), bk b13 41 (encOc γ.out A1 c1 A2 c2)])) := S.pick [8, 9, 10, 11, 12, 13, 14, 15, 0, 1, 2, 3, 4, 5, 6, 7, 16, 17, 18] _ ⟨rfl, rfl, rfl, rfl, rfl, rfl, rfl, rfl, rfl, rfl, rfl, rfl, rfl, rfl, rfl, rfl, rfl, rfl, rfl, trivial⟩ rfl
        refine dv F (y_mv rfl rfl) rfl rfl rfl fun a F => ?_
        refine dv F (y_ex rfl rfl rfl) rfl rfl rfl fun a F => ?_
        refine dv F (y_ex rfl rfl rfl) rfl rfl rfl fun a F => ?_
        refine dv F (y_ex rfl rfl rfl) rfl rfl rfl fun a F => ?_
        refine dv F (y_ex rfl rfl rfl) rfl rfl rfl fun a F => ?_
        refine dal F S rfl Tryz.zeroValue41 rfl rfl rfl rfl fun a w b17 F S => ?_
        refine dv F (y_as rfl rfl) rfl rfl rfl fun a F => ?_
        refine dv F (y_as rfl rfl) rfl rfl rfl fun a F => ?_
        refine dsw F S rfl rfl rfl Tryz.sizeOf41 (i := 19) rfl rfl rfl rfl (one41 _ _ _ _ _ _ _ _) rfl rfl fun a w F S => ?_
        refine dv F (y_as rfl rfl) rfl rfl rfl fun a F => ?_
        refine dn ?_
        refine tn <| hK23 _ _ ?_
        refine sq fun K24 hK24 => ?_
        refine sq fun K25 hK25 => ?_
        have hol := feed_lens hSm hfo.1
        refine rg ?_
        refine dv F (y_mv rfl rfl) rfl rfl rfl fun a F => ?_
        refine dv F (y_nt rfl rfl) rfl rfl rfl fun a F => ?_
        refine dv F (y_mv rfl rfl) rfl rfl rfl fun a F => ?_
        refine gv F rfl rfl rfl (congrArg not rfl) (y_mv rfl rfl) rfl rfl fun a F => ?_
        refine gv F rfl rfl rfl (congrArg not rfl) (y_nt rfl rfl) rfl rfl fun a F => ?_
        refine dv F (y_pkf (congrArg not rfl) rfl rfl rfl) rfl rfl rfl fun a F => ?_
        refine dv F (y_mv rfl rfl) rfl rfl rfl fun a F => ?_
        refine gv F rfl rfl rfl (congrArg not rfl) (y_mv rfl rfl) rfl rfl fun a F => ?_
        refine gv F rfl rfl rfl (congrArg not rfl) (y_mv rfl rfl) rfl rfl fun a F => ?_
        refine gv F rfl rfl rfl (congrArg not rfl) (Go.Eng.y_sn rfl rfl rfl) rfl rfl fun a F => ?_
        refine dv F (y_pkf (congrArg not rfl) rfl rfl rfl) rfl rfl rfl fun a F => ?_
        refine dv F (y_mv rfl rfl) rfl rfl rfl fun a F => ?_
        refine gv F rfl rfl rfl (by simp) (y_mv rfl rfl) rfl rfl fun a F => ?_
        refine gv F rfl rfl rfl (by simp) (y_mv rfl rfl) rfl rfl fun a F => ?_
        refine gv F rfl rfl rfl (by simp) (y_bnB rfl rfl rfl Tryz.underlying4) rfl rfl fun a F => ?_
        refine dv F (y_pkf (by simp) rfl rfl rfl) rfl rfl rfl fun a F => ?_
        refine dv F (y_mv rfl rfl) rfl rfl rfl fun a F => ?_
        refine gv F rfl rfl rfl (by simp) (y_ld rfl rfl (S.lda (i := 18) rfl Tryz.isAgg41 Tryz.sizeOf41 rfl)) rfl rfl fun a F => ?_
        refine gv F rfl rfl rfl (by simp) (y_ld rfl rfl (S.lda (i := 19) rfl Tryz.isAgg41 Tryz.sizeOf41 rfl)) rfl rfl fun a F => ?_
        refine gc F rfl rfl rfl (by simp) (c_f rfl rfl rfl Tryz.call21) rfl rfl (c_Same _ ((hf1.le hle).sl S (i := 3) rfl) ((hf2.le hle).sl S (i := 3) rfl) ((hf3.le hle').sl S (i := 11) rfl) ((hf4.le hle').sl S (i := 11) rfl) hol) fun a v w' hr F => ?_
        obtain ⟨rfl, hb⟩ := hr
        rw [sameO_rfl] at F
        replace S := S.call hb
        refine gv F rfl rfl rfl (by simp) (y_nt rfl rfl) rfl rfl fun a F => ?_
        refine dv F (y_pkf (by simp) rfl rfl rfl) rfl rfl rfl fun a F => ?_
        refine dn ?_
        refine tn <| hK25 _ _ ?_
        refine cf F rfl (congrArg not rfl) ?_
        refine wp_skip ?_
        refine tn <| hK24 _ _ ?_
        refine sq fun K26 hK26 => ?_
        refine sq fun K27 hK27 => ?_
        refine rg ?_
        refine dv F (y_mv rfl rfl) rfl rfl rfl fun a F => ?_
        refine dv F (y_nt rfl rfl) rfl rfl rfl fun a F => ?_
        refine dv F (y_mv rfl rfl) rfl rfl rfl fun a F => ?_
        refine gsp F 122 rfl (fun h5 => ?_) (fun h5 => ?_)
        ·have g5 := h5
         try simp only [decide_eq_true_eq, decide_eq_false_iff_not, Bool.not_eq_true', Bool.not_eq_false', Bool.not_eq_eq_eq_not, Bool.not_true, Bool.not_false, Decidable.not_not] at g5
         refine gv F rfl rfl rfl h5 (y_mv rfl rfl) rfl rfl fun a F => ?_
         refine gv F rfl rfl rfl h5 (y_ld rfl rfl (S.lda (i := 17) rfl Tryz.isAgg55 Tryz.sizeOf55 rfl)) rfl rfl fun a F => ?_
         have hR : BE B H1 γ (BL8 C A' c' vals' H' sr' γ Ar' cr' ++ [bk b3 27 (actC u1 u2 t Ae env.length ce Ai ins.length ci Aa asks.length ca Ao outs.length co), bk b5 55 (encK k), bk b13 41 (encOc γ.out A1 c1 A2 c2), bk b17 41 (encOc γ.out A3 c3 A4 c4)]) w0 _ := ⟨sb, sr, A, c, vals, H, Ar, cr, hsr, hle, hE, hv, hF, (S.pick [0, 1, 2, 3, 4, 5, 6, 7, 8, 9, 10, 11, 12, 13, 14, 15, 16, 17, 18, 19] _ ⟨rfl, rfl, rfl, rfl, rfl, rfl, rfl, rfl, rfl, rfl, rfl, rfl, rfl, rfl, rfl, rfl, rfl, rfl, rfl, rfl, trivial⟩ rfl)⟩
         refine gc F rfl rfl rfl h5 (c_f rfl rfl rfl Tryz.call25) rfl rfl (e_Give k G hSm hfo.1.j (by omega) hR) fun a v w' hr F => ?_
         obtain ⟨hvv, hR⟩ := hr
         rw [give_over (by assumption)] at hvv hR
         subst hvv
         obtain ⟨sb, sr, A, c, vals, H, Ar, cr, hsr, hle, hE, hv, hF, S⟩ := hR
         refine gv F rfl rfl rfl h5 (y_in rfl rfl rfl) rfl rfl fun a F => ?_
         refine dv F (y_pkt h5 rfl rfl rfl) rfl rfl rfl fun a F => ?_
         refine dn ?_
         refine tn <| hK27 _ _ ?_
         refine cf F rfl rfl ?_
         refine wp_skip ?_
         refine tn <| hK26 _ _ ?_
         refine sq fun K28 hK28 => ?_
         refine rg ?_
         refine dv F (y_mv rfl rfl) rfl rfl rfl fun a F => ?_
         have hR : BE B H1 γ (BL8 C A' c' vals' H' sr' γ Ar' cr' ++ [bk b3 27 (actC u1 u2 t Ae env.length ce Ai ins.length ci Aa asks.length ca Ao outs.length co), bk b5 55 (encK k), bk b13 41 (encOc γ.out A1 c1 A2 c2), bk b17 41 (encOc γ.out A3 c3 A4 c4)]) w0 _ := ⟨sb, sr, A, c, vals, H, Ar, cr, hsr, hle, hE, hv, hF, (S.pick [0, 1, 2, 3, 4, 5, 6, 7, 8, 9, 10, 11, 12, 13, 14, 15, 16, 17, 18, 19] _ ⟨rfl, rfl, rfl, rfl, rfl, rfl, rfl, rfl, rfl, rfl, rfl, rfl, rfl, rfl, rfl, rfl, rfl, rfl, rfl, rfl, trivial⟩ rfl)⟩
         refine dc F (c_f rfl rfl rfl Tryz.call26) rfl rfl rfl (e_Outcome hSm hfo.1.j hR) fun a v w' hr F => ?_
         obtain ⟨H3, A5, c5, A6, c6, hle3, rfl, hf5, hf6, hR⟩ := hr
         obtain ⟨sb, sr, A, c, vals, H, Ar, cr, hsr, hle, hE, hv, hF, S⟩ := hR
         have hle1' := Hp.le_trans hle3 hle
         refine dv F (y_mv rfl rfl) rfl rfl rfl fun a F => ?_
         refine dv F (y_ex rfl rfl rfl) rfl rfl rfl fun a F => ?_
         refine dv F (y_ex rfl rfl rfl) rfl rfl rfl fun a F => ?_
         refine dal F S rfl Tryz.zeroValue41 rfl rfl rfl rfl fun a w b19 F S => ?_
         refine dsw F S rfl rfl rfl Tryz.sizeOf41 (i := 20) rfl rfl rfl rfl (one41 _ _ _ _ _ _ _ _) rfl rfl fun a w F S => ?_
         refine dv F (y_as rfl rfl) rfl rfl rfl fun a F => ?_
         refine dn ?_
         refine tn <| hK28 _ _ ?_
         refine sq fun K29 hK29 => ?_
         refine rg ?_
         refine dv F (y_mv rfl rfl) rfl rfl rfl fun a F => ?_
         refine dv F (y_mv rfl rfl) rfl rfl rfl fun a F => ?_
         refine dv F (y_nt rfl rfl) rfl rfl rfl fun a F => ?_
         refine dv F (y_be rfl rfl rfl Tryz.underlying4) rfl rfl rfl fun a F => ?_
         refine dv F (y_mv rfl rfl) rfl rfl rfl fun a F => ?_
         refine gv F rfl rfl rfl (by simp) (y_ld rfl rfl (S.lda (i := 20) rfl Tryz.isAgg41 Tryz.sizeOf41 rfl)) rfl rfl fun a F => ?_
         refine gv F rfl rfl rfl (by simp) (y_ld rfl rfl (S.lda (i := 18) rfl Tryz.isAgg41 Tryz.sizeOf41 rfl)) rfl rfl fun a F => ?_
         refine gc F rfl rfl rfl (by simp) (c_f rfl rfl rfl Tryz.call21) rfl rfl (c_Same _ ((hf5.le hle).sl S (i := 3) rfl) ((hf6.le hle).sl S (i := 3) rfl) ((hf1.le hle1').sl S (i := 3) rfl) ((hf2.le hle1').sl S (i := 3) rfl) hol) fun a v w' hr F => ?_
         obtain ⟨rfl, hb⟩ := hr
         rw [sameO_rfl] at F
         replace S := S.call hb
         refine dv F (y_pkt (by simp) rfl rfl rfl) rfl rfl rfl fun a F => ?_
         refine dv F (y_as rfl rfl) rfl rfl rfl fun a F => ?_
         refine dn ?_
         refine tn <| hK29 _ _ ?_
         refine wp_ret ?_
         refine ?_
         exact rt1 F rfl rfl ⟨rfl, S.bel⟩
        ·have g5 := h5
         try simp only [decide_eq_true_eq, decide_eq_false_iff_not, Bool.not_eq_true', Bool.not_eq_false', Bool.not_eq_eq_eq_not, Bool.not_true, Bool.not_false, Decidable.not_not] at g5
         refine gs F rfl rfl rfl h5 rfl rfl fun a F => ?_
         refine gs F rfl rfl rfl h5 rfl rfl fun a F => ?_
         refine gs F rfl rfl rfl h5 rfl rfl fun a F => ?_
         refine gs F rfl rfl rfl h5 rfl rfl fun a F => ?_
         refine dv F (y_pkf h5 rfl rfl rfl) rfl rfl rfl fun a F => ?_
         refine dn ?_
         refine tn <| hK27 _ _ ?_
         refine cf F rfl rfl ?_
         refine wp_skip ?_
         refine tn <| hK26 _ _ ?_
         refine sq fun K30 hK30 => ?_
         refine rg ?_
         refine dv F (y_mv rfl rfl) rfl rfl rfl fun a F => ?_
         have hR : BE B H1 γ (BL8 C A' c' vals' H' sr' γ Ar' cr' ++ [bk b3 27 (actC u1 u2 t Ae env.length ce Ai ins.length ci Aa asks.length ca Ao outs.length co), bk b5 55 (encK k), bk b13 41 (encOc γ.out A1 c1 A2 c2), bk b17 41 (encOc γ.out A3 c3 A4 c4)]) w0 _ := ⟨sb, sr, A, c, vals, H, Ar, cr, hsr, hle, hE, hv, hF, (S.pick [0, 1, 2, 3, 4, 5, 6, 7, 8, 9, 10, 11, 12, 13, 14, 15, 16, 17, 18, 19] _ ⟨rfl, rfl, rfl, rfl, rfl, rfl, rfl, rfl, rfl, rfl, rfl, rfl, rfl, rfl, rfl, rfl, rfl, rfl, rfl, rfl, trivial⟩ rfl)⟩
         refine dc F (c_f rfl rfl rfl Tryz.call26) rfl rfl rfl (e_Outcome hSm hfo.1.j hR) fun a v w' hr F => ?_
         obtain ⟨H3, A5, c5, A6, c6, hle3, rfl, hf5, hf6, hR⟩ := hr
         obtain ⟨sb, sr, A, c, vals, H, Ar, cr, hsr, hle, hE, hv, hF, S⟩ := hR
         have hle1' := Hp.le_trans hle3 hle
         refine dv F (y_mv rfl rfl) rfl rfl rfl fun a F => ?_
         refine dv F (y_ex rfl rfl rfl) rfl rfl rfl fun a F => ?_
         refine dv F (y_ex rfl rfl rfl) rfl rfl rfl fun a F => ?_
         refine dal F S rfl Tryz.zeroValue41 rfl rfl rfl rfl fun a w b19 F S => ?_
         refine dsw F S rfl rfl rfl Tryz.sizeOf41 (i := 20) rfl rfl rfl rfl (one41 _ _ _ _ _ _ _ _) rfl rfl fun a w F S => ?_
         refine dv F (y_as rfl rfl) rfl rfl rfl fun a F => ?_
         refine dn ?_
         refine tn <| hK30 _ _ ?_
         refine sq fun K31 hK31 => ?_
         refine rg ?_
         refine dv F (y_mv rfl rfl) rfl rfl rfl fun a F => ?_
         refine dv F (y_mv rfl rfl) rfl rfl rfl fun a F => ?_
         refine dv F (y_nt rfl rfl) rfl rfl rfl fun a F => ?_
         refine dv F (y_be rfl rfl rfl Tryz.underlying4) rfl rfl rfl fun a F => ?_
         refine dv F (y_mv rfl rfl) rfl rfl rfl fun a F => ?_
         refine gv F rfl rfl rfl (by simp) (y_ld rfl rfl (S.lda (i := 20) rfl Tryz.isAgg41 Tryz.sizeOf41 rfl)) rfl rfl fun a F => ?_
         refine gv F rfl rfl rfl (by simp) (y_ld rfl rfl (S.lda (i := 18) rfl Tryz.isAgg41 Tryz.sizeOf41 rfl)) rfl rfl fun a F => ?_
         refine gc F rfl rfl rfl (by simp) (c_f rfl rfl rfl Tryz.call21) rfl rfl (c_Same _ ((hf5.le hle).sl S (i := 3) rfl) ((hf6.le hle).sl S (i := 3) rfl) ((hf1.le hle1').sl S (i := 3) rfl) ((hf2.le hle1').sl S (i := 3) rfl) hol) fun a v w' hr F => ?_
         obtain ⟨rfl, hb⟩ := hr
         rw [sameO_rfl] at F
         replace S := S.call hb
         refine dv F (y_pkt (by simp) rfl rfl rfl) rfl rfl rfl fun a F => ?_
         refine dv F (y_as rfl rfl) rfl rfl rfl fun a F => ?_
         refine dn ?_
         refine tn <| hK31 _ _ ?_
         refine wp_ret ?_
         refine ?_
         exact rt1 F rfl rfl ⟨rfl, S.bel⟩
       ·have g4 := h4
        try simp only [decide_eq_true_eq, decide_eq_false_iff_not, Bool.not_eq_true', Bool.not_eq_false', Bool.not_eq_eq_eq_not, Bool.not_true, Bool.not_false, Decidable.not_not] at g4
        refine gs F rfl rfl rfl h4 rfl rfl fun a F => ?_
        refine gs F rfl rfl rfl h4 rfl rfl fun a F => ?_
        refine gs F rfl rfl rfl h4 rfl rfl fun a F => ?_
        refine gs F rfl rfl rfl h4 rfl rfl fun a F => ?_
        refine dv F (y_pkf h4 rfl rfl rfl) rfl rfl rfl fun a F => ?_
        refine dv F (y_mv rfl rfl) rfl rfl rfl fun a F => ?_
        refine gv F rfl rfl rfl rfl (y_mv rfl rfl) rfl rfl fun a F => ?_
        refine gv F rfl rfl rfl rfl (y_mv rfl rfl) rfl rfl fun a F => ?_
        refine gnd F rfl rfl rfl rfl ?_
        refine dms F S (m := 65537) rfl rfl rfl Tryz.underlying61 infoU8 rfl (by decide) (by decide) rfl rfl rfl fun a w b72 F S => ?_
        obtain ⟨xs, hxl, hxs⟩ := zeros
        rw [hxs] at S
        rw [← hxl] at F
        refine gv F rfl rfl rfl rfl (y_cbs rfl rfl Tryz.underlying61 Tryz.underlying5 Tryz.underlying9 (S.sl (i := 18) rfl lenU8)) rfl rfl fun a F => ?_
        refine gv F rfl rfl rfl rfl (y_bd rfl rfl (bdKz _ _)) rfl rfl fun a F => ?_
        have hR : BE B Hb β0 (BL8 C A' c' vals' H' sr' β0 Ar' cr' ++ [bk b3 27 (actC u1 u2 t Ae env.length ce Ai ins.length ci Aa asks.length ca Ao outs.length co), bk b5 55 (encK k)]) w0 _ := ⟨sb, sr, A, c, vals, H, Ar, cr, hsr, hle, hE, hv, hF, (S.pick [0, 1, 2, 3, 4, 5, 6, 7, 8, 9, 10, 11, 12, 13, 14, 15, 16, 17] _ ⟨rfl, rfl, rfl, rfl, rfl, rfl, rfl, rfl, rfl, rfl, rfl, rfl, rfl, rfl, rfl, rfl, rfl, rfl, trivial⟩ rfl)⟩
        refine gc F rfl rfl rfl rfl (c_f rfl rfl rfl Tryz.call25) rfl rfl (e_Give ⟨β0.asks, true, mkB xs⟩ G hSm hB.j (big_small hxl) hR) fun a v w' hr F => ?_
        obtain ⟨hvv, hR⟩ := hr
        rw [give_big hov hxl] at hvv hR
        subst hvv
        obtain ⟨sb, sr, A, c, vals, H, Ar, cr, hsr, hle, hE, hv, hF, S⟩ := hR
        refine gv F rfl rfl rfl rfl (y_in rfl rfl rfl) rfl rfl fun a F => ?_
        refine dv F (y_pkf rfl rfl rfl rfl) rfl rfl rfl fun a F => ?_
        refine dn ?_
        refine tn <| hK21 _ _ ?_
        refine cf F rfl rfl ?_
        refine wp_skip ?_
        refine tn <| hK19 _ _ ?_
        refine sq fun K32 hK32 => ?_
        refine rg ?_
        refine dv F (y_mv rfl rfl) rfl rfl rfl fun a F => ?_
        refine dv F (y_mv rfl rfl) rfl rfl rfl fun a F => ?_
        obtain ⟨γ, hγ, hfo⟩ := feed_ex (known := known) hks hB
        have hγc : β0.feed C known 600 = γ := (feed_same hsm known 600 β0).symm.trans hγ
        have hkl := kz_len known
        have hR : BE B Hb β0 (BL8 C A' c' vals' H' sr' β0 Ar' cr' ++ [bk b3 27 (actC u1 u2 t Ae env.length ce Ai ins.length ci Aa asks.length ca Ao outs.length co), bk b5 55 (encK k)]) w0 _ := ⟨sb, sr, A, c, vals, H, Ar, cr, hsr, hle, hE, hv, hF, (S.pick [0, 1, 2, 3, 4, 5, 6, 7, 8, 9, 10, 11, 12, 13, 14, 15, 16, 17] _ ⟨rfl, rfl, rfl, rfl, rfl, rfl, rfl, rfl, rfl, rfl, rfl, rfl, rfl, rfl, rfl, rfl, rfl, rfl, trivial⟩ rfl)⟩
        refine dc F (c_f rfl rfl rfl Tryz.call19) rfl rfl rfl (c_lawGoOnE hγ G hSm hB hK hks (by omega) (fun k hk => by have := kz_mem hk; omega) hR) fun a v w' hr F => ?_
        obtain ⟨H1, A1, c1, A2, c2, hle1, rfl, hf1, hf2, hR⟩ := hr
        obtain ⟨sb, sr, A, c, vals, H, Ar, cr, hsr, hle, hE, hv, hF, S⟩ := hR
        refine dv F (y_mv rfl rfl) rfl rfl rfl fun a F => ?_
        refine dv F (y_ex rfl rfl rfl) rfl rfl rfl fun a F => ?_
        refine dv F (y_ex rfl rfl rfl) rfl rfl rfl fun a F => ?_
        refine dv F (y_ex rfl rfl rfl) rfl rfl rfl fun a F => ?_
        refine dv F (y_ex rfl rfl rfl) rfl rfl rfl fun a F => ?_
        refine dal F S rfl Tryz.zeroValue41 rfl rfl rfl rfl fun a w b13 F S => ?_
        refine dv F (y_as rfl rfl) rfl rfl rfl fun a F => ?_
        refine dv F (y_as rfl rfl) rfl rfl rfl fun a F => ?_
        refine dsw F S rfl rfl rfl Tryz.sizeOf41 (i := 18) rfl rfl rfl rfl (one41 _ _ _ _ _ _ _ _) rfl rfl fun a w F S => ?_
        refine dv F (y_as rfl rfl) rfl rfl rfl fun a F => ?_
        refine dn ?_
        refine tn <| hK32 _ _ ?_
        refine sq fun K33 hK33 => ?_
        refine rg ?_
        refine dv F (y_mv rfl rfl) rfl rfl rfl fun a F => ?_
        refine dv F (y_mv rfl rfl) rfl rfl rfl fun a F => ?_
        have hR : BE C Hc β0 (BL8 B A c vals H sr γ Ar cr ++ [bk b3 27 (actC u1 u2 t Ae env.length ce Ai ins.length ci Aa asks.length ca Ao outs.length co), bk b5 55 (encK k), bk b13 41 (encOc γ.out A1 c1 A2 c2)]) w0 _ := ⟨sb', sr', A', c', vals', H', Ar', cr', hsr', hle', hE', hv', hF', (S.pick [8, 9, 10, 11, 12, 13, 14, 15, 0, 1, 2, 3, 4, 5, 6, 7, 16, 17, 18] _ ⟨rfl, rfl, rfl, rfl, rfl, rfl, rfl, rfl, rfl, rfl, rfl, rfl, rfl, rfl, rfl, rfl, rfl, rfl, rfl, trivial⟩ rfl)⟩
        refine dc F (c_f rfl rfl rfl Tryz.call19) rfl rfl rfl (c_lawGoOnE hγc G hSc hBc hK hks (by omega) (fun k hk => by have := kz_mem hk; omega) hR) fun a v w' hr F => ?_
        obtain ⟨H2, A3, c3, A4, c4, hle2, rfl, hf3, hf4, hR⟩ := hr
        obtain ⟨sb', sr', A', c', vals', H', Ar', cr', hsr', hle', hE', hv', hF', S⟩ := hR
        replace S : St w0 _ (BL8 B A c vals H sr γ Ar cr ++ (BL8 C A' c' vals' H' sr' γ Ar' cr' ++ [bk b3 27 (actC u1 u2 t Ae env.length ce Ai ins.length ci Aa asks.length ca Ao outs.length co), bk b5 55 (encK k), bk b13 41 (encOc γ.out A1 c1 A2 c2)])) := S.pick [8, 9, 10, 11, 12, 13, 14, 15, 0, 1, 2, 3, 4, 5, 6, 7, 16, 17, 18] _ ⟨rfl, rfl, rfl, rfl, rfl, rfl, rfl, rfl, rfl, rfl, rfl, rfl, rfl, rfl, rfl, rfl, rfl, rfl, rfl, trivial⟩ rfl
        refine dv F (y_mv rfl rfl) rfl rfl rfl fun a F => ?_
        refine dv F (y_ex rfl rfl rfl) rfl rfl rfl fun a F => ?_
        refine dv F (y_ex rfl rfl rfl) rfl rfl rfl fun a F => ?_
        refine dv F (y_ex rfl rfl rfl) rfl rfl rfl fun a F => ?_
        refine dv F (y_ex rfl rfl rfl) rfl rfl rfl fun a F => ?_
        refine dal F S rfl Tryz.zeroValue41 rfl rfl rfl rfl fun a w b17 F S => ?_
        refine dv F (y_as rfl rfl) rfl rfl rfl fun a F => ?_
        refine dv F (y_as rfl rfl) rfl rfl rfl fun a F => ?_
        refine dsw F S rfl rfl rfl Tryz.sizeOf41 (i := 19) rfl rfl rfl rfl (one41 _ _ _ _ _ _ _ _) rfl rfl fun a w F S => ?_
        refine dv F (y_as rfl rfl) rfl rfl rfl fun a F => ?_
        refine dn ?_
        refine tn <| hK33 _ _ ?_
        refine sq fun K34 hK34 => ?_
        refine sq fun K35 hK35 => ?_
        have hol := feed_lens hSm hfo.1
        refine rg ?_
        refine dv F (y_mv rfl rfl) rfl rfl rfl fun a F => ?_
        refine dv F (y_nt rfl rfl) rfl rfl rfl fun a F => ?_
        refine dv F (y_mv rfl rfl) rfl rfl rfl fun a F => ?_
        refine gv F rfl rfl rfl (congrArg not rfl) (y_mv rfl rfl) rfl rfl fun a F => ?_
        refine gv F rfl rfl rfl (congrArg not rfl) (y_nt rfl rfl) rfl rfl fun a F => ?_
        refine dv F (y_pkf (congrArg not rfl) rfl rfl rfl) rfl rfl rfl fun a F => ?_
        refine dv F (y_mv rfl rfl) rfl rfl rfl fun a F => ?_
        refine gv F rfl rfl rfl (congrArg not rfl) (y_mv rfl rfl) rfl rfl fun a F => ?_
        refine gv F rfl rfl rfl (congrArg not rfl) (y_mv rfl rfl) rfl rfl fun a F => ?_
        refine gv F rfl rfl rfl (congrArg not rfl) (Go.Eng.y_sn rfl rfl rfl) rfl rfl fun a F => ?_
        refine dv F (y_pkf (congrArg not rfl) rfl rfl rfl) rfl rfl rfl fun a F => ?_
        refine dv F (y_mv rfl rfl) rfl rfl rfl fun a F => ?_
        refine gv F rfl rfl rfl (by simp) (y_mv rfl rfl) rfl rfl fun a F => ?_
        refine gv F rfl rfl rfl (by simp) (y_mv rfl rfl) rfl rfl fun a F => ?_
        refine gv F rfl rfl rfl (by simp) (y_bnB rfl rfl rfl Tryz.underlying4) rfl rfl fun a F => ?_
        refine dv F (y_pkf (by simp) rfl rfl rfl) rfl rfl rfl fun a F => ?_
        refine dv F (y_mv rfl rfl) rfl rfl rfl fun a F => ?_
        refine gv F rfl rfl rfl (by simp) (y_ld rfl rfl (S.lda (i := 18) rfl Tryz.isAgg41 Tryz.sizeOf41 rfl)) rfl rfl fun a F => ?_
        refine gv F rfl rfl rfl (by simp) (y_ld rfl rfl (S.lda (i := 19) rfl Tryz.isAgg41 Tryz.sizeOf41 rfl)) rfl rfl fun a F => ?_
        refine gc F rfl rfl rfl (by simp) (c_f rfl rfl rfl Tryz.call21) rfl rfl (c_Same _ ((hf1.le hle).sl S (i := 3) rfl) ((hf2.le hle).sl S (i := 3) rfl) ((hf3.le hle').sl S (i := 11) rfl) ((hf4.le hle').sl S (i := 11) rfl) hol) fun a v w' hr F => ?_
        obtain ⟨rfl, hb⟩ := hr
        rw [sameO_rfl] at F
        replace S := S.call hb
        refine gv F rfl rfl rfl (by simp) (y_nt rfl rfl) rfl rfl fun a F => ?_
        refine dv F (y_pkf (by simp) rfl rfl rfl) rfl rfl rfl fun a F => ?_
        refine dn ?_
        refine tn <| hK35 _ _ ?_
        refine cf F rfl (congrArg not rfl) ?_
        refine wp_skip ?_
        refine tn <| hK34 _ _ ?_
        refine sq fun K36 hK36 => ?_
        refine sq fun K37 hK37 => ?_
        refine rg ?_
        refine dv F (y_mv rfl rfl) rfl rfl rfl fun a F => ?_
        refine dv F (y_nt rfl rfl) rfl rfl rfl fun a F => ?_
        refine dv F (y_mv rfl rfl) rfl rfl rfl fun a F => ?_
        refine gsp F 122 rfl (fun h6 => ?_) (fun h6 => ?_)
        ·have g6 := h6
         try simp only [decide_eq_true_eq, decide_eq_false_iff_not, Bool.not_eq_true', Bool.not_eq_false', Bool.not_eq_eq_eq_not, Bool.not_true, Bool.not_false, Decidable.not_not] at g6
         refine gv F rfl rfl rfl h6 (y_mv rfl rfl) rfl rfl fun a F => ?_
         refine gv F rfl rfl rfl h6 (y_ld rfl rfl (S.lda (i := 17) rfl Tryz.isAgg55 Tryz.sizeOf55 rfl)) rfl rfl fun a F => ?_
         have hR : BE B H1 γ (BL8 C A' c' vals' H' sr' γ Ar' cr' ++ [bk b3 27 (actC u1 u2 t Ae env.length ce Ai ins.length ci Aa asks.length ca Ao outs.length co), bk b5 55 (encK k), bk b13 41 (encOc γ.out A1 c1 A2 c2), bk b17 41 (encOc γ.out A3 c3 A4 c4)]) w0 _ := ⟨sb, sr, A, c, vals, H, Ar, cr, hsr, hle, hE, hv, hF, (S.pick [0, 1, 2, 3, 4, 5, 6, 7, 8, 9, 10, 11, 12, 13, 14, 15, 16, 17, 18, 19] _ ⟨rfl, rfl, rfl, rfl, rfl, rfl, rfl, rfl, rfl, rfl, rfl, rfl, rfl, rfl, rfl, rfl, rfl, rfl, rfl, rfl, trivial⟩ rfl)⟩
         refine gc F rfl rfl rfl h6 (c_f rfl rfl rfl Tryz.call25) rfl rfl (e_Give k G hSm hfo.1.j (by omega) hR) fun a v w' hr F => ?_
         obtain ⟨hvv, hR⟩ := hr
         rw [give_over (by assumption)] at hvv hR
         subst hvv
         obtain ⟨sb, sr, A, c, vals, H, Ar, cr, hsr, hle, hE, hv, hF, S⟩ := hR
         refine gv F rfl rfl rfl h6 (y_in rfl rfl rfl) rfl rfl fun a F => ?_
         refine dv F (y_pkt h6 rfl rfl rfl) rfl rfl rfl fun a F => ?_
         refine dn ?_
         refine tn <| hK37 _ _ ?_
         refine cf F rfl rfl ?_
         refine wp_skip ?_
         refine tn <| hK36 _ _ ?_
         refine sq fun K38 hK38 => ?_
         refine rg ?_
         refine dv F (y_mv rfl rfl) rfl rfl rfl fun a F => ?_
         have hR : BE B H1 γ (BL8 C A' c' vals' H' sr' γ Ar' cr' ++ [bk b3 27 (actC u1 u2 t Ae env.length ce Ai ins.length ci Aa asks.length ca Ao outs.length co), bk b5 55 (encK k), bk b13 41 (encOc γ.out A1 c1 A2 c2), bk b17 41 (encOc γ.out A3 c3 A4 c4)]) w0 _ := ⟨sb, sr, A, c, vals, H, Ar, cr, hsr, hle, hE, hv, hF, (S.pick [0, 1, 2, 3, 4, 5, 6, 7, 8, 9, 10, 11, 12, 13, 14, 15, 16, 17, 18, 19] _ ⟨rfl, rfl, rfl, rfl, rfl, rfl, rfl, rfl, rfl, rfl, rfl, rfl, rfl, rfl, rfl, rfl, rfl, rfl, rfl, rfl, trivial⟩ rfl)⟩
         refine dc F (c_f rfl rfl rfl Tryz.call26) rfl rfl rfl (e_Outcome hSm hfo.1.j hR) fun a v w' hr F => ?_
         obtain ⟨H3, A5, c5, A6, c6, hle3, rfl, hf5, hf6, hR⟩ := hr
         obtain ⟨sb, sr, A, c, vals, H, Ar, cr, hsr, hle, hE, hv, hF, S⟩ := hR
         have hle1' := Hp.le_trans hle3 hle
         refine dv F (y_mv rfl rfl) rfl rfl rfl fun a F => ?_
         refine dv F (y_ex rfl rfl rfl) rfl rfl rfl fun a F => ?_
         refine dv F (y_ex rfl rfl rfl) rfl rfl rfl fun a F => ?_
         refine dal F S rfl Tryz.zeroValue41 rfl rfl rfl rfl fun a w b19 F S => ?_
         refine dsw F S rfl rfl rfl Tryz.sizeOf41 (i := 20) rfl rfl rfl rfl (one41 _ _ _ _ _ _ _ _) rfl rfl fun a w F S => ?_
         refine dv F (y_as rfl rfl) rfl rfl rfl fun a F => ?_
         refine dn ?_
         refine tn <| hK38 _ _ ?_
         refine sq fun K39 hK39 => ?_
         refine rg ?_
         refine dv F (y_mv rfl rfl) rfl rfl rfl fun a F => ?_
         refine dv F (y_mv rfl rfl) rfl rfl rfl fun a F => ?_
         refine dv F (y_nt rfl rfl) rfl rfl rfl fun a F => ?_
         refine dv F (y_be rfl rfl rfl Tryz.underlying4) rfl rfl rfl fun a F => ?_
         refine dv F (y_mv rfl rfl) rfl rfl rfl fun a F => ?_
         refine gv F rfl rfl rfl (by simp) (y_ld rfl rfl (S.lda (i := 20) rfl Tryz.isAgg41 Tryz.sizeOf41 rfl)) rfl rfl fun a F => ?_
         refine gv F rfl rfl rfl (by simp) (y_ld rfl rfl (S.lda (i := 18) rfl Tryz.isAgg41 Tryz.sizeOf41 rfl)) rfl rfl fun a F => ?_
         refine gc F rfl rfl rfl (by simp) (c_f rfl rfl rfl Tryz.call21) rfl rfl (c_Same _ ((hf5.le hle).sl S (i := 3) rfl) ((hf6.le hle).sl S (i := 3) rfl) ((hf1.le hle1').sl S (i := 3) rfl) ((hf2.le hle1').sl S (i := 3) rfl) hol) fun a v w' hr F => ?_
         obtain ⟨rfl, hb⟩ := hr
         rw [sameO_rfl] at F
         replace S := S.call hb
         refine dv F (y_pkt (by simp) rfl rfl rfl) rfl rfl rfl fun a F => ?_
         refine dv F (y_as rfl rfl) rfl rfl rfl fun a F => ?_
         refine dn ?_
         refine tn <| hK39 _ _ ?_
         refine wp_ret ?_
         refine ?_
         exact rt1 F rfl rfl ⟨rfl, S.bel⟩
        ·have g6 := h6
         try simp only [decide_eq_true_eq, decide_eq_false_iff_not, Bool.not_eq_true', Bool.not_eq_false', Bool.not_eq_eq_eq_not, Bool.not_true, Bool.not_false, Decidable.not_not] at g6
         refine gs F rfl rfl rfl h6 rfl rfl fun a F => ?_
         refine gs F rfl rfl rfl h6 rfl rfl fun a F => ?_
         refine gs F rfl rfl rfl h6 rfl rfl fun a F => ?_
         refine gs F rfl rfl rfl h6 rfl rfl fun a F => ?_
         refine dv F (y_pkf h6 rfl rfl rfl) rfl rfl rfl fun a F => ?_
         refine dn ?_
         refine tn <| hK37 _ _ ?_
         refine cf F rfl rfl ?_
         refine wp_skip ?_
         refine tn <| hK36 _ _ ?_
         refine sq fun K40 hK40 => ?_
         refine rg ?_
         refine dv F (y_mv rfl rfl) rfl rfl rfl fun a F => ?_
         have hR : BE B H1 γ (BL8 C A' c' vals' H' sr' γ Ar' cr' ++ [bk b3 27 (actC u1 u2 t Ae env.length ce Ai ins.length ci Aa asks.length ca Ao outs.length co), bk b5 55 (encK k), bk b13 41 (encOc γ.out A1 c1 A2 c2), bk b17 41 (encOc γ.out A3 c3 A4 c4)]) w0 _ := ⟨sb, sr, A, c, vals, H, Ar, cr, hsr, hle, hE, hv, hF, (S.pick [0, 1, 2, 3, 4, 5, 6, 7, 8, 9, 10, 11, 12, 13, 14, 15, 16, 17, 18, 19] _ ⟨rfl, rfl, rfl, rfl, rfl, rfl, rfl, rfl, rfl, rfl, rfl, rfl, rfl, rfl, rfl, rfl, rfl, rfl, rfl, rfl, trivial⟩ rfl)⟩
         refine dc F (c_f rfl rfl rfl Tryz.call26) rfl rfl rfl (e_Outcome hSm hfo.1.j hR) fun a v w' hr F => ?_
         obtain ⟨H3, A5, c5, A6, c6, hle3, rfl, hf5, hf6, hR⟩ := hr
         obtain ⟨sb, sr, A, c, vals, H, Ar, cr, hsr, hle, hE, hv, hF, S⟩ := hR
         have hle1' := Hp.le_trans hle3 hle
         refine dv F (y_mv rfl rfl) rfl rfl rfl fun a F => ?_
         refine dv F (y_ex rfl rfl rfl) rfl rfl rfl fun a F => ?_
         refine dv F (y_ex rfl rfl rfl) rfl rfl rfl fun a F => ?_
         refine dal F S rfl Tryz.zeroValue41 rfl rfl rfl rfl fun a w b19 F S => ?_
         refine dsw F S rfl rfl rfl Tryz.sizeOf41 (i := 20) rfl rfl rfl rfl (one41 _ _ _ _ _ _ _ _) rfl rfl fun a w F S => ?_
         refine dv F (y_as rfl rfl) rfl rfl rfl fun a F => ?_
         refine dn ?_
         refine tn <| hK40 _ _ ?_
         refine sq fun K41 hK41 => ?_
         refine rg ?_
         refine dv F (y_mv rfl rfl) rfl rfl rfl fun a F => ?_
         refine dv F (y_mv rfl rfl) rfl rfl rfl fun a F => ?_
         refine dv F (y_nt rfl rfl) rfl rfl rfl fun a F => ?_
         refine dv F (y_be rfl rfl rfl Tryz.underlying4) rfl rfl rfl fun a F => ?_
         refine dv F (y_mv rfl rfl) rfl rfl rfl fun a F => ?_
         refine gv F rfl rfl rfl (by simp) (y_ld rfl rfl (S.lda (i := 20) rfl Tryz.isAgg41 Tryz.sizeOf41 rfl)) rfl rfl fun a F => ?_
         refine gv F rfl rfl rfl (by simp) (y_ld rfl rfl (S.lda (i := 18) rfl Tryz.isAgg41 Tryz.sizeOf41 rfl)) rfl rfl fun a F => ?_
         refine gc F rfl rfl rfl (by simp) (c_f rfl rfl rfl Tryz.call21) rfl rfl (c_Same _ ((hf5.le hle).sl S (i := 3) rfl) ((hf6.le hle).sl S (i := 3) rfl) ((hf1.le hle1').sl S (i := 3) rfl) ((hf2.le hle1').sl S (i := 3) rfl) hol) fun a v w' hr F => ?_
         obtain ⟨rfl, hb⟩ := hr
         rw [sameO_rfl] at F
         replace S := S.call hb
         refine dv F (y_pkt (by simp) rfl rfl rfl) rfl rfl rfl fun a F => ?_
         refine dv F (y_as rfl rfl) rfl rfl rfl fun a F => ?_
         refine dn ?_
         refine tn <| hK41 _ _ ?_
         refine wp_ret ?_
         refine ?_
         exact rt1 F rfl rfl ⟨rfl, S.bel⟩
      ·refine sq fun K42 hK42 => ?_
       have hov : β0.over = true := by simpa using hwt
       refine rg ?_
       refine dv F (y_mv rfl rfl) rfl rfl rfl fun a F => ?_
       refine dv F (y_ld rfl rfl (S.lda (i := 17) rfl Tryz.isAgg55 Tryz.sizeOf55 rfl)) rfl rfl rfl fun a F => ?_
       have hR : BE B Hb β0 (BL8 C A' c' vals' H' sr' β0 Ar' cr' ++ [bk b3 27 (actC u1 u2 t Ae env.length ce Ai ins.length ci Aa asks.length ca Ao outs.length co), bk b5 55 (encK k)]) w0 _ := ⟨sb, sr, A, c, vals, H, Ar, cr, hsr, hle, hE, hv, hF, (S.pick [0, 1, 2, 3, 4, 5, 6, 7, 8, 9, 10, 11, 12, 13, 14, 15, 16, 17] _ ⟨rfl, rfl, rfl, rfl, rfl, rfl, rfl, rfl, rfl, rfl, rfl, rfl, rfl, rfl, rfl, rfl, rfl, rfl, trivial⟩ rfl)⟩
       refine dc F (c_f rfl rfl rfl Tryz.call25) rfl rfl rfl (e_Give k G hSm hB.j (by omega) hR) fun a v w' hr F => ?_
       obtain ⟨hvv, hR⟩ := hr
       rw [give_over hov] at hvv hR
       subst hvv
       obtain ⟨sb, sr, A, c, vals, H, Ar, cr, hsr, hle, hE, hv, hF, S⟩ := hR
       refine dv F (y_in rfl rfl rfl) rfl rfl rfl fun a F => ?_
       refine dn ?_
       refine tn <| hK42 _ _ ?_
       refine cf F rfl rfl ?_
       refine wp_skip ?_
       refine tn <| hK19 _ _ ?_
       refine sq fun K43 hK43 => ?_
       refine rg ?_
       refine dv F (y_mv rfl rfl) rfl rfl rfl fun a F => ?_
       refine dv F (y_mv rfl rfl) rfl rfl rfl fun a F => ?_
       obtain ⟨γ, hγ, hfo⟩ := feed_ex (known := known) hks hB
       have hγc : β0.feed C known 600 = γ := (feed_same hsm known 600 β0).symm.trans hγ
       have hkl := kz_len known
       have hR : BE B Hb β0 (BL8 C A' c' vals' H' sr' β0 Ar' cr' ++ [bk b3 27 (actC u1 u2 t Ae env.length ce Ai ins.length ci Aa asks.length ca Ao outs.length co), bk b5 55 (encK k)]) w0 _ := ⟨sb, sr, A, c, vals, H, Ar, cr, hsr, hle, hE, hv, hF, (S.pick [0, 1, 2, 3, 4, 5, 6, 7, 8, 9, 10, 11, 12, 13, 14, 15, 16, 17] _ ⟨rfl, rfl, rfl, rfl, rfl, rfl, rfl, rfl, rfl, rfl, rfl, rfl, rfl, rfl, rfl, rfl, rfl, rfl, trivial⟩ rfl)⟩
       refine dc F (c_f rfl rfl rfl Tryz.call19) rfl rfl rfl (c_lawGoOnE hγ G hSm hB hK hks (by omega) (fun k hk => by have := kz_mem hk; omega) hR) fun a v w' hr F => ?_
       obtain ⟨H1, A1, c1, A2, c2, hle1, rfl, hf1, hf2, hR⟩ := hr
       obtain ⟨sb, sr, A, c, vals, H, Ar, cr, hsr, hle, hE, hv, hF, S⟩ := hR
       refine dv F (y_mv rfl rfl) rfl rfl rfl fun a F => ?_
       refine dv F (y_ex rfl rfl rfl) rfl rfl rfl fun a F => ?_
       refine dv F (y_ex rfl rfl rfl) rfl rfl rfl fun a F => ?_
       refine dv F (y_ex rfl rfl rfl) rfl rfl rfl fun a F => ?_
       refine dv F (y_ex rfl rfl rfl) rfl rfl rfl fun a F => ?_
       refine dal F S rfl Tryz.zeroValue41 rfl rfl rfl rfl fun a w b13 F S => ?_
       refine dv F (y_as rfl rfl) rfl rfl rfl fun a F => ?_
       refine dv F (y_as rfl rfl) rfl rfl rfl fun a F => ?_
       refine dsw F S rfl rfl rfl Tryz.sizeOf41 (i := 18) rfl rfl rfl rfl (one41 _ _ _ _ _ _ _ _) rfl rfl fun a w F S => ?_
       refine dv F (y_as rfl rfl) rfl rfl rfl fun a F => ?_
       refine dn ?_
       refine tn <| hK43 _ _ ?_
       refine sq fun K44 hK44 => ?_
       refine rg ?_
       refine dv F (y_mv rfl rfl) rfl rfl rfl fun a F => ?_
       refine dv F (y_mv rfl rfl) rfl rfl rfl fun a F => ?_
       have hR : BE C Hc β0 (BL8 B A c vals H sr γ Ar cr ++ [bk b3 27 (actC u1 u2 t Ae env.length ce Ai ins.length ci Aa asks.length ca Ao outs.length co), bk b5 55 (encK k), bk b13 41 (encOc γ.out A1 c1 A2 c2)]) w0 _ := ⟨sb', sr', A', c', vals', H', Ar', cr', hsr', hle', hE', hv', hF', (S.pick [8, 9, 10, 11, 12, 13, 14, 15, 0, 1, 2, 3, 4, 5, 6, 7, 16, 17, 18] _ ⟨rfl, rfl, rfl, rfl, rfl, rfl, rfl, rfl, rfl, rfl, rfl, rfl, rfl, rfl, rfl, rfl, rfl, rfl, rfl, trivial⟩ rfl)⟩
       refine dc F (c_f rfl rfl rfl Tryz.call19) rfl rfl rfl (c_lawGoOnE hγc G hSc hBc hK hks (by omega) (fun k hk => by have := kz_mem hk; omega) hR) fun a v w' hr F => ?_
       obtain ⟨H2, A3, c3, A4, c4, hle2, rfl, hf3, hf4, hR⟩ := hr
       obtain ⟨sb', sr', A', c', vals', H', Ar', cr', hsr', hle', hE', hv', hF', S⟩ := hR
       replace S : St w0 _ (BL8 B A c vals H sr γ Ar cr ++ (BL8 C A' c' vals' H' sr' γ Ar' cr' ++ [bk b3 27 (actC u1 u2 t Ae env.length ce Ai ins.length ci Aa asks.length ca Ao outs.length co), bk b5 55 (encK k), bk b13 41 (encOc γ.out A1 c1 A2 c2)])) := S.pick [8, 9, 10, 11, 12, 13, 14, 15, 0, 1, 2, 3, 4, 5, 6, 7, 16, 17, 18] _ ⟨rfl, rfl, rfl, rfl, rfl, rfl, rfl, rfl, rfl, rfl, rfl, rfl, rfl, rfl, rfl, rfl, rfl, rfl, rfl, trivial⟩ rfl
       refine dv F (y_mv rfl rfl) rfl rfl rfl fun a F => ?_
       refine dv F (y_ex rfl rfl rfl) rfl rfl rfl fun a F => ?_
       refine dv F (y_ex rfl rfl rfl) rfl rfl rfl fun a F => ?_
       refine dv F (y_ex rfl rfl rfl) rfl rfl rfl fun a F => ?_
       refine dv F (y_ex rfl rfl rfl) rfl rfl rfl fun a F => ?_
       refine dal F S rfl Tryz.zeroValue41 rfl rfl rfl rfl fun a w b17 F S => ?_
       refine dv F (y_as rfl rfl) rfl rfl rfl fun a F => ?_
       refine dv F (y_as rfl rfl) rfl rfl rfl fun a F => ?_
       refine dsw F S rfl rfl rfl Tryz.sizeOf41 (i := 19) rfl rfl rfl rfl (one41 _ _ _ _ _ _ _ _) rfl rfl fun a w F S => ?_
       refine dv F (y_as rfl rfl) rfl rfl rfl fun a F => ?_
       refine dn ?_
       refine tn <| hK44 _ _ ?_
       refine sq fun K45 hK45 => ?_
       refine sq fun K46 hK46 => ?_
       have hol := feed_lens hSm hfo.1
       refine rg ?_
       refine dv F (y_mv rfl rfl) rfl rfl rfl fun a F => ?_
       refine dv F (y_nt rfl rfl) rfl rfl rfl fun a F => ?_
       refine dv F (y_mv rfl rfl) rfl rfl rfl fun a F => ?_
       refine gv F rfl rfl rfl (congrArg not rfl) (y_mv rfl rfl) rfl rfl fun a F => ?_
       refine gv F rfl rfl rfl (congrArg not rfl) (y_nt rfl rfl) rfl rfl fun a F => ?_
       refine dv F (y_pkf (congrArg not rfl) rfl rfl rfl) rfl rfl rfl fun a F => ?_
       refine dv F (y_mv rfl rfl) rfl rfl rfl fun a F => ?_
       refine gv F rfl rfl rfl (congrArg not rfl) (y_mv rfl rfl) rfl rfl fun a F => ?_
       refine gv F rfl rfl rfl (congrArg not rfl) (y_mv rfl rfl) rfl rfl fun a F => ?_
       refine gv F rfl rfl rfl (congrArg not rfl) (Go.Eng.y_sn rfl rfl rfl) rfl rfl fun a F => ?_
       refine dv F (y_pkf (congrArg not rfl) rfl rfl rfl) rfl rfl rfl fun a F => ?_
       refine dv F (y_mv rfl rfl) rfl rfl rfl fun a F => ?_
       refine gv F rfl rfl rfl (by simp) (y_mv rfl rfl) rfl rfl fun a F => ?_
       refine gv F rfl rfl rfl (by simp) (y_mv rfl rfl) rfl rfl fun a F => ?_
       refine gv F rfl rfl rfl (by simp) (y_bnB rfl rfl rfl Tryz.underlying4) rfl rfl fun a F => ?_
       refine dv F (y_pkf (by simp) rfl rfl rfl) rfl rfl rfl fun a F => ?_
       refine dv F (y_mv rfl rfl) rfl rfl rfl fun a F => ?_
       refine gv F rfl rfl rfl (by simp) (y_ld rfl rfl (S.lda (i := 18) rfl Tryz.isAgg41 Tryz.sizeOf41 rfl)) rfl rfl fun a F => ?_
       refine gv F rfl rfl rfl (by simp) (y_ld rfl rfl (S.lda (i := 19) rfl Tryz.isAgg41 Tryz.sizeOf41 rfl)) rfl rfl fun a F => ?_
       refine gc F rfl rfl rfl (by simp) (c_f rfl rfl rfl Tryz.call21) rfl rfl (c_Same _ ((hf1.le hle).sl S (i := 3) rfl) ((hf2.le hle).sl S (i := 3) rfl) ((hf3.le hle').sl S (i := 11) rfl) ((hf4.le hle').sl S (i := 11) rfl) hol) fun a v w' hr F => ?_
       obtain ⟨rfl, hb⟩ := hr
       rw [sameO_rfl] at F
       replace S := S.call hb
       refine gv F rfl rfl rfl (by simp) (y_nt rfl rfl) rfl rfl fun a F => ?_
       refine dv F (y_pkf (by simp) rfl rfl rfl) rfl rfl rfl fun a F => ?_
       refine dn ?_
       refine tn <| hK46 _ _ ?_
       refine cf F rfl (congrArg not rfl) ?_
       refine wp_skip ?_
       refine tn <| hK45 _ _ ?_
       refine sq fun K47 hK47 => ?_
       refine sq fun K48 hK48 => ?_
       refine rg ?_
       refine dv F (y_mv rfl rfl) rfl rfl rfl fun a F => ?_
       refine dv F (y_nt rfl rfl) rfl rfl rfl fun a F => ?_
       refine dv F (y_mv rfl rfl) rfl rfl rfl fun a F => ?_
       refine gsp F 122 rfl (fun h7 => ?_) (fun h7 => ?_)
       ·have g7 := h7
        try simp only [decide_eq_true_eq, decide_eq_false_iff_not, Bool.not_eq_true', Bool.not_eq_false', Bool.not_eq_eq_eq_not, Bool.not_true, Bool.not_false, Decidable.not_not] at g7
        refine gv F rfl rfl rfl h7 (y_mv rfl rfl) rfl rfl fun a F => ?_
        refine gv F rfl rfl rfl h7 (y_ld rfl rfl (S.lda (i := 17) rfl Tryz.isAgg55 Tryz.sizeOf55 rfl)) rfl rfl fun a F => ?_
        have hR : BE B H1 γ (BL8 C A' c' vals' H' sr' γ Ar' cr' ++ [bk b3 27 (actC u1 u2 t Ae env.length ce Ai ins.length ci Aa asks.length ca Ao outs.length co), bk b5 55 (encK k), bk b13 41 (encOc γ.out A1 c1 A2 c2), bk b17 41 (encOc γ.out A3 c3 A4 c4)]) w0 _ := ⟨sb, sr, A, c, vals, H, Ar, cr, hsr, hle, hE, hv, hF, (S.pick [0, 1, 2, 3, 4, 5, 6, 7, 8, 9, 10, 11, 12, 13, 14, 15, 16, 17, 18, 19] _ ⟨rfl, rfl, rfl, rfl, rfl, rfl, rfl, rfl, rfl, rfl, rfl, rfl, rfl, rfl, rfl, rfl, rfl, rfl, rfl, rfl, trivial⟩ rfl)⟩
        refine gc F rfl rfl rfl h7 (c_f rfl rfl rfl Tryz.call25) rfl rfl (e_Give k G hSm hfo.1.j (by omega) hR) fun a v w' hr F => ?_
        obtain ⟨hvv, hR⟩ := hr
        rw [give_over (by assumption)] at hvv hR
        subst hvv
        obtain ⟨sb, sr, A, c, vals, H, Ar, cr, hsr, hle, hE, hv, hF, S⟩ := hR
        refine gv F rfl rfl rfl h7 (y_in rfl rfl rfl) rfl rfl fun a F => ?_
        refine dv F (y_pkt h7 rfl rfl rfl) rfl rfl rfl fun a F => ?_
        refine dn ?_
        refine tn <| hK48 _ _ ?_
        refine cf F rfl rfl ?_
        refine wp_skip ?_
        refine tn <| hK47 _ _ ?_
        refine sq fun K49 hK49 => ?_
        refine rg ?_
        refine dv F (y_mv rfl rfl) rfl rfl rfl fun a F => ?_
        have hR : BE B H1 γ (BL8 C A' c' vals' H' sr' γ Ar' cr' ++ [bk b3 27 (actC u1 u2 t Ae env.length ce Ai ins.length ci Aa asks.length ca Ao outs.length co), bk b5 55 (encK k), bk b13 41 (encOc γ.out A1 c1 A2 c2), bk b17 41 (encOc γ.out A3 c3 A4 c4)]) w0 _ := ⟨sb, sr, A, c, vals, H, Ar, cr, hsr, hle, hE, hv, hF, (S.pick [0, 1, 2, 3, 4, 5, 6, 7, 8, 9, 10, 11, 12, 13, 14, 15, 16, 17, 18, 19] _ ⟨rfl, rfl, rfl, rfl, rfl, rfl, rfl, rfl, rfl, rfl, rfl, rfl, rfl, rfl, rfl, rfl, rfl, rfl, rfl, rfl, trivial⟩ rfl)⟩
        refine dc F (c_f rfl rfl rfl Tryz.call26) rfl rfl rfl (e_Outcome hSm hfo.1.j hR) fun a v w' hr F => ?_
        obtain ⟨H3, A5, c5, A6, c6, hle3, rfl, hf5, hf6, hR⟩ := hr
        obtain ⟨sb, sr, A, c, vals, H, Ar, cr, hsr, hle, hE, hv, hF, S⟩ := hR
        have hle1' := Hp.le_trans hle3 hle
        refine dv F (y_mv rfl rfl) rfl rfl rfl fun a F => ?_
        refine dv F (y_ex rfl rfl rfl) rfl rfl rfl fun a F => ?_
        refine dv F (y_ex rfl rfl rfl) rfl rfl rfl fun a F => ?_
        refine dal F S rfl Tryz.zeroValue41 rfl rfl rfl rfl fun a w b19 F S => ?_
        refine dsw F S rfl rfl rfl Tryz.sizeOf41 (i := 20) rfl rfl rfl rfl (one41 _ _ _ _ _ _ _ _) rfl rfl fun a w F S => ?_
        refine dv F (y_as rfl rfl) rfl rfl rfl fun a F => ?_
        refine dn ?_
        refine tn <| hK49 _ _ ?_
        refine sq fun K50 hK50 => ?_
        refine rg ?_
        refine dv F (y_mv rfl rfl) rfl rfl rfl fun a F => ?_
        refine dv F (y_mv rfl rfl) rfl rfl rfl fun a F => ?_
        refine dv F (y_nt rfl rfl) rfl rfl rfl fun a F => ?_
        refine dv F (y_be rfl rfl rfl Tryz.underlying4) rfl rfl rfl fun a F => ?_
        refine dv F (y_mv rfl rfl) rfl rfl rfl fun a F => ?_
        refine gv F rfl rfl rfl (by simp) (y_ld rfl rfl (S.lda (i := 20) rfl Tryz.isAgg41 Tryz.sizeOf41 rfl)) rfl rfl fun a F => ?_
        refine gv F rfl rfl rfl (by simp) (y_ld rfl rfl (S.lda (i := 18) rfl Tryz.isAgg41 Tryz.sizeOf41 rfl)) rfl rfl fun a F => ?_
        refine gc F rfl rfl rfl (by simp) (c_f rfl rfl rfl Tryz.call21) rfl rfl (c_Same _ ((hf5.le hle).sl S (i := 3) rfl) ((hf6.le hle).sl S (i := 3) rfl) ((hf1.le hle1').sl S (i := 3) rfl) ((hf2.le hle1').sl S (i := 3) rfl) hol) fun a v w' hr F => ?_
        obtain ⟨rfl, hb⟩ := hr
        rw [sameO_rfl] at F
        replace S := S.call hb
        refine dv F (y_pkt (by simp) rfl rfl rfl) rfl rfl rfl fun a F => ?_
        refine dv F (y_as rfl rfl) rfl rfl rfl fun a F => ?_
        refine dn ?_
        refine tn <| hK50 _ _ ?_
        refine wp_ret ?_
        refine ?_
        exact rt1 F rfl rfl ⟨rfl, S.bel⟩
       ·have g7 := h7
        try simp only [decide_eq_true_eq, decide_eq_false_iff_not, Bool.not_eq_true', Bool.not_eq_false', Bool.not_eq_eq_eq_not, Bool.not_true, Bool.not_false, Decidable.not_not] at g7
        refine gs F rfl rfl rfl h7 rfl rfl fun a F => ?_
        refine gs F rfl rfl rfl h7 rfl rfl fun a F => ?_
        refine gs F rfl rfl rfl h7 rfl rfl fun a F => ?_
        refine gs F rfl rfl rfl h7 rfl rfl fun a F => ?_
        refine dv F (y_pkf h7 rfl rfl rfl) rfl rfl rfl fun a F => ?_
        refine dn ?_
        refine tn <| hK48 _ _ ?_
        refine cf F rfl rfl ?_
        refine wp_skip ?_
        refine tn <| hK47 _ _ ?_
        refine sq fun K51 hK51 => ?_
        refine rg ?_
        refine dv F (y_mv rfl rfl) rfl rfl rfl fun a F => ?_
        have hR : BE B H1 γ (BL8 C A' c' vals' H' sr' γ Ar' cr' ++ [bk b3 27 (actC u1 u2 t Ae env.length ce Ai ins.length ci Aa asks.length ca Ao outs.length co), bk b5 55 (encK k), bk b13 41 (encOc γ.out A1 c1 A2 c2), bk b17 41 (encOc γ.out A3 c3 A4 c4)]) w0 _ := ⟨sb, sr, A, c, vals, H, Ar, cr, hsr, hle, hE, hv, hF, (S.pick [0, 1, 2, 3, 4, 5, 6, 7, 8, 9, 10, 11, 12, 13, 14, 15, 16, 17, 18, 19] _ ⟨rfl, rfl, rfl, rfl, rfl, rfl, rfl, rfl, rfl, rfl, rfl, rfl, rfl, rfl, rfl, rfl, rfl, rfl, rfl, rfl, trivial⟩ rfl)⟩
        refine dc F (c_f rfl rfl rfl Tryz.call26) rfl rfl rfl (e_Outcome hSm hfo.1.j hR) fun a v w' hr F => ?_
        obtain ⟨H3, A5, c5, A6, c6, hle3, rfl, hf5, hf6, hR⟩ := hr
        obtain ⟨sb, sr, A, c, vals, H, Ar, cr, hsr, hle, hE, hv, hF, S⟩ := hR
        have hle1' := Hp.le_trans hle3 hle
        refine dv F (y_mv rfl rfl) rfl rfl rfl fun a F => ?_
        refine dv F (y_ex rfl rfl rfl) rfl rfl rfl fun a F => ?_
        refine dv F (y_ex rfl rfl rfl) rfl rfl rfl fun a F => ?_
        refine dal F S rfl Tryz.zeroValue41 rfl rfl rfl rfl fun a w b19 F S => ?_
        refine dsw F S rfl rfl rfl Tryz.sizeOf41 (i := 20) rfl rfl rfl rfl (one41 _ _ _ _ _ _ _ _) rfl rfl fun a w F S => ?_
        refine dv F (y_as rfl rfl) rfl rfl rfl fun a F => ?_
        refine dn ?_
        refine tn <| hK51 _ _ ?_
        refine sq fun K52 hK52 => ?_
        refine rg ?_
        refine dv F (y_mv rfl rfl) rfl rfl rfl fun a F => ?_
        refine dv F (y_mv rfl rfl) rfl rfl rfl fun a F => ?_
        refine dv F (y_nt rfl rfl) rfl rfl rfl fun a F => ?_
        refine dv F (y_be rfl rfl rfl Tryz.underlying4) rfl rfl rfl fun a F => ?_
        refine dv F (y_mv rfl rfl) rfl rfl rfl fun a F => ?_
        refine gv F rfl rfl rfl (by simp) (y_ld rfl rfl (S.lda (i := 20) rfl Tryz.isAgg41 Tryz.sizeOf41 rfl)) rfl rfl fun a F => ?_
        refine gv F rfl rfl rfl (by simp) (y_ld rfl rfl (S.lda (i := 18) rfl Tryz.isAgg41 Tryz.sizeOf41 rfl)) rfl rfl fun a F => ?_
        refine gc F rfl rfl rfl (by simp) (c_f rfl rfl rfl Tryz.call21) rfl rfl (c_Same _ ((hf5.le hle).sl S (i := 3) rfl) ((hf6.le hle).sl S (i := 3) rfl) ((hf1.le hle1').sl S (i := 3) rfl) ((hf2.le hle1').sl S (i := 3) rfl) hol) fun a v w' hr F => ?_
        obtain ⟨rfl, hb⟩ := hr
        rw [sameO_rfl] at F
        replace S := S.call hb
        refine dv F (y_pkt (by simp) rfl rfl rfl) rfl rfl rfl fun a F => ?_
        refine dv F (y_as rfl rfl) rfl rfl rfl fun a F => ?_
        refine dn ?_
        refine tn <| hK52 _ _ ?_
        refine wp_ret ?_
        refine ?_
        exact rt1 F rfl rfl ⟨rfl, S.bel⟩
end Go.Proofs.YtgcmddaibnimjaaGreatDoor
namespace Go.Proofs.YtgcmddaibnimjaaGreatDoor
open Go.RowKit Go.Eng Go.ChangeShapes Go.WideShapes
theorem bulkAll_map {H : Type} {α : Type} (D : α → DataW H) (f : α → Nat) : ∀ (l : List α), (∀ i ∈ l, f i ≤ Rows.uptoBulk (D i)) → (l.map f).sum ≤ Rows.uptoBulkAll (l.map D)
 | [], _ => Nat.zero_le _
 | x :: l, h => by
  have h1 := bulkAll_map D f l fun i hi => h i (List.mem_cons_of_mem _ hi)
  have h2 := h x (List.mem_cons_self ..)
  simp only [List.map_cons, List.sum_cons, Rows.uptoBulkAll]
  omega
section
variable {H : Type} {he : TypeId × Value → H} {P : Program} {w : World} {base : Nat} {spare : Nat → Bool} {held : Bool}
theorem addr_addZ {w : World} {a : Addr} (h : ∃ u, w.cell? a = some u) : a = ⟨a.block, a.off, none⟩ ∧ a.block < w.heap.size := by
 obtain ⟨u, h⟩ := h
 unfold World.cell? at h
 split at h
 ·rename_i c _ _ hb
  refine ⟨?_, (Array.getElem?_eq_some_iff.1 hb).1⟩
  obtain ⟨b, o, s⟩ := a
  cases s with
  | none => rfl
  | some s => simp at h
 ·cases h
theorem add_none (b o n : Nat) : (⟨b, o, none⟩ : Addr).add n = ⟨b, o + n, none⟩ := by
 unfold Addr.add
 by_cases h : n = 0 <;> simp [h]
theorem op_slB {α : Type} {enc : α → List Value} {z : Nat} {t e : TypeId} {fuel : Nat} {cs : List Value} {x : DataW H × List MemPlace} (m : α → Nat) (ht : P.underlying t = some (.slice e)) (hz : P.cellsOf e = z) (hzp : 0 < z)
  (hel : ∀ n cs y, DataW.trod he P w base spare held n e cs = some y → ∃ a, cs = enc a ∧ m a ≤ Rows.uptoBulk y.1)
  (h : DataW.trod he P w base spare held fuel t cs = some x) :
  ∃ A xs c, cs = [.slice A xs.length c] ∧ Sl w z enc A xs ∧ (xs.map m).sum ≤ Rows.uptoBulk x.1 := by
 rcases Deep.open_slice ht h with ⟨rfl, rfl⟩ | ⟨a, len, cap, q, n, D, Pl, rfl, hb, hlc, hcm, rfl, rfl, hx⟩
 ·exact ⟨none, [], 0, rfl, Sl.nil, Nat.zero_le _⟩
 have hmlen : len ≤ (if spare a.block = true then cap else len) := by split <;> omega
 have key : ∀ i, i < len → ∃ a', (∃ cs', w.cells? base (a.add (i * z)) z = some cs' ∧ cs' = enc a') ∧ m a' ≤ Rows.uptoBulk (D i) := by
  intro i hi
  obtain ⟨cs', h1, h2⟩ := hx i (by omega)
  rw [hz] at h1
  obtain ⟨a', h3, h4⟩ := hel _ _ _ h2
  exact ⟨a', ⟨cs', h1, h3⟩, h4⟩
 by_cases hl0 : len = 0
 ·subst hl0
  exact ⟨some a, [], cap, rfl, Sl.nil, Nat.zero_le _⟩
 obtain ⟨a0, _⟩ := key 0 (by omega)
 haveI : Inhabited α := ⟨a0⟩
 obtain ⟨f, hf⟩ := Deep.choose_lt (α := α) (p := fun i a' => (∃ cs', w.cells? base (a.add (i * z)) z = some cs' ∧ cs' = enc a') ∧ m a' ≤ Rows.uptoBulk (D i)) key
 have hlen : ((List.range len).map f).length = len := by simp
 obtain ⟨⟨cs0, hc0, e0⟩, _⟩ := hf 0 (by omega)
 obtain ⟨_, hl1, hcell0⟩ := World.cells?_some hc0
 have hcell00 := hcell0 0 (by omega)
 have hsome : ∃ u, w.cell? a = some u := by
  refine ⟨cs0[0]'(by omega), ?_⟩
  rw [show (a.add (0 * z)).add 0 = a by simp [Addr.add]] at hcell00
  rw [hcell00, List.getElem?_eq_getElem (by omega)]
 obtain ⟨ha, hab⟩ := addr_addZ hsome
 refine ⟨some a, (List.range len).map f, cap, by rw [hlen], fun _ => ⟨a.block, a.off, congrArg some ha, hab, ?_⟩, ?_⟩
 ·intro j x hj i u hu
  have hjl : j < len := by
   have := (List.getElem?_eq_some_iff.1 hj).1
   simpa using this
  have hxj : x = f j := by
   simp [hjl] at hj
   exact hj.symm
  subst hxj
  obtain ⟨⟨cs', hc', e'⟩, _⟩ := hf j hjl
  obtain ⟨_, hl', hcell'⟩ := World.cells?_some hc'
  have hiz : i < z := by
   have := (List.getElem?_eq_some_iff.1 hu).1
   rw [← e', hl'] at this
   exact this
  have := hcell' i hiz
  rw [e', hu] at this
  rw [← this]
  congr 1
  rw [ha, add_none, add_none]
 ·have h1 : (((List.range len).map f).map m).sum = ((List.range len).map fun i => m (f i)).sum := by rw [List.map_map]; rfl
  rw [h1]
  have h2 := bulkAll_map D (fun i => m (f i)) (List.range len) fun i hi => (hf i (List.mem_range.1 hi)).2
  show _ ≤ Rows.uptoBulk (DataW.slice _ _)
  simp only [Rows.uptoBulk]
  omega
end
theorem cells9 : Tryz.prog.cellsOf 9 = 1 := by kernel_rfl
theorem cells4 : Tryz.prog.cellsOf 4 = 1 := by kernel_rfl
theorem cells24 : Tryz.prog.cellsOf 24 = 1 := by kernel_rfl
theorem cells25 : Tryz.prog.cellsOf 25 = 1 := by kernel_rfl
theorem cells27 : Tryz.prog.cellsOf 27 = 7 := by kernel_rfl
theorem cells109 : Tryz.prog.cellsOf 109 = 2 := by kernel_rfl
theorem cells55 : Tryz.prog.cellsOf 55 = 3 := by kernel_rfl
section
variable {H : Type} {he : TypeId × Value → H} {w : World} {base : Nat} {spare : Nat → Bool} {held : Bool} {fuel : Nat} {cs : List Value} {x : DataW H × List MemPlace}
theorem opS (h : DataW.trod he Tryz.prog w base spare held fuel 9 cs = some x) : ∃ s : ByteArray, cs = encS s ∧ s.size + 1 ≤ Rows.uptoBulk x.1 := by
 obtain ⟨s, rfl, rfl, _⟩ := DataW.trod_string Tryz.underlying9 h
 exact ⟨s, rfl, by simp [Rows.uptoBulk]⟩
theorem opSs (h : DataW.trod he Tryz.prog w base spare held fuel 25 cs = some x) : ∃ A xs c, cs = [.slice A xs.length c] ∧ Sl w 1 encS A xs ∧ sz1 xs ≤ Rows.uptoBulk x.1 :=
 op_slB (fun s : ByteArray => s.size + 1) Tryz.underlying25 cells9 (by decide) (fun n cs y h => opS h) h
theorem takeOne {cs : List Value} {v : Value} {i : Nat} (h : (cs.drop i).take 1 = [v]) : cs[i]? = some v := by
 have : ((cs.drop i).take 1)[0]? = some v := by rw [h]; rfl
 simpa [List.getElem?_take, List.getElem?_drop] using this
theorem opPair {t : Nat} (ht : ∃ f0 f1 : Field, Tryz.prog.underlying t = some (.struct #[f0, f1]) ∧ f0.type = 9 ∧ f1.type = 9 ∧ f0.offset = 0 ∧ f1.offset = 1) (hc : Tryz.prog.cellsOf t = 2) (h : DataW.trod he Tryz.prog w base spare held fuel t cs = some x) :
  ∃ p : ByteArray × ByteArray, cs = encSt p ∧ p.1.size + p.2.size + 1 ≤ Rows.uptoBulk x.1 := by
 obtain ⟨f0, f1, ht, h0, h1, o0, o1⟩ := ht
 obtain ⟨y0, y1, n, rfl, hl, k0, k1⟩ := trod_struct2 ht h
 rw [h0, o0, cells9] at k0
 rw [h1, o1, cells9] at k1
 obtain ⟨s0, e0, b0⟩ := opS k0
 obtain ⟨s1, e1, b1⟩ := opS k1
 have c0 := takeOne e0
 have c1 := takeOne e1
 rw [hc] at hl
 refine ⟨(s0, s1), ?_, ?_⟩
 ·match cs, hl with
  | [a, b], _ => simp at c0 c1; subst c0 c1; rfl
 ·show _ ≤ Rows.uptoBulk (DataW.agg _)
  simp only [Rows.uptoBulk, Rows.uptoBulkAll]
  have b0' : s0.size + 1 ≤ Rows.uptoBulk y0.1 := b0
  have b1' : s1.size + 1 ≤ Rows.uptoBulk y1.1 := b1
  show s0.size + s1.size + 1 ≤ _
  omega
theorem opSt (h : DataW.trod he Tryz.prog w base spare held fuel 109 cs = some x) : ∃ p : ByteArray × ByteArray, cs = encSt p ∧ p.1.size + p.2.size + 1 ≤ Rows.uptoBulk x.1 := opPair ⟨_, _, Tryz.underlying109, rfl, rfl, rfl, rfl⟩ cells109 h
theorem opSts (h : DataW.trod he Tryz.prog w base spare held fuel 24 cs = some x) : ∃ A xs c, cs = [.slice A xs.length c] ∧ Sl w 2 encSt A xs ∧ ez1 xs ≤ Rows.uptoBulk x.1 :=
 op_slB (fun x : ByteArray × ByteArray => x.1.size + x.2.size + 1) Tryz.underlying24 cells109 (by decide) (fun n cs y h => opSt h) h
theorem opK (h : DataW.trod he Tryz.prog w base spare held fuel 55 cs = some x) : ∃ k : Kn, cs = encK k ∧ kz1 k ≤ Rows.uptoBulk x.1 := by
 obtain ⟨y0, y1, y2, n, rfl, hl, k0, k1, k2⟩ := Deep.trod_struct3 Tryz.underlying55 h
 rw [show Tryz.prog.cellsOf 9 = 1 from cells9] at k0
 rw [show Tryz.prog.cellsOf 4 = 1 from cells4] at k1
 rw [show Tryz.prog.cellsOf 9 = 1 from cells9] at k2
 obtain ⟨s0, e0, b0⟩ := opS k0
 obtain ⟨b, e1, _⟩ := DataW.trod_bool Tryz.underlying4 k1
 obtain ⟨s2, e2, b2⟩ := opS k2
 have c0 := takeOne e0
 have c1 := takeOne e1
 have c2 := takeOne e2
 rw [cells55] at hl
 refine ⟨⟨s0, b, s2⟩, ?_, ?_⟩
 ·match cs, hl with
  | [x0, x1, x2], _ => simp at c0 c1 c2; subst c0 c1 c2; rfl
 ·show s0.size + s2.size + 1 ≤ Rows.uptoBulk (DataW.agg _)
  simp only [Rows.uptoBulk, Rows.uptoBulkAll]
  have b0' : s0.size + 1 ≤ Rows.uptoBulk y0.1 := b0
  have b2' : s2.size + 1 ≤ Rows.uptoBulk y2.1 := b2
  omega
theorem opKs (h : DataW.trod he Tryz.prog w base spare held fuel 28 cs = some x) : ∃ A xs c, cs = [.slice A xs.length c] ∧ Sl w 3 encK A xs ∧ kz xs ≤ Rows.uptoBulk x.1 :=
 op_slB kz1 Tryz.underlying28 cells55 (by decide) (fun n cs y h => opK h) h
set_option maxRecDepth 8000 in
theorem opA (h : DataW.trod he Tryz.prog w base spare held fuel 27 cs = some x) :
  ∃ u1 u2 t Ae env ce Ai ins ci Aa asks ca Ao outs co, cs = actC u1 u2 t Ae env.length ce Ai ins.length ci Aa asks.length ca Ao outs.length co ∧ Sl w 2 encSt Ae env ∧ Sl w 1 encS Ai ins ∧ Sl w 1 encS Aa asks ∧ Sl w 1 encS Ao outs ∧ gz t env ins asks outs ≤ Rows.uptoBulk x.1 := by
 obtain ⟨xs, n, _, rfl, hl, hlen, hf⟩ := DataW.trod_struct Tryz.underlying27 h
 match xs, hlen with
 | [y0, y1, y2, y3, y4, y5], _ =>
  have k1 : DataW.trod he Tryz.prog w base spare held n 9 ((cs.drop 2).take (Tryz.prog.cellsOf 9)) = some y1 := hf 1 _ rfl
  have k2 : DataW.trod he Tryz.prog w base spare held n 24 ((cs.drop 3).take (Tryz.prog.cellsOf 24)) = some y2 := hf 2 _ rfl
  have k3 : DataW.trod he Tryz.prog w base spare held n 25 ((cs.drop 4).take (Tryz.prog.cellsOf 25)) = some y3 := hf 3 _ rfl
  have k4 : DataW.trod he Tryz.prog w base spare held n 25 ((cs.drop 5).take (Tryz.prog.cellsOf 25)) = some y4 := hf 4 _ rfl
  have k5 : DataW.trod he Tryz.prog w base spare held n 25 ((cs.drop 6).take (Tryz.prog.cellsOf 25)) = some y5 := hf 5 _ rfl
  rw [cells9] at k1
  rw [cells24] at k2
  rw [cells25] at k3 k4 k5
  obtain ⟨t, e1, b1⟩ := opS k1
  obtain ⟨Ae, env, ce, e2, s2, b2⟩ := opSts k2
  obtain ⟨Ai, ins, ci, e3, s3, b3⟩ := opSs k3
  obtain ⟨Aa, asks, ca, e4, s4, b4⟩ := opSs k4
  obtain ⟨Ao, outs, co, e5, s5, b5⟩ := opSs k5
  have c1 := takeOne e1; have c2 := takeOne e2; have c3 := takeOne e3; have c4 := takeOne e4; have c5 := takeOne e5
  rw [cells27] at hl
  match cs, hl with
  | [a0, a1, a2, a3, a4, a5, a6], _ =>
   simp at c1 c2 c3 c4 c5
   subst c1 c2 c3 c4 c5
   refine ⟨a0, a1, t, Ae, env, ce, Ai, ins, ci, Aa, asks, ca, Ao, outs, co, rfl, s2, s3, s4, s5, ?_⟩
   show t.size + (sz1 ins + (sz1 asks + (sz1 outs + 0))) + ez1 env ≤ Rows.uptoBulk (DataW.agg _)
   simp only [List.map_cons, List.map_nil, Rows.uptoBulk, Rows.uptoBulkAll]
   have b1' : t.size + 1 ≤ Rows.uptoBulk y1.1 := b1
   have b2' : ez1 env ≤ Rows.uptoBulk y2.1 := b2
   have b3' : sz1 ins ≤ Rows.uptoBulk y3.1 := b3
   have b4' : sz1 asks ≤ Rows.uptoBulk y4.1 := b4
   have b5' : sz1 outs ≤ Rows.uptoBulk y5.1 := b5
   omega
end
end Go.Proofs.YtgcmddaibnimjaaGreatDoor
namespace Go.Eng
open Go.RowKit Go.ChangeShapes Go.WideShapes
section
variable {H : Type} {he : TypeId × Value → H} {P : Program} {w : World} {base : Nat} {spare : Nat → Bool} {held : Bool}
theorem add_none (b o n : Nat) : (⟨b, o, none⟩ : Addr).add n = ⟨b, o + n, none⟩ := by
 unfold Addr.add
 by_cases h : n = 0 <;> simp [h]
end
end Go.Eng
namespace Go.Eng
open Go.RowKit Go.ChangeShapes Go.WideShapes
section
variable {H : Type} {enc : TypeId × Value → H} {P : Program}
theorem trodAll_again (hl : laidOutB P = true) {W W' : World} (hb : Below W.heap.size W W') : ∀ {ts : List TypeId} {vs : List Value} {ds : List (DataW H)} {ps : List MemPlace},
  (ts.all fun t => P.readableRec t && decide (t < P.types.size)) = true → (∀ p ∈ ps, p.block < W.heap.size) →
  DataW.TrodAll enc P W 0 (fun _ => true) true ts vs ds ps → DataW.TrodAll enc P W' 0 (fun b => decide (b < W.heap.size)) true ts vs ds ps
 | [], [], [], ps, _, _, h => h
 | t :: ts, v :: vs, d :: ds, ps, hr, hlt, ⟨p, q, h1, h2, e⟩ => by
  subst e
  simp only [List.all_cons, Bool.and_eq_true, decide_eq_true_eq] at hr
  refine ⟨p, q, Below.trod hl hr.1.1 hr.1.2 h1 hb fun x hx => hlt x (List.mem_append_left _ hx), trodAll_again hl hb hr.2 (fun x hx => hlt x (List.mem_append_right _ hx)) h2, rfl⟩
 | [], _ :: _, _, _, _, _, h => h.elim
 | [], [], _ :: _, _, _, _, h => h.elim
 | _ :: _, [], _, _, _, _, h => h.elim
 | _ :: _, _ :: _, [], _, _, _, h => h.elim
theorem shut_true {W : World} {base t : Nat} {sp : Nat → Bool} {held : Bool} (ht : P.underlying t = some .bool) : DataW.Trod enc P W base sp held t (.bool true) (.lit (.bool true)) [] := ⟨1, by simp [DataW.trod, Value.cells, ht]⟩
theorem post_true {f : Func} {s : ChangeSpec} {W W' : World} {args : Array Value} {ds : List (DataW H)} {before : List MemPlace} {t : TypeId}
  (hW : DataW.Whole enc P f.params.toList s.vars false W args.toList ds [] before) (hl : laidOutB P = true) (hr : (f.params.toList.all fun t => P.readableRec t && decide (t < P.types.size)) = true)
  (hv : s.vars = []) (hfr : (s.fn H (ds ++ [])).results = [.lit (.bool true)]) (hfa : (s.fn H (ds ++ [])).args = ds) (hfv : (s.fn H (ds ++ [])).vars = [])
  (hf : f.resultTypes = #[t]) (ht : P.underlying t = some .bool) (hb : Below W.heap.size W W') : s.post enc P f false true false false W args (.bool true) W' := by
 have hlt : ∀ p ∈ before, p.block < W.heap.size := fun p hp => hW.lt p hp
 have hW2 := hW
 obtain ⟨p, q, hA, hV, rfl, _, _⟩ := hW2
 rw [hv] at hV
 obtain ⟨_, rfl⟩ := trodVars_none hV
 rw [List.append_nil] at hlt
 refine ⟨ds, [], _, [], p, [], hW, ?_, ?_, ?_, hb.frame _, fun h => by cases h⟩
 ·rw [hfr, hf]
  exact trodAll_mk1 (shut_true ht)
 ·rw [hfa]
  exact trodAll_again hl hb hr hlt hA
 ·rw [hfv, hv]
  rfl
end
end Go.Eng
