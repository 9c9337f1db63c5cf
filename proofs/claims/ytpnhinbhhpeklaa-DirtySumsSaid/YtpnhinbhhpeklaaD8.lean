/- Walks of layer 27, eighth part: the law DirtyMore. -/
import Derived.Test.YtpnhinbhhpeklaaD7
import Derived.Test.YtpnhinbhhpeklaaApp
set_option linter.unusedVariables false
set_option linter.unusedSimpArgs false
namespace Go.Proofs.Ytpnhinbhhpeklaa
open Go.RowKit Go.Eng DirtyPlain
theorem fi28_0 : FieldIs Try.prog 28 0 0 := fieldIs (z := 0) Try.underlying28 rfl rfl rfl Try.sizeOf3
theorem bs0 (w : World) : (Instr.buildSlice 23 0 [].toArray).run Try.prog w = .ok (.slice (some ⟨w.heap.size, 0, none⟩) 0 0) (w.alloc (.cells [].toArray 37)) := by kernel_rfl
set_option maxRecDepth 2000
set_option maxHeartbeats 1000000 in
theorem f5_c {A KA MA GA : Option Addr} {c kc mc gk : Nat} (l : List TrV) (known more : List Rd) (gone : List Dig) (w0 : World) (hl : Trs w0 A l) (hln : l.length ≤ 140737488351232) (hk : Sl w0 34 encRd KA known) (hn : known.length ≤ 140737488351232) (hm : Sl w0 34 encRd MA more) (hmn : more.length ≤ 140737488351232) (hg : Sl w0 32 encD GA gone) (hgn : gone.length ≤ 140737488351232) :
    Calls Try.prog 5 [.slice A l.length c, .slice KA known.length kc, .slice MA more.length mc, .slice GA gone.length gk].toArray w0 (Ret fun v w' => v = .bool true ∧ Below w0.heap.size w0 w') := by
  refine ent Try.func5 Try.ntmps5 rfl rfl ?_
  intro a F
  have S := St.refl w0
  refine sq fun K1 hK1 => ?_
  refine rg ?_
  refine dv F (y_as rfl rfl) rfl rfl rfl fun a F => ?_
  refine dn ?_
  refine tn <| hK1 _ _ ?_
  refine sq fun K2 hK2 => ?_
  refine sq fun K3 hK3 => ?_
  refine rg ?_
  refine dc F (c_f rfl rfl rfl Try.call9) rfl rfl rfl (f9_c _) fun a v w' hr F => ?_
  obtain ⟨rfl, hb⟩ := hr
  replace S := S.call hb
  refine dv F (y_nt rfl rfl) rfl rfl rfl fun a F => ?_
  refine dn ?_
  refine tn <| hK3 _ _ ?_
  refine cf F rfl rfl ?_
  refine wp_skip ?_
  refine tn <| hK2 _ _ ?_
  refine sq fun K4 hK4 => ?_
  refine sq fun K5 hK5 => ?_
  refine rg ?_
  refine dv F (y_mv rfl rfl) rfl rfl rfl fun a F => ?_
  refine dc F (c_f rfl rfl rfl Try.call10) rfl rfl rfl (f10_c l _ (hl.st S) hln) fun a v w' hr F => ?_
  obtain ⟨⟨b, rfl, hbb⟩, hb⟩ := hr
  replace S := S.call hb
  refine dv F (y_mv rfl rfl) rfl rfl rfl fun a F => ?_
  rcases (show b = true ∨ (b = false ∧ 60 < known.length) ∨ (b = false ∧ known.length ≤ 60 ∧ 60 < more.length) ∨ (b = false ∧ known.length ≤ 60 ∧ more.length ≤ 60) by cases b <;> simp <;> omega) with rfl | ⟨rfl, h⟩ | ⟨rfl, h, h2⟩ | ⟨rfl, h, h2⟩
  · refine gs F rfl rfl rfl rfl rfl rfl fun a F => ?_
    refine gs F rfl rfl rfl rfl rfl rfl fun a F => ?_
    refine gs F rfl rfl rfl rfl rfl rfl fun a F => ?_
    refine dv F (y_pkt rfl rfl rfl rfl) rfl rfl rfl fun a F => ?_
    refine dv F (y_mv rfl rfl) rfl rfl rfl fun a F => ?_
    refine gs F rfl rfl rfl rfl rfl rfl fun a F => ?_
    refine gs F rfl rfl rfl rfl rfl rfl fun a F => ?_
    refine gs F rfl rfl rfl rfl rfl rfl fun a F => ?_
    refine dv F (y_pkt rfl rfl rfl rfl) rfl rfl rfl fun a F => ?_
    refine dv F (y_mv rfl rfl) rfl rfl rfl fun a F => ?_
    refine gs F rfl rfl rfl rfl rfl rfl fun a F => ?_
    refine gs F rfl rfl rfl rfl rfl rfl fun a F => ?_
    refine gs F rfl rfl rfl rfl rfl rfl fun a F => ?_
    refine dv F (y_pkt rfl rfl rfl rfl) rfl rfl rfl fun a F => ?_
    refine dn ?_
    refine tn <| hK5 _ _ ?_
    refine ct F rfl rfl ?_
    refine sq fun K6 hK6 => ?_
    refine rg ?_
    refine dv F (y_as rfl rfl) rfl rfl rfl fun a F => ?_
    refine dn ?_
    refine tn <| hK6 _ _ ?_
    refine wp_ret ?_
    refine tr <| ?_
    exact rt1 F rfl rfl ⟨rfl, S.bel⟩
  · refine gv F rfl rfl rfl rfl (y_mv rfl rfl) rfl rfl fun a F => ?_
    refine gv F rfl rfl rfl rfl (y_ln rfl rfl Try.underlying23) rfl rfl fun a F => ?_
    refine gv F rfl rfl rfl rfl (y_gt rfl rfl rfl) rfl rfl fun a F => ?_
    refine dv F (y_pkf rfl rfl rfl rfl) rfl rfl rfl fun a F => ?_
    refine dv F (y_mv rfl rfl) rfl rfl rfl fun a F => ?_
    refine gs F rfl rfl rfl (decide_eq_true (by omega)) rfl rfl fun a F => ?_
    refine gs F rfl rfl rfl (decide_eq_true (by omega)) rfl rfl fun a F => ?_
    refine gs F rfl rfl rfl (decide_eq_true (by omega)) rfl rfl fun a F => ?_
    refine dv F (y_pkt (decide_eq_true (by omega)) rfl rfl rfl) rfl rfl rfl fun a F => ?_
    refine dv F (y_mv rfl rfl) rfl rfl rfl fun a F => ?_
    refine gs F rfl rfl rfl rfl rfl rfl fun a F => ?_
    refine gs F rfl rfl rfl rfl rfl rfl fun a F => ?_
    refine gs F rfl rfl rfl rfl rfl rfl fun a F => ?_
    refine dv F (y_pkt rfl rfl rfl rfl) rfl rfl rfl fun a F => ?_
    refine dn ?_
    refine tn <| hK5 _ _ ?_
    refine ct F rfl rfl ?_
    refine sq fun K7 hK7 => ?_
    refine rg ?_
    refine dv F (y_as rfl rfl) rfl rfl rfl fun a F => ?_
    refine dn ?_
    refine tn <| hK7 _ _ ?_
    refine wp_ret ?_
    refine tr <| ?_
    exact rt1 F rfl rfl ⟨rfl, S.bel⟩
  · refine gv F rfl rfl rfl rfl (y_mv rfl rfl) rfl rfl fun a F => ?_
    refine gv F rfl rfl rfl rfl (y_ln rfl rfl Try.underlying23) rfl rfl fun a F => ?_
    refine gv F rfl rfl rfl rfl (y_gt rfl rfl rfl) rfl rfl fun a F => ?_
    refine dv F (y_pkf rfl rfl rfl rfl) rfl rfl rfl fun a F => ?_
    refine dv F (y_mv rfl rfl) rfl rfl rfl fun a F => ?_
    refine gv F rfl rfl rfl (decide_eq_false (by omega)) (y_mv rfl rfl) rfl rfl fun a F => ?_
    refine gv F rfl rfl rfl (decide_eq_false (by omega)) (y_ln rfl rfl Try.underlying23) rfl rfl fun a F => ?_
    refine gv F rfl rfl rfl (decide_eq_false (by omega)) (y_gt rfl rfl rfl) rfl rfl fun a F => ?_
    refine dv F (y_pkf (decide_eq_false (by omega)) rfl rfl rfl) rfl rfl rfl fun a F => ?_
    refine dv F (y_mv rfl rfl) rfl rfl rfl fun a F => ?_
    refine gs F rfl rfl rfl (decide_eq_true (by omega)) rfl rfl fun a F => ?_
    refine gs F rfl rfl rfl (decide_eq_true (by omega)) rfl rfl fun a F => ?_
    refine gs F rfl rfl rfl (decide_eq_true (by omega)) rfl rfl fun a F => ?_
    refine dv F (y_pkt (decide_eq_true (by omega)) rfl rfl rfl) rfl rfl rfl fun a F => ?_
    refine dn ?_
    refine tn <| hK5 _ _ ?_
    refine ct F rfl rfl ?_
    refine sq fun K8 hK8 => ?_
    refine rg ?_
    refine dv F (y_as rfl rfl) rfl rfl rfl fun a F => ?_
    refine dn ?_
    refine tn <| hK8 _ _ ?_
    refine wp_ret ?_
    refine tr <| ?_
    exact rt1 F rfl rfl ⟨rfl, S.bel⟩
  · refine gv F rfl rfl rfl rfl (y_mv rfl rfl) rfl rfl fun a F => ?_
    refine gv F rfl rfl rfl rfl (y_ln rfl rfl Try.underlying23) rfl rfl fun a F => ?_
    refine gv F rfl rfl rfl rfl (y_gt rfl rfl rfl) rfl rfl fun a F => ?_
    refine dv F (y_pkf rfl rfl rfl rfl) rfl rfl rfl fun a F => ?_
    refine dv F (y_mv rfl rfl) rfl rfl rfl fun a F => ?_
    refine gv F rfl rfl rfl (decide_eq_false (by omega)) (y_mv rfl rfl) rfl rfl fun a F => ?_
    refine gv F rfl rfl rfl (decide_eq_false (by omega)) (y_ln rfl rfl Try.underlying23) rfl rfl fun a F => ?_
    refine gv F rfl rfl rfl (decide_eq_false (by omega)) (y_gt rfl rfl rfl) rfl rfl fun a F => ?_
    refine dv F (y_pkf (decide_eq_false (by omega)) rfl rfl rfl) rfl rfl rfl fun a F => ?_
    refine dv F (y_mv rfl rfl) rfl rfl rfl fun a F => ?_
    refine gv F rfl rfl rfl (decide_eq_false (by omega)) (y_mv rfl rfl) rfl rfl fun a F => ?_
    refine gv F rfl rfl rfl (decide_eq_false (by omega)) (y_ln rfl rfl Try.underlying24) rfl rfl fun a F => ?_
    refine gv F rfl rfl rfl (decide_eq_false (by omega)) (y_gt rfl rfl rfl) rfl rfl fun a F => ?_
    refine dv F (y_pkf (decide_eq_false (by omega)) rfl rfl rfl) rfl rfl rfl fun a F => ?_
    refine dn ?_
    refine tn <| hK5 _ _ ?_
    refine cb F rfl (fun h1 => ?_) (fun h1 => ?_)
    · refine sq fun K9 hK9 => ?_
      refine rg ?_
      refine dv F (y_as rfl rfl) rfl rfl rfl fun a F => ?_
      refine dn ?_
      refine tn <| hK9 _ _ ?_
      refine wp_ret ?_
      refine tr <| ?_
      exact rt1 F rfl rfl ⟨rfl, S.bel⟩
    · refine wp_skip ?_
      refine tn <| hK4 _ _ ?_
      refine sq fun K10 hK10 => ?_
      refine rg ?_
      refine dv F (y_mv rfl rfl) rfl rfl rfl fun a F => ?_
      refine dv F (y_mv rfl rfl) rfl rfl rfl fun a F => ?_
      refine dv F (y_mv rfl rfl) rfl rfl rfl fun a F => ?_
      refine dc F (c_f rfl rfl rfl Try.call11) rfl rfl rfl (f11_c l known gone _ (hl.st S) hln (hk.st S) hn (hg.st S) hgn) fun a v w' hr F => ?_
      obtain ⟨rfl, hb⟩ := hr
      replace S := S.call hb
      refine dal F S rfl Try.zeroValue28 rfl rfl rfl rfl fun a w b9 F S => ?_
      refine dsw F S rfl rfl rfl Try.sizeOf28 (i := 0) rfl rfl rfl rfl (all1 rfl) rfl rfl fun a w F S => ?_
      refine dn ?_
      refine tn <| hK10 _ _ ?_
      refine sq fun K11 hK11 => ?_
      refine rg ?_
      refine dv F (y_mv rfl rfl) rfl rfl rfl fun a F => ?_
      refine dbs F S rfl rfl bs0 rfl rfl rfl fun a w b35 F S => ?_
      refine dv F (y_mv rfl rfl) rfl rfl rfl fun a F => ?_
      replace S := ow_of_bk S (i := 1) (n := 0) (z := 34) rfl rfl (Nat.zero_le _)
      refine dap F S rfl rfl rfl (i := 1) rfl ((hk.st S).fl len37) (flat_len len37 _) (allflat one37 _) Try.underlying23 (by kernel_rfl : AI Try.prog 37 34 56 = true) rfl (N := known.length) (XS := known.flatMap encRd) (Nat.zero_add _) rfl (by omega) (by omega) rfl rfl rfl fun a w A1 c1 F S => ?_
      refine dv F (y_mv rfl rfl) rfl rfl rfl fun a F => ?_
      refine dap F S rfl rfl rfl (i := 1) rfl ((hm.st S).fl len37) (flat_len len37 _) (allflat one37 _) Try.underlying23 (by kernel_rfl : AI Try.prog 37 34 56 = true) rfl (N := (known ++ more).length) (XS := (known ++ more).flatMap encRd) List.length_append.symm List.flatMap_append.symm (by rw [List.length_append]; omega) (by rw [List.length_append]; omega) rfl rfl rfl fun a w A2 c2 F S => ?_
      refine dv F (y_mv rfl rfl) rfl rfl rfl fun a F => ?_
      refine dc F (c_f rfl rfl rfl Try.call11) rfl rfl rfl (f11_c l (known ++ more) gone _ (hl.st S) hln (S.ows (i := 1) rfl len37 (by decide)) (by rw [List.length_append]; omega) (hg.st S) hgn) fun a v w' hr F => ?_
      obtain ⟨rfl, hb⟩ := hr
      replace S := S.call hb
      refine dal F S rfl Try.zeroValue28 rfl rfl rfl rfl fun a w b10 F S => ?_
      refine dsw F S rfl rfl rfl Try.sizeOf28 (i := 2) rfl rfl rfl rfl (all1 rfl) rfl rfl fun a w F S => ?_
      refine dn ?_
      refine tn <| hK11 _ _ ?_
      refine sq fun K12 hK12 => ?_
      rcases (show (next known gone (l.map TrV.t) 0).kind = 1 ∨ (next known gone (l.map TrV.t) 0).kind ≠ 1 from Classical.em _) with h3 | h3
      · refine rg ?_
        refine dv F (y_fa rfl rfl fi28_0) rfl rfl rfl fun a F => ?_
        refine dv F (y_ld rfl rfl (S.ld (i := 0) rfl rfl Try.isAgg3)) rfl rfl rfl fun a F => ?_
        refine dv F (y_ie rfl rfl rfl) rfl rfl rfl fun a F => ?_
        refine dv F (y_mv rfl rfl) rfl rfl rfl fun a F => ?_
        refine gs F rfl rfl rfl (decide_eq_true h3) rfl rfl fun a F => ?_
        refine gs F rfl rfl rfl (decide_eq_true h3) rfl rfl fun a F => ?_
        refine gs F rfl rfl rfl (decide_eq_true h3) rfl rfl fun a F => ?_
        refine dv F (y_pkt (decide_eq_true h3) rfl rfl rfl) rfl rfl rfl fun a F => ?_
        refine dv F (y_as rfl rfl) rfl rfl rfl fun a F => ?_
        refine dn ?_
        refine tn <| hK12 _ _ ?_
        refine wp_ret ?_
        refine ?_
        exact rt1 F rfl rfl ⟨rfl, S.bel⟩
      · refine rg ?_
        refine dv F (y_fa rfl rfl fi28_0) rfl rfl rfl fun a F => ?_
        refine dv F (y_ld rfl rfl (S.ld (i := 0) rfl rfl Try.isAgg3)) rfl rfl rfl fun a F => ?_
        refine dv F (y_ie rfl rfl rfl) rfl rfl rfl fun a F => ?_
        refine dv F (y_mv rfl rfl) rfl rfl rfl fun a F => ?_
        refine gv F rfl rfl rfl (decide_eq_false h3) (y_ld rfl rfl (S.lda (i := 2) rfl Try.isAgg28 Try.sizeOf28 rfl)) rfl rfl fun a F => ?_
        refine gv F rfl rfl rfl (decide_eq_false h3) (y_ld rfl rfl (S.lda (i := 0) rfl Try.isAgg28 Try.sizeOf28 rfl)) rfl rfl fun a F => ?_
        refine gv F rfl rfl rfl (decide_eq_false h3) (y_eq28 (p := next (known ++ more) gone (l.map TrV.t) 0) (q := next known gone (l.map TrV.t) 0) rfl rfl rfl) rfl rfl fun a F => ?_
        refine dv F (y_pkf (decide_eq_false h3) rfl rfl rfl) rfl rfl rfl fun a F => ?_
        refine dv F (y_as rfl rfl) rfl rfl rfl fun a F => ?_
        refine dn ?_
        refine tn <| hK12 _ _ ?_
        refine wp_ret ?_
        refine ?_
        exact rt1 F rfl rfl ⟨by rw [decide_eq_true (next_more known more gone _ 0 h3)], S.bel⟩

end Go.Proofs.Ytpnhinbhhpeklaa
