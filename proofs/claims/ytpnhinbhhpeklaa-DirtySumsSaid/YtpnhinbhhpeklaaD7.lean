/- Walks of layer 27, seventh part: the law DirtyNext. -/
import Derived.Test.YtpnhinbhhpeklaaD6
set_option linter.unusedVariables false
set_option linter.unusedSimpArgs false
namespace Go.Proofs.Ytpnhinbhhpeklaa
open Go.RowKit Go.Eng DirtyPlain
set_option maxRecDepth 2000
set_option maxHeartbeats 1000000 in
theorem f3_c {A KA GA : Option Addr} {c kc gk : Nat} (l : List TrV) (known : List Rd) (gone : List Dig) (w0 : World) (hl : Trs w0 A l) (hln : l.length ≤ 140737488351232) (hk : Sl w0 34 encRd KA known) (hn : known.length ≤ 140737488351232) (hg : Sl w0 32 encD GA gone) (hgn : gone.length ≤ 140737488351232) :
    Calls Try.prog 3 [.slice A l.length c, .slice KA known.length kc, .slice GA gone.length gk].toArray w0 (Ret fun v w' => v = .bool true ∧ Below w0.heap.size w0 w') := by
  refine ent Try.func3 Try.ntmps3 rfl rfl ?_
  intro a F
  have S := St.refl w0
  refine sq fun K1 hK1 => ?_
  refine rg ?_
  refine dv F (y_as rfl rfl) rfl rfl rfl fun a F => ?_
  refine dn ?_
  refine tn <| hK1 _ _ ?_
  refine sq fun K2 hK2 => ?_
  refine sq fun K3 hK3 => ?_
  refine rg ?_
  refine dc F (c_f rfl rfl rfl Try.call9) rfl rfl rfl (f9_c _) fun a v w' hr F => ?_
  obtain ⟨rfl, hb⟩ := hr
  replace S := S.call hb
  refine dv F (y_nt rfl rfl) rfl rfl rfl fun a F => ?_
  refine dn ?_
  refine tn <| hK3 _ _ ?_
  refine cf F rfl rfl ?_
  refine wp_skip ?_
  refine tn <| hK2 _ _ ?_
  refine sq fun K4 hK4 => ?_
  refine sq fun K5 hK5 => ?_
  refine rg ?_
  refine dv F (y_mv rfl rfl) rfl rfl rfl fun a F => ?_
  refine dc F (c_f rfl rfl rfl Try.call10) rfl rfl rfl (f10_c l _ (hl.st S) hln) fun a v w' hr F => ?_
  obtain ⟨⟨b, rfl, hbb⟩, hb⟩ := hr
  replace S := S.call hb
  refine dv F (y_mv rfl rfl) rfl rfl rfl fun a F => ?_
  rcases (show b = true ∨ (b = false ∧ 60 < known.length) ∨ (b = false ∧ known.length ≤ 60) by cases b <;> simp <;> omega) with rfl | ⟨rfl, h⟩ | ⟨rfl, h⟩
  · refine gs F rfl rfl rfl rfl rfl rfl fun a F => ?_
    refine gs F rfl rfl rfl rfl rfl rfl fun a F => ?_
    refine gs F rfl rfl rfl rfl rfl rfl fun a F => ?_
    refine dv F (y_pkt rfl rfl rfl rfl) rfl rfl rfl fun a F => ?_
    refine dv F (y_mv rfl rfl) rfl rfl rfl fun a F => ?_
    refine gs F rfl rfl rfl rfl rfl rfl fun a F => ?_
    refine gs F rfl rfl rfl rfl rfl rfl fun a F => ?_
    refine gs F rfl rfl rfl rfl rfl rfl fun a F => ?_
    refine dv F (y_pkt rfl rfl rfl rfl) rfl rfl rfl fun a F => ?_
    refine dn ?_
    refine tn <| hK5 _ _ ?_
    refine ct F rfl rfl ?_
    refine sq fun K6 hK6 => ?_
    refine rg ?_
    refine dv F (y_as rfl rfl) rfl rfl rfl fun a F => ?_
    refine dn ?_
    refine tn <| hK6 _ _ ?_
    refine wp_ret ?_
    refine tr <| ?_
    exact rt1 F rfl rfl ⟨rfl, S.bel⟩
  · refine gv F rfl rfl rfl rfl (y_mv rfl rfl) rfl rfl fun a F => ?_
    refine gv F rfl rfl rfl rfl (y_ln rfl rfl Try.underlying23) rfl rfl fun a F => ?_
    refine gv F rfl rfl rfl rfl (y_gt rfl rfl rfl) rfl rfl fun a F => ?_
    refine dv F (y_pkf rfl rfl rfl rfl) rfl rfl rfl fun a F => ?_
    refine dv F (y_mv rfl rfl) rfl rfl rfl fun a F => ?_
    refine gs F rfl rfl rfl (decide_eq_true (by omega)) rfl rfl fun a F => ?_
    refine gs F rfl rfl rfl (decide_eq_true (by omega)) rfl rfl fun a F => ?_
    refine gs F rfl rfl rfl (decide_eq_true (by omega)) rfl rfl fun a F => ?_
    refine dv F (y_pkt (decide_eq_true (by omega)) rfl rfl rfl) rfl rfl rfl fun a F => ?_
    refine dn ?_
    refine tn <| hK5 _ _ ?_
    refine ct F rfl rfl ?_
    refine sq fun K7 hK7 => ?_
    refine rg ?_
    refine dv F (y_as rfl rfl) rfl rfl rfl fun a F => ?_
    refine dn ?_
    refine tn <| hK7 _ _ ?_
    refine wp_ret ?_
    refine tr <| ?_
    exact rt1 F rfl rfl ⟨rfl, S.bel⟩
  · refine gv F rfl rfl rfl rfl (y_mv rfl rfl) rfl rfl fun a F => ?_
    refine gv F rfl rfl rfl rfl (y_ln rfl rfl Try.underlying23) rfl rfl fun a F => ?_
    refine gv F rfl rfl rfl rfl (y_gt rfl rfl rfl) rfl rfl fun a F => ?_
    refine dv F (y_pkf rfl rfl rfl rfl) rfl rfl rfl fun a F => ?_
    refine dv F (y_mv rfl rfl) rfl rfl rfl fun a F => ?_
    refine gv F rfl rfl rfl (decide_eq_false (by omega)) (y_mv rfl rfl) rfl rfl fun a F => ?_
    refine gv F rfl rfl rfl (decide_eq_false (by omega)) (y_ln rfl rfl Try.underlying24) rfl rfl fun a F => ?_
    refine gv F rfl rfl rfl (decide_eq_false (by omega)) (y_gt rfl rfl rfl) rfl rfl fun a F => ?_
    refine dv F (y_pkf (decide_eq_false (by omega)) rfl rfl rfl) rfl rfl rfl fun a F => ?_
    refine dn ?_
    refine tn <| hK5 _ _ ?_
    refine cb F rfl (fun h1 => ?_) (fun h1 => ?_)
    · refine sq fun K8 hK8 => ?_
      refine rg ?_
      refine dv F (y_as rfl rfl) rfl rfl rfl fun a F => ?_
      refine dn ?_
      refine tn <| hK8 _ _ ?_
      refine wp_ret ?_
      refine tr <| ?_
      exact rt1 F rfl rfl ⟨rfl, S.bel⟩
    · refine wp_skip ?_
      refine tn <| hK4 _ _ ?_
      refine sq fun K9 hK9 => ?_
      refine rg ?_
      refine dv F (y_mv rfl rfl) rfl rfl rfl fun a F => ?_
      refine dv F (y_mv rfl rfl) rfl rfl rfl fun a F => ?_
      refine dv F (y_mv rfl rfl) rfl rfl rfl fun a F => ?_
      refine dc F (c_f rfl rfl rfl Try.call11) rfl rfl rfl (f11_c l known gone _ (hl.st S) hln (hk.st S) hn (hg.st S) hgn) fun a v w' hr F => ?_
      obtain ⟨rfl, hb⟩ := hr
      replace S := S.call hb
      refine dv F (y_mv rfl rfl) rfl rfl rfl fun a F => ?_
      refine dv F (y_mv rfl rfl) rfl rfl rfl fun a F => ?_
      refine dv F (y_mv rfl rfl) rfl rfl rfl fun a F => ?_
      refine dc F (c_f rfl rfl rfl Try.call12) rfl rfl rfl (f12_c l known gone _ (hl.st S) hln (hk.st S) hn (hg.st S) hgn) fun a v w' hr F => ?_
      obtain ⟨rfl, hb⟩ := hr
      replace S := S.call hb
      refine dv F (y_eq28 rfl rfl rfl) rfl rfl rfl fun a F => ?_
      refine dv F (y_as rfl rfl) rfl rfl rfl fun a F => ?_
      refine dn ?_
      refine tn <| hK9 _ _ ?_
      refine wp_ret ?_
      refine ?_
      exact rt1 F rfl rfl ⟨by rw [decide_eq_true (next_eq known gone _ 0)], S.bel⟩

end Go.Proofs.Ytpnhinbhhpeklaa
