/- THE LAW DirtyMore: more that is known never unsays an answer that asks for nothing, for every input: the call returns true and the arguments read as before. No further condition. -/
import Derived.Test.YtgmnlakddapkgaaOpenT
import Derived.Test.YtgmnlakddapkgaaRowT
import Derived.Test.YtgmnlakddapkgaaD8
import Derived.Test.YtgmnlakddapkgaaRows
set_option linter.unusedVariables false
set_option linter.unusedSimpArgs false
namespace Go.Proofs.Ytgmnlakddapkgaa
open Go.ChangeShapes Go.WideShapes Go.ChangeAt Go.RowKit Go.Eng DirtyPlain

set_option maxRecDepth 100000 in
theorem dirtyMore_lifted (os : Os) (started : os.Started) (H : Type) (enc : TypeId × Value → H) :
    ReturnsInHanded {} Try.checked os 5 .any (Rows.dirtyMoreSpec.pre6 enc Try.prog Try.f5 Rows.dirtyMoreRow.domain false) (Rows.dirtyMoreSpec.post enc Try.prog Try.f5 false true false false) := by
  refine returnsInHanded_of_change_sized (C := Try.checked) Try.own started (by kernel_rfl) Try.func5
    (ChangeSpec.witness6 (enc := enc) (C := Try.checked) false ⟨#[], #[.slice none 0 0, .slice none 0 0, .slice none 0 0, .slice none 0 0], []⟩ 8 (by kernel_rfl) (by kernel_rfl) (by kernel_rfl) (by kernel_rfl)) ?_
  intro W base args ds gs before hval0 hW hcnd hsz0 _
  have hval : ∀ (j : Nat) t v, Try.f5.params[j]? = some t → args[j]? = some v → Value.okWide Try.prog W .any base t v := hval0
  have hsz : (DataW.weightsEach Try.prog (Try.f5.params.toList ++ Rows.dirtyMoreSpec.plain.varTypes Try.prog) (ds ++ gs)).all (· ≤ reachBytes) = true := hsz0
  have hW' := hW
  obtain ⟨p, q, hA0, hV, rfl, hfz, hnd⟩ := hW
  have hA : DataW.TrodAll enc Try.prog W 0 (fun _ => true) true Try.f5.params.toList args.toList ds p := hA0
  rw [Try.params5] at hA hval hsz
  obtain ⟨v0, v1, v2, v3, d0, d1, d2, d3, p0, p1, p2, p3, rfl, rfl, rfl, ⟨n0, h0⟩, ⟨n1, h1⟩, ⟨n2, h2⟩, ⟨n3, h3⟩⟩ := trodAll_four hA
  obtain ⟨rfl, rfl⟩ := trodVars_none hV
  obtain ⟨A, l, c, e0, hlc, hl, hgl, hln⟩ := opTrs h0 (wt0 hsz (j := 0) rfl rfl)
  obtain ⟨KA, known, kc, e1, _, hk, _, hkn⟩ := opRds h1 (wt0 hsz (j := 1) rfl rfl)
  obtain ⟨MA, more, mc, e2, _, hm, _, hmn⟩ := opRds h2 (wt0 hsz (j := 2) rfl rfl)
  obtain ⟨GA, gone, gk, e3, _, hg, hgn⟩ := opDs h3 (wt0 hsz (j := 3) rfl rfl)
  obtain rfl := sliceOf (okWide_slice Try.underlying22 (hval 0 22 v0 rfl rfl)) e0
  obtain rfl := sliceOf (okWide_slice Try.underlying23 (hval 1 23 v1 rfl rfl)) e1
  obtain rfl := sliceOf (okWide_slice Try.underlying23 (hval 2 23 v2 rfl rfl)) e2
  obtain rfl := sliceOf (okWide_slice Try.underlying24 (hval 3 24 v3 rfl rfl)) e3
  refine (f5_c l known more gone W hl hln hk hkn hm hmn hg hgn).mono fun e W' hr => ?_
  cases e with
  | returned v =>
    obtain ⟨rfl, hb⟩ := hr
    exact ⟨_, rfl, post_true hW' Try.laidOut (by kernel_rfl) rfl rfl rfl rfl (by kernel_rfl) Try.underlying4 hb⟩
  | panicked c => exact hr.elim
  | outgrown => exact hr.elim

theorem dirtyMore_holds : Rows.DirtyMoreSaid :=
  OpenClaim.holds_of_wide 5 Try.f5 rfl rfl rfl rfl rfl rfl rfl ⟨rfl, rfl, rfl, rfl, rfl⟩ rfl rfl rfl rfl rfl (by kernel_rfl) Try.func5 (by kernel_rfl)
    (of_decide_eq_true (by kernel_rfl)) (by unfold Func.isWrapper; first | (rw [if_pos (by decide +kernel)]; kernel_rfl) | (rw [if_neg (by decide +kernel)]; exact ⟨rfl, rfl⟩))
    (fun os started H enc _ => dirtyMore_lifted os started H enc)
#print axioms dirtyMore_holds
end Go.Proofs.Ytgmnlakddapkgaa
