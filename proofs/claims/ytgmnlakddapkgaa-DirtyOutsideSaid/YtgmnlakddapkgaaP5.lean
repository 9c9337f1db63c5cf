/- THE LAW DirtyOutside: more that changed only widens the cone, and nothing outside of it reads what is inside, for every input: the call returns true and the arguments read as before. No further condition. -/
import Derived.Test.YtgmnlakddapkgaaOpenC
import Derived.Test.YtgmnlakddapkgaaRowT
import Derived.Test.YtgmnlakddapkgaaD13
import Derived.Test.YtgmnlakddapkgaaRows
set_option linter.unusedVariables false
set_option linter.unusedSimpArgs false
namespace Go.Proofs.Ytgmnlakddapkgaa
open Go.ChangeShapes Go.WideShapes Go.ChangeAt Go.RowKit Go.Eng DirtyPlain

set_option maxRecDepth 100000 in
theorem dirtyOutside_lifted (os : Os) (started : os.Started) (H : Type) (enc : TypeId × Value → H) :
    ReturnsInHanded {} Try.checked os 7 .any (Rows.dirtyOutsideSpec.pre6 enc Try.prog Try.f7 Rows.dirtyOutsideRow.domain false) (Rows.dirtyOutsideSpec.post enc Try.prog Try.f7 false true false false) := by
  refine returnsInHanded_of_change_sized (C := Try.checked) Try.own started (by kernel_rfl) Try.func7
    (ChangeSpec.witness6 (enc := enc) (C := Try.checked) false ⟨#[], #[.slice none 0 0, .slice none 0 0, .slice none 0 0, .slice none 0 0], []⟩ 8 (by kernel_rfl) (by kernel_rfl) (by kernel_rfl) (by kernel_rfl)) ?_
  intro W base args ds gs before hval0 hW hcnd hsz0 _
  have hval : ∀ (j : Nat) t v, Try.f7.params[j]? = some t → args[j]? = some v → Value.okWide Try.prog W .any base t v := hval0
  have hsz : (DataW.weightsEach Try.prog (Try.f7.params.toList ++ Rows.dirtyOutsideSpec.plain.varTypes Try.prog) (ds ++ gs)).all (· ≤ reachBytes) = true := hsz0
  have hW' := hW
  obtain ⟨p, q, hA0, hV, rfl, hfz, hnd⟩ := hW
  have hA : DataW.TrodAll enc Try.prog W 0 (fun _ => true) true Try.f7.params.toList args.toList ds p := hA0
  rw [Try.params7] at hA hval hsz
  obtain ⟨v0, v1, v2, v3, d0, d1, d2, d3, p0, p1, p2, p3, rfl, rfl, rfl, ⟨n0, h0⟩, ⟨n1, h1⟩, ⟨n2, h2⟩, ⟨n3, h3⟩⟩ := trodAll_four hA
  obtain ⟨rfl, rfl⟩ := trodVars_none hV
  obtain ⟨SA, L, sc, e0, _, hS, hSn⟩ := opStps h0 (wt0 hsz (j := 0) rfl rfl)
  obtain ⟨A, l, c, e1, hlc, hl, hgl, hln⟩ := opTrs h1 (wt0 hsz (j := 1) rfl rfl)
  obtain ⟨CA, cs, cc, e2, _, hC, hCn⟩ := opChgs h2 (wt0 hsz (j := 2) rfl rfl)
  obtain ⟨DA, ds2, ec, e3, _, hD, hDn⟩ := opChgs h3 (wt0 hsz (j := 3) rfl rfl)
  obtain rfl := sliceOf (okWide_slice Try.underlying40 (hval 0 40 v0 rfl rfl)) e0
  obtain rfl := sliceOf (okWide_slice Try.underlying22 (hval 1 22 v1 rfl rfl)) e1
  obtain rfl := sliceOf (okWide_slice Try.underlying41 (hval 2 41 v2 rfl rfl)) e2
  obtain rfl := sliceOf (okWide_slice Try.underlying41 (hval 3 41 v3 rfl rfl)) e3
  refine (f7_c L l cs ds2 W hS hSn hl hln hC hCn hD hDn).mono fun e W' hr => ?_
  cases e with
  | returned v =>
    obtain ⟨rfl, hb⟩ := hr
    exact ⟨_, rfl, post_true hW' Try.laidOut (by kernel_rfl) rfl rfl rfl rfl (by kernel_rfl) Try.underlying4 hb⟩
  | panicked c => exact hr.elim
  | outgrown => exact hr.elim

theorem dirtyOutside_holds : Rows.DirtyOutsideSaid :=
  OpenClaim.holds_of_wide 7 Try.f7 rfl rfl rfl rfl rfl rfl rfl ⟨rfl, rfl, rfl, rfl, rfl⟩ rfl rfl rfl rfl rfl (by kernel_rfl) Try.func7 (by kernel_rfl)
    (of_decide_eq_true (by kernel_rfl)) (by unfold Func.isWrapper; first | (rw [if_pos (by decide +kernel)]; kernel_rfl) | (rw [if_neg (by decide +kernel)]; exact ⟨rfl, rfl⟩))
    (fun os started H enc _ => dirtyOutside_lifted os started H enc)
#print axioms dirtyOutside_holds
end Go.Proofs.Ytgmnlakddapkgaa
