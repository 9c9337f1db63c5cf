/- THE LAW DirtySums: what is read of anything that is known is the reference's, for every input: the call returns true and the arguments read as before. No further condition. -/
import Derived.Test.YtpnhinbhhpeklaaOpenK
import Derived.Test.YtpnhinbhhpeklaaRowT
import Derived.Test.YtpnhinbhhpeklaaD22
import Derived.Test.YtpnhinbhhpeklaaRows
set_option linter.unusedVariables false
set_option linter.unusedSimpArgs false
namespace Go.Proofs.Ytpnhinbhhpeklaa
open Go.ChangeShapes Go.WideShapes Go.ChangeAt Go.RowKit Go.Eng DirtyPlain

set_option maxRecDepth 100000 in
theorem dirtySums_lifted (os : Os) (started : os.Started) (H : Type) (enc : TypeId × Value → H) :
    ReturnsInHanded {} Try.checked os 8 .any (Rows.dirtySumsSpec.pre6 enc Try.prog Try.f8 Rows.dirtySumsRow.domain false) (Rows.dirtySumsSpec.post enc Try.prog Try.f8 false true false false) := by
  refine returnsInHanded_of_change_sized (C := Try.checked) Try.own started (by kernel_rfl) Try.func8
    (ChangeSpec.witness6 (enc := enc) (C := Try.checked) false ⟨#[], #[.agg #[.string ⟨#[]⟩, .bool false, .string ⟨#[]⟩], .agg #[.string ⟨#[]⟩, .bool false, .string ⟨#[]⟩]], []⟩ 8 (by kernel_rfl) (by kernel_rfl) (by kernel_rfl) (by kernel_rfl)) ?_
  intro W base args ds gs before hval0 hW hcnd hsz0 _
  have hval : ∀ (j : Nat) t v, Try.f8.params[j]? = some t → args[j]? = some v → Value.okWide Try.prog W .any base t v := hval0
  have hsz : (DataW.weightsEach Try.prog (Try.f8.params.toList ++ Rows.dirtySumsSpec.plain.varTypes Try.prog) (ds ++ gs)).all (· ≤ reachBytes) = true := hsz0
  have hW' := hW
  obtain ⟨p, q, hA0, hV, rfl, hfz, hnd⟩ := hW
  have hA : DataW.TrodAll enc Try.prog W 0 (fun _ => true) true Try.f8.params.toList args.toList ds p := hA0
  rw [Try.params8] at hA hval hsz
  obtain ⟨v0, v1, d0, d1, p0, p1, rfl, rfl, rfl, ⟨n0, h0⟩, ⟨n1, h1⟩⟩ := trodAll_two hA
  obtain ⟨rfl, rfl⟩ := trodVars_none hV
  obtain ⟨k, e0⟩ := opKn h0 (wt0 hsz (j := 0) rfl rfl)
  obtain ⟨m, e1⟩ := opKn h1 (wt0 hsz (j := 1) rfl rfl)
  obtain rfl := aggOf (okWide_struct Try.underlying54 (hval 0 54 v0 rfl rfl)) e0
  obtain rfl := aggOf (okWide_struct Try.underlying54 (hval 1 54 v1 rfl rfl)) e1
  refine (f8_c k m W).mono fun e W' hr => ?_
  cases e with
  | returned v =>
    obtain ⟨rfl, hb⟩ := hr
    exact ⟨_, rfl, post_true hW' Try.laidOut (by kernel_rfl) rfl rfl rfl rfl (by kernel_rfl) Try.underlying4 hb⟩
  | panicked c => exact hr.elim
  | outgrown => exact hr.elim

theorem dirtySums_holds : Rows.DirtySumsSaid :=
  OpenClaim.holds_of_wide 8 Try.f8 rfl rfl rfl rfl rfl rfl rfl ⟨rfl, rfl, rfl, rfl, rfl⟩ rfl rfl rfl rfl rfl (by kernel_rfl) Try.func8 (by kernel_rfl)
    (of_decide_eq_true (by kernel_rfl)) (by unfold Func.isWrapper; first | (rw [if_pos (by decide +kernel)]; kernel_rfl) | (rw [if_neg (by decide +kernel)]; exact ⟨rfl, rfl⟩))
    (fun os started H enc _ => dirtySums_lifted os started H enc)
#print axioms dirtySums_holds
end Go.Proofs.Ytpnhinbhhpeklaa
