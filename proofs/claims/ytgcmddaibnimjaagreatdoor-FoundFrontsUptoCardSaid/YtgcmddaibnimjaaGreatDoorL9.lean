/- THE LAW FoundFronts: over two rows of files, that tell the same of some first reads, the same path is read next. For every input whose bulk is at most 1048576 (the second form's card). No further condition. -/
import Derived.Test.YtgcmddaibnimjaaGreatDoorL8
set_option linter.unusedVariables false
set_option linter.unusedSimpArgs false
set_option maxRecDepth 8000
set_option maxHeartbeats 4000000
namespace Go.Proofs.YtgcmddaibnimjaaGreatDoor
open Go.ChangeShapes Go.WideShapes Go.ChangeAt Go.RowKit Go.Eng
set_option maxRecDepth 100000 in
theorem foundFronts_lifted (os : Os) (started : os.Started) (H : Type) (enc : TypeId × Value → H) (F : Stop.Interp) :
  ReturnsInHanded {} Tryz.checked os 9 .any ((Rows.OpenSpec.upto Rows.foundFrontsSpec).preRow enc Tryz.prog Tryz.f9 Rows.foundFrontsUptoRow.domain false Rows.foundFrontsUptoRow.laid) (((Rows.OpenSpec.upto Rows.foundFrontsSpec).at F).post enc Tryz.prog Tryz.f9 false true false false) := by
 obtain ⟨places, hx⟩ : ∃ places, DataW.whole enc Tryz.prog ((laidWorld os).forCall (fun _ _ => 0) ⟨#[], #[v0A, .slice none 0 0, .slice none 0 0], []⟩).memory Tryz.f9.params.toList Rows.foundFrontsSpec.vars false (#[v0A, .slice none 0 0, .slice none 0 0] : Array Value).toList 8 = some ([d0A, .nil, .nil], [], places) := ⟨[], by kernel_rfl⟩
 refine returnsInHanded_of_row (C := Tryz.checked) (s := Rows.OpenSpec.upto Rows.foundFrontsSpec) zown started (by kernel_rfl) Tryz.func9
  (witness_row_at (enc := enc) (C := Tryz.checked) false (laidWorld os) #[v0A, .slice none 0 0, .slice none 0 0] rfl (by kernel_rfl) (by kernel_rfl) (by kernel_rfl)
   (OpenSpec.preRow_of_cond 8 hx (by kernel_rfl) (fun k hk => by cases hk; kernel_rfl) (by kernel_rfl) (laid_met os _))) ?_
 intro W base args ds gs before hval0 hW _ hcond _ hL hsh _
 have hval : ∀ (j : Nat) t v, Tryz.f9.params[j]? = some t → args[j]? = some v → Value.okWide Tryz.prog W .any base t v := hval0
 have hb : Rows.uptoBulkAll (ds ++ gs) ≤ 1048576 := of_decide_eq_true (hcond _ rfl)
 have hW' := hW
 obtain ⟨p, q, hA0, hV, rfl, hfz, hnd⟩ := hW
 have hA : DataW.TrodAll enc Tryz.prog W 0 (fun _ => true) true Tryz.f9.params.toList args.toList ds p := hA0
 rw [Tryz.params9] at hA hval
 obtain ⟨v0, v1, v2, d0, d1, d2, p0, p1, p2, rfl, rfl, rfl, ⟨n0, h0⟩, ⟨n1, h1⟩, ⟨n2, h2⟩⟩ := trodAll_three hA
 obtain ⟨rfl, rfl⟩ := trodVars_none hV
 simp only [List.append_nil, Rows.uptoBulkAll] at hb
 obtain ⟨u1, u2, t, Ae, env, ce, Ai, ins, ci, Aa, asks, ca, Ao, outs, co, e0, he, hi, ha, ho, hz0⟩ := opA h0
 obtain ⟨Ak1, files1, ck1, e1, hK1, hz1⟩ := opFs h1
 obtain ⟨Ak2, files2, ck2, e2, hK2, hz2⟩ := opFs h2
 obtain rfl := aggOfZ (okWide_struct Tryz.underlying27 (hval 0 27 v0 rfl rfl)) e0
 obtain rfl := sliceOfZ (okWide_slice Tryz.underlying38 (hval 1 38 v1 rfl rfl)) e1
 obtain rfl := sliceOfZ (okWide_slice Tryz.underlying38 (hval 2 38 v2 rfl rfl)) e2
 refine (c_FoundFronts W (gl_of hL hsh) he hi ha ho hK1 hK2 (by dsimp only at hz0; omega) (by dsimp only at hz1; omega) (by dsimp only at hz2; omega)).mono fun e W' hr => ?_
 cases e with
 | returned v =>
  obtain ⟨rfl, hbl⟩ := hr
  exact ⟨_, rfl, post_true hW' zlaid (by kernel_rfl) rfl rfl rfl rfl (by kernel_rfl) Tryz.underlying4 hbl⟩
 | panicked c => exact hr.elim
 | outgrown => exact hr.elim
theorem foundFronts_said : Rows.FoundFrontsUptoSaid :=
 OpenClaim.holds_of_cond 9 Tryz.f9 rfl rfl rfl rfl rfl rfl rfl ⟨rfl, rfl, rfl, rfl, rfl⟩ rfl rfl rfl rfl rfl (by kernel_rfl) Tryz.func9 foundFronts_closed
  (of_decide_eq_true (by kernel_rfl)) (by unfold Func.isWrapper; first | (rw [if_pos (by decide +kernel)]; kernel_rfl) | (rw [if_neg (by decide +kernel)]; exact ⟨rfl, rfl⟩))
  (fun os started H enc _ F => by rw [OpenClaim.pre_eq_preRow]; exact foundFronts_lifted os started H enc F)
theorem foundFronts_plain (f : FuncId) (fn : Func) (hf : Tryz.pinned.checked.prog.funcNamed "bloomery/bloomerylaw24.FoundFronts" = some f) (hfn : Tryz.pinned.checked.prog.funcs[f]? = some fn) :
  false = Tryz.pinned.checked.prog.looks [] ∧ ∀ (j : Nat) t, fn.params[j]? = some t → Tryz.pinned.checked.prog.wantsStandIn t = false := by
 obtain rfl : f = 9 := Option.some.inj ((show Tryz.prog.funcNamed "bloomery/bloomerylaw24.FoundFronts" = some 9 by kernel_rfl).symm.trans hf) |>.symm
 obtain rfl : fn = Tryz.f9 := (Option.some.inj (Tryz.func9.symm.trans hfn)).symm
 refine ⟨by kernel_rfl, fun j t ht => ?_⟩
 rw [Tryz.params9] at ht
 have hm := Array.mem_of_getElem? ht
 rcases (by simpa using hm : t = 27 ∨ t = 38) with rfl | rfl
 ·exact (show Tryz.prog.wantsStandIn 27 = false by kernel_rfl)
 ·exact (show Tryz.prog.wantsStandIn 38 = false by kernel_rfl)
theorem foundFronts_card : Rows.FoundFrontsUptoCardSaid :=
 Claim7.holds_tied_plain_at .later [] _ _ _ _ foundFronts_said (fun _ h => by cases h) (by kernel_rfl) (fun _ h => by cases h) foundFrontsUpto_row_tie rfl ⟨rfl, rfl⟩ (by kernel_rfl) rfl foundFronts_plain (by kernel_rfl)
end Go.Proofs.YtgcmddaibnimjaaGreatDoor
