/- Walks of layer 2: turns, words, tables. -/
import Derived.Test.YtpnhinbhhpeklaaD13
import Derived.Test.YtpnhinbhhpeklaaShaP
set_option linter.unusedVariables false
set_option linter.unusedSimpArgs false
namespace Go.Proofs.Ytpnhinbhhpeklaa
open Go.RowKit Go.Eng DirtyPlain

open Sha
theorem and31 (n : Nat) (hn : 1 ≤ n ∧ n ≤ 31) : andI .u64 (IntKind.u64.wrap ((32 - n : Nat) : Int)) 31 = ((32 - n : Nat) : Int) := by
  have : ∀ m : Fin 32, andI .u64 (IntKind.u64.wrap ((m.1 : Nat) : Int)) 31 = ((m.1 : Nat) : Int) := by decide +kernel
  exact this ⟨32 - n, by omega⟩
theorem sub31 (n : Nat) (hn : 1 ≤ n ∧ n ≤ 31) : IntKind.u64.wrap (32 - andI .u64 (IntKind.u64.wrap ((32 - n : Nat) : Int)) 31) = (n : Int) := by
  rw [and31 n hn, IntWalk.u64_in _ (by omega)]; omega
theorem _root_.Go.Eng.Sl.ld1c {P : Program} {α : Type} {w : World} {enc : α → List Value} {A : Option Addr} {xs : List α} {b o t : Nat} {v : Value} (h : Sl w 1 enc A xs) (e : A = some ⟨b, o, none⟩) (hA : ∀ w, (isAgg t).run P w = .ok false w) (j : Nat) (hj : j < xs.length) (hv : (enc xs[j])[0]? = some v) : Ld P w t ⟨b, o + j * 1, none⟩ v := by
  obtain ⟨b', o', e', _, hc⟩ := h.at_ hj
  rw [e] at e'; cases e'
  exact ld1 hA (hc 0 v hv)
def encU32 (n : Int) : List Value := [.int .u32 n]
theorem lenU32 (n : Int) : (encU32 n).length = 1 := rfl
theorem one_U32 (n : Int) : ∀ u ∈ encU32 n, u.oneCell' = true := one1
set_option maxRecDepth 4000
set_option maxHeartbeats 2000000 in
theorem f50_c (x : Int) (n : Nat) (hn : 1 ≤ n ∧ n ≤ 31) (w0 : World) :
    Calls Try.prog 50 [.int .u32 x, .int .i64 ((32 - n : Nat) : Int)].toArray w0 (Ret fun v w' => v = .int .u32 (rot x n) ∧ Below w0.heap.size w0 w') := by
  refine ent Try.func50 Try.ntmps50 rfl rfl ?_
  intro a F
  have S := St.refl w0
  refine sq fun K1 hK1 => ?_
  refine rg ?_
  refine dv F (y_as rfl rfl) rfl rfl rfl fun a F => ?_
  refine dn ?_
  refine tn <| hK1 _ _ ?_
  refine sq fun K2 hK2 => ?_
  refine rg ?_
  refine dv F (y_mv rfl rfl) rfl rfl rfl fun a F => ?_
  refine dv F (y_cvt rfl rfl ⟨_, Try.underlying3⟩ Try.underlying100) rfl rfl rfl fun a F => ?_
  refine dv F (y_and rfl rfl rfl) rfl rfl rfl fun a F => ?_
  refine dv F (y_as rfl rfl) rfl rfl rfl fun a F => ?_
  refine dn ?_
  refine tn <| hK2 _ _ ?_
  refine sq fun K3 hK3 => ?_
  refine rg ?_
  refine dv F (y_mv rfl rfl) rfl rfl rfl fun a F => ?_
  refine dv F (y_mv rfl rfl) rfl rfl rfl fun a F => ?_
  refine dv F (y_shl (m := 32 - n) rfl rfl rfl (and31 n hn)) rfl rfl rfl fun a F => ?_
  refine dv F (y_mv rfl rfl) rfl rfl rfl fun a F => ?_
  refine dv F (y_mv rfl rfl) rfl rfl rfl fun a F => ?_
  refine dv F (y_ws rfl rfl rfl) rfl rfl rfl fun a F => ?_
  refine dv F (y_shr (m := n) rfl rfl rfl (sub31 n hn)) rfl rfl rfl fun a F => ?_
  refine dv F (y_or rfl rfl rfl) rfl rfl rfl fun a F => ?_
  refine dv F (y_as rfl rfl) rfl rfl rfl fun a F => ?_
  refine dn ?_
  refine tn <| hK3 _ _ ?_
  refine wp_ret ?_
  refine ?_
  exact rt1 F rfl rfl ⟨by rw [rot, orI_comm], S.bel⟩

theorem f49_c (x : Int) (n : Nat) (hn : 1 ≤ n ∧ n ≤ 31) (w0 : World) :
    Calls Try.prog 49 [.int .u32 x, .int .i64 (n : Int)].toArray w0 (Ret fun v w' => v = .int .u32 (rot x n) ∧ Below w0.heap.size w0 w') := by
  refine ent Try.func49 Try.ntmps49 rfl rfl ?_
  intro a F
  have S := St.refl w0
  refine sq fun K1 hK1 => ?_
  refine rg ?_
  refine dv F (y_as rfl rfl) rfl rfl rfl fun a F => ?_
  refine dn ?_
  refine tn <| hK1 _ _ ?_
  refine sq fun K2 hK2 => ?_
  refine rg ?_
  refine dv F (y_mv rfl rfl) rfl rfl rfl fun a F => ?_
  refine dv F (y_mv rfl rfl) rfl rfl rfl fun a F => ?_
  refine dv F (y_sub rfl rfl rfl (by omega)) rfl rfl rfl fun a F => ?_
  refine dc F (c_f rfl rfl rfl Try.call50) rfl rfl rfl ((show (32 : Int) - (n : Int) = ((32 - n : Nat) : Int) by omega) ▸ f50_c x n hn _) fun a v w' hr F => ?_
  obtain ⟨rfl, hb⟩ := hr
  replace S := S.call hb
  refine dv F (y_as rfl rfl) rfl rfl rfl fun a F => ?_
  refine dn ?_
  refine tn <| hK2 _ _ ?_
  refine wp_ret ?_
  refine ?_
  exact rt1 F rfl rfl ⟨rfl, S.bel⟩

theorem f46_c (x : Int) (n : Nat) (hn : 1 ≤ n ∧ n ≤ 31) (w0 : World) :
    Calls Try.prog 46 [.int .u32 x, .int .i64 (n : Int)].toArray w0 (Ret fun v w' => v = .int .u32 (rot x n) ∧ Below w0.heap.size w0 w') := by
  refine ent Try.func46 Try.ntmps46 rfl rfl ?_
  intro a F
  have S := St.refl w0
  refine sq fun K1 hK1 => ?_
  refine rg ?_
  refine dv F (y_as rfl rfl) rfl rfl rfl fun a F => ?_
  refine dn ?_
  refine tn <| hK1 _ _ ?_
  refine sq fun K2 hK2 => ?_
  refine rq (C := fun w => St _ w _) Try.mixed (by kernel_rfl) (S.drewN 1) ?_
  refine qv F (fun w S => y_mv rfl rfl) rfl rfl rfl fun a F => ?_
  refine qv F (fun w S => y_mv rfl rfl) rfl rfl rfl fun a F => ?_
  refine qv F (fun w S => y_shr (m := n) rfl rfl rfl rfl) rfl rfl rfl fun a F => ?_
  refine qv F (fun w S => y_mv rfl rfl) rfl rfl rfl fun a F => ?_
  refine qv F (fun w S => y_mv rfl rfl) rfl rfl rfl fun a F => ?_
  refine qv F (fun w S => y_sub rfl rfl rfl (by omega)) rfl rfl rfl fun a F => ?_
  refine qv F (fun w S => y_shl (m := 32 - n) rfl rfl rfl (by omega)) rfl rfl rfl fun a F => ?_
  refine qv F (fun w S => y_or rfl rfl rfl) rfl rfl rfl fun a F => ?_
  refine qv F (fun w S => y_as rfl rfl) rfl rfl rfl fun a F => ?_
  refine qn fun w S => ?_
  refine tn <| hK2 _ _ ?_
  refine wp_ret ?_
  refine ?_
  exact rt1 F rfl rfl ⟨rfl, S.bel⟩

theorem f45_c {A : Option Addr} {c : Nat} (bs : List Int) (w0 : World) (hA : Sl w0 1 encU8 A bs) (hb : bs.length = 4) :
    Calls Try.prog 45 [.slice A bs.length c].toArray w0 (Ret fun v w' => v = .int .u32 (word bs[0] bs[1] bs[2] bs[3]) ∧ Below w0.heap.size w0 w') := by
  refine ent Try.func45 Try.ntmps45 rfl rfl ?_
  intro a F
  have S := St.refl w0
  refine sq fun K1 hK1 => ?_
  refine rg ?_
  refine dv F (y_as rfl rfl) rfl rfl rfl fun a F => ?_
  refine dn ?_
  refine tn <| hK1 _ _ ?_
  refine sq fun K2 hK2 => ?_
  obtain ⟨ab, ao, eA, hab, _⟩ := (hA.st S).at_ (j := 0) (by omega)
  refine rq (C := fun w => St _ w _) Try.mixed (by kernel_rfl) (S.drewN 1) ?_
  refine qv F (fun w S => y_mv rfl rfl) rfl rfl rfl fun a F => ?_
  refine qv F (fun w S => y_ia rfl rfl eA rfl Try.underlying87 Try.sizeOf5 0 rfl (by omega)) rfl rfl rfl fun a F => ?_
  refine qv F (fun w S => y_ld rfl rfl (Sl.ld1c (hA.st S) eA Try.isAgg5 0 (by omega) rfl)) rfl rfl rfl fun a F => ?_
  refine qv F (fun w S => y_cvt rfl rfl ⟨_, Try.underlying5⟩ Try.underlying85) rfl rfl rfl fun a F => ?_
  refine qv F (fun w S => y_shl (m := 24) rfl rfl rfl rfl) rfl rfl rfl fun a F => ?_
  refine qv F (fun w S => y_mv rfl rfl) rfl rfl rfl fun a F => ?_
  refine qv F (fun w S => y_ia rfl rfl eA rfl Try.underlying87 Try.sizeOf5 1 rfl (by omega)) rfl rfl rfl fun a F => ?_
  refine qv F (fun w S => y_ld rfl rfl (Sl.ld1c (hA.st S) eA Try.isAgg5 1 (by omega) rfl)) rfl rfl rfl fun a F => ?_
  refine qv F (fun w S => y_cvt rfl rfl ⟨_, Try.underlying5⟩ Try.underlying85) rfl rfl rfl fun a F => ?_
  refine qv F (fun w S => y_shl (m := 16) rfl rfl rfl rfl) rfl rfl rfl fun a F => ?_
  refine qv F (fun w S => y_or rfl rfl rfl) rfl rfl rfl fun a F => ?_
  refine qv F (fun w S => y_mv rfl rfl) rfl rfl rfl fun a F => ?_
  refine qv F (fun w S => y_ia rfl rfl eA rfl Try.underlying87 Try.sizeOf5 2 rfl (by omega)) rfl rfl rfl fun a F => ?_
  refine qv F (fun w S => y_ld rfl rfl (Sl.ld1c (hA.st S) eA Try.isAgg5 2 (by omega) rfl)) rfl rfl rfl fun a F => ?_
  refine qv F (fun w S => y_cvt rfl rfl ⟨_, Try.underlying5⟩ Try.underlying85) rfl rfl rfl fun a F => ?_
  refine qv F (fun w S => y_shl (m := 8) rfl rfl rfl rfl) rfl rfl rfl fun a F => ?_
  refine qv F (fun w S => y_or rfl rfl rfl) rfl rfl rfl fun a F => ?_
  refine qv F (fun w S => y_mv rfl rfl) rfl rfl rfl fun a F => ?_
  refine qv F (fun w S => y_ia rfl rfl eA rfl Try.underlying87 Try.sizeOf5 3 rfl (by omega)) rfl rfl rfl fun a F => ?_
  refine qv F (fun w S => y_ld rfl rfl (Sl.ld1c (hA.st S) eA Try.isAgg5 3 (by omega) rfl)) rfl rfl rfl fun a F => ?_
  refine qv F (fun w S => y_cvt rfl rfl ⟨_, Try.underlying5⟩ Try.underlying85) rfl rfl rfl fun a F => ?_
  refine qv F (fun w S => y_or rfl rfl rfl) rfl rfl rfl fun a F => ?_
  refine qv F (fun w S => y_as rfl rfl) rfl rfl rfl fun a F => ?_
  refine qn fun w S => ?_
  refine tn <| hK2 _ _ ?_
  refine wp_ret ?_
  refine ?_
  exact rt1 F rfl rfl ⟨rfl, S.bel⟩

theorem f44_c (w0 : World) : Calls Try.prog 44 [].toArray w0 (Ret fun v w' => (∃ b, v = .slice (some ⟨b, 0, none⟩) 64 64 ∧ w'.heap[b]? = some (.cells (K.flatMap encU32).toArray 85 (0, 0)) ∧ w0.heap.size ≤ b) ∧ Below w0.heap.size w0 w') := by
  refine ent Try.func44 Try.ntmps44 rfl rfl ?_
  intro a F
  have S := St.refl w0
  refine sq fun K1 hK1 => ?_
  refine rg ?_
  refine dv F (y_as rfl rfl) rfl rfl rfl fun a F => ?_
  refine dn ?_
  refine tn <| hK1 _ _ ?_
  refine sq fun K2 hK2 => ?_
  refine rg ?_
  refine dbs (cs := (K.flatMap encU32)) (e := 85) F S rfl rfl (fun w => by kernel_rfl) rfl rfl rfl fun a w b1 F S => ?_
  refine dv F (y_as rfl rfl) rfl rfl rfl fun a F => ?_
  refine dn ?_
  refine tn <| hK2 _ _ ?_
  refine wp_ret ?_
  refine ?_
  exact rt1 F rfl rfl ⟨⟨b1, rfl, S.ok (i := 0) rfl, ((S.own 0 _ rfl).2 b1 rfl).1⟩, S.bel⟩

theorem f47_c (w0 : World) : Calls Try.prog 47 [].toArray w0 (Ret fun v w' => v = .agg (K.flatMap encU32).toArray ∧ Below w0.heap.size w0 w') := by
  refine ent Try.func47 Try.ntmps47 rfl rfl ?_
  intro a F
  have S := St.refl w0
  refine sq fun K1 hK1 => ?_
  refine rg ?_
  refine dal F S rfl Try.zeroValue102 rfl rfl rfl rfl fun a w b0 F S => ?_
  refine dn ?_
  refine tn <| hK1 _ _ ?_
  refine sq fun K2 hK2 => ?_
  refine rg ?_
  refine dv F (y_bd (v := .agg (K.flatMap encU32).toArray) rfl rfl (fun w => by kernel_rfl)) rfl rfl rfl fun a F => ?_
  refine dsw F S rfl rfl rfl Try.sizeOf102 (i := 0) rfl rfl rfl rfl (allflat one_U32 K) rfl rfl fun a w F S => ?_
  refine dn ?_
  refine tn <| hK2 _ _ ?_
  refine wp_ret ?_
  refine ?_
  exact rc1 F rfl rfl (S.lda (i := 0) rfl Try.isAgg102 Try.sizeOf102 rfl) ⟨rfl, S.bel⟩

theorem f42_c (w0 : World) : Calls Try.prog 42 [].toArray w0 (Ret fun v w' => v = .agg (H0.flatMap encU32).toArray ∧ Below w0.heap.size w0 w') := by
  refine ent Try.func42 Try.ntmps42 rfl rfl ?_
  intro a F
  have S := St.refl w0
  refine sq fun K1 hK1 => ?_
  refine rg ?_
  refine dal F S rfl Try.zeroValue91 rfl rfl rfl rfl fun a w b0 F S => ?_
  refine dn ?_
  refine tn <| hK1 _ _ ?_
  refine sq fun K2 hK2 => ?_
  refine rg ?_
  refine dv F (y_bd (v := .agg (H0.flatMap encU32).toArray) rfl rfl (fun w => by kernel_rfl)) rfl rfl rfl fun a F => ?_
  refine dsw F S rfl rfl rfl Try.sizeOf91 (i := 0) rfl rfl rfl rfl (allflat one_U32 H0) rfl rfl fun a w F S => ?_
  refine dn ?_
  refine tn <| hK2 _ _ ?_
  refine wp_ret ?_
  refine ?_
  exact rc1 F rfl rfl (S.lda (i := 0) rfl Try.isAgg91 Try.sizeOf91 rfl) ⟨rfl, S.bel⟩

end Go.Proofs.Ytpnhinbhhpeklaa
