/- Walks of layer 27, sixth part: alive. -/
import Derived.Test.YtpnhinbhhpeklaaD5
import Derived.Test.YtpnhinbhhpeklaaPar
set_option linter.unusedVariables false
set_option linter.unusedSimpArgs false
namespace Go.Proofs.Ytpnhinbhhpeklaa
open Go.RowKit Go.Eng DirtyPlain

def dA : Dig := ⟨115 :: List.replicate 31 0, rfl⟩
def rA : Rd := ⟨⟨#[97]⟩, true, dA⟩
def rB : Rd := ⟨⟨#[97]⟩, false, dig0⟩
def mA : Md := ⟨⟨#[111, 117, 116, 47, 111]⟩, dA⟩
def trA (A B : Option Addr) : TrV := ⟨⟨dig0, [rA], [mA]⟩, A, 1, B, 1⟩
theorem bdA7 (w : World) : (Instr.build 32 [(0, .int .u8 115)].toArray).run Try.prog w = .ok (.agg (encD dA).toArray) w := by kernel_rfl
theorem bdA9 (w : World) : (Instr.build 37 [(0, .string ⟨#[97]⟩), (1, .bool true), (2, .agg (encD dA).toArray)].toArray).run Try.prog w = .ok (.agg (encRd rA).toArray) w := by kernel_rfl
theorem bdB (w : World) : (Instr.build 37 [(0, .string ⟨#[97]⟩)].toArray).run Try.prog w = .ok (.agg (encRd rB).toArray) w := by kernel_rfl
theorem bdA12 (w : World) : (Instr.build 58 [(0, .string ⟨#[111, 117, 116, 47, 111]⟩), (1, .agg (encD dA).toArray)].toArray).run Try.prog w = .ok (.agg (encMd mA).toArray) w := by kernel_rfl
theorem bdA14 {A B : Option Addr} (w : World) : (Instr.build 35 [(1, .slice A 1 1), (2, .slice B 1 1)].toArray).run Try.prog w = .ok (.agg (encTr (trA A B)).toArray) w := by kernel_rfl
theorem bsA (w : World) : (Instr.buildSlice 23 1 [(0, .agg (encRd rA).toArray)].toArray).run Try.prog w = .ok (.slice (some ⟨w.heap.size, 0, none⟩) 1 1) (w.alloc (.cells ([rA].flatMap encRd).toArray 37)) := by kernel_rfl
theorem bsB (w : World) : (Instr.buildSlice 23 1 [(0, .agg (encRd rB).toArray)].toArray).run Try.prog w = .ok (.slice (some ⟨w.heap.size, 0, none⟩) 1 1) (w.alloc (.cells (encRd rB).toArray 37)) := by kernel_rfl
theorem bsM (w : World) : (Instr.buildSlice 33 1 [(0, .agg (encMd mA).toArray)].toArray).run Try.prog w = .ok (.slice (some ⟨w.heap.size, 0, none⟩) 1 1) (w.alloc (.cells ([mA].flatMap encMd).toArray 58)) := by kernel_rfl
theorem bsD (w : World) : (Instr.buildSlice 24 1 [(0, .agg (encD dA).toArray)].toArray).run Try.prog w = .ok (.slice (some ⟨w.heap.size, 0, none⟩) 1 1) (w.alloc (.cells (encD dA).toArray 32)) := by kernel_rfl
theorem bsT {A B : Option Addr} (w : World) : (Instr.buildSlice 22 1 [(0, .agg (encTr (trA A B)).toArray)].toArray).run Try.prog w = .ok (.slice (some ⟨w.heap.size, 0, none⟩) 1 1) (w.alloc (.cells ([trA A B].flatMap encTr).toArray 35)) := by kernel_rfl
theorem nxA {A B : Option Addr} : next [] [] ([trA A B].map TrV.t) 0 = ⟨1, ⟨#[97]⟩, 0⟩ := by show next [] [] [⟨dig0, [rA], [mA]⟩] 0 = _; decide
theorem nxB {A B : Option Addr} : next [rA] [] ([trA A B].map TrV.t) 0 = ⟨2, ⟨#[]⟩, 0⟩ := by show next [rA] [] [⟨dig0, [rA], [mA]⟩] 0 = _; decide
theorem nxC {A B : Option Addr} : next [rB] [] ([trA A B].map TrV.t) 0 = ⟨3, ⟨#[]⟩, 0⟩ := by show next [rB] [] [⟨dig0, [rA], [mA]⟩] 0 = _; decide
theorem nxD {A B : Option Addr} : next [rA] [dA] ([trA A B].map TrV.t) 0 = ⟨3, ⟨#[]⟩, 0⟩ := by show next [rA] [dA] [⟨dig0, [rA], [mA]⟩] 0 = _; decide
theorem rowSl {α : Type} {w : World} {z b e : Nat} {enc : α → List Value} {xs : List α} (h : w.heap[b]? = some (.cells (xs.flatMap enc).toArray e (0, 0))) (hz : ∀ x, (enc x).length = z) : Sl w z enc (some ⟨b, 0, none⟩) xs := by
  have S : St w w [] := St.refl w
  exact Sl.ofRow h hz
theorem eqW (x y : Want) (d : Nat) (w : World) : (Op.equalIn (d + 3) 28 (.agg (encW x).toArray) (.agg (encW y).toArray)).run Try.prog w = .ok (decide (x = y)) w := by
  have hS : Try.prog.underlying 28 = some (.struct (Try.prog.fieldsOf 28)) := by kernel_rfl
  have hp : Try.prog.stoodInHeld 28 = false := by kernel_rfl
  rw [show d + 3 = (d + 2) + 1 from rfl, run_equalIn_agg w (d + 2) 28 _ _ hS hp]
  simp only [Program.fieldsOf, Try.underlying28, Op.eqFields]
  simp only [ne_eq, String.reduceEq, not_false_eq_true, if_true, Sem.run_bind]
  rw [run_part1 Try.isAgg3 (v := .int .i64 x.kind) rfl, Result.andThen_ok, run_part1 Try.isAgg3 (v := .int .i64 y.kind) rfl, Result.andThen_ok, run_equalIn_int w _ 3 _ _ _ _ Try.underlying3, Result.andThen_ok]
  have e : (x = y) ↔ (x.kind = y.kind ∧ x.path = y.path ∧ x.i = y.i) := by cases x; cases y; simp
  by_cases h1 : x.kind = y.kind
  · simp only [h1, decide_true, beq_self_eq_true, Bool.not_true, Bool.false_eq_true, if_false, Sem.run_bind]
    rw [run_part1 Try.isAgg9 (v := .string x.path) rfl, Result.andThen_ok, run_part1 Try.isAgg9 (v := .string y.path) rfl, Result.andThen_ok, run_equalIn_string w _ 9 _ _ Try.underlying9, Result.andThen_ok, toList_eq]
    by_cases h2 : x.path = y.path
    · simp only [h2, decide_true, Bool.not_true, Bool.false_eq_true, if_false, Sem.run_bind]
      rw [run_part1 Try.isAgg3 (v := .int .i64 x.i) rfl, Result.andThen_ok, run_part1 Try.isAgg3 (v := .int .i64 y.i) rfl, Result.andThen_ok, run_equalIn_int w _ 3 _ _ _ _ Try.underlying3, Result.andThen_ok]
      by_cases h3 : x.i = y.i
      · simp [e, h1, h2, h3]
      · simp [e, h3]
    · simp [e, h2]
  · simp [h1, e]
section
variable {Q : Exit → Act → World → Prop} {w : World} {n : Nat} {l : List (Nat × Value)} {o : Oper}
theorem y_eq28 {s : Nat} {x y : Operand} {p q : Want} (ho : o.op = .binOp .eql 28 x y s) (hx : evl l x = some (.agg (encW p).toArray)) (hy : evl l y = some (.agg (encW q).toArray)) : Yl Try.prog o l w (.bool (decide (p = q))) w := fun n a F => by
  simp only [execOp, ho, F.ev hx, F.ev hy, Sem.run_bind, Sem.run_pure]
  rw [run_eqGuard_agg w _ _ _ _ _ _ Try.eqGuardType28, Result.andThen_ok, run_eql_struct, eqW p q 9997]
  rfl
end
set_option maxRecDepth 2000
set_option maxHeartbeats 1000000 in
theorem f9_c (w0 : World) : Calls Try.prog 9 [].toArray w0 (Ret fun v w' => v = .bool true ∧ Below w0.heap.size w0 w') := by
  refine ent Try.func9 Try.ntmps9 rfl rfl ?_
  intro a F
  have S := St.refl w0
  refine sq fun K1 hK1 => ?_
  refine rg ?_
  refine dv F (y_as rfl rfl) rfl rfl rfl fun a F => ?_
  refine dn ?_
  refine tn <| hK1 _ _ ?_
  refine sq fun K2 hK2 => ?_
  refine rg ?_
  refine dv F (y_bd rfl rfl (bdA7)) rfl rfl rfl fun a F => ?_
  refine dal F S rfl Try.zeroValue32 rfl rfl rfl rfl fun a w b1 F S => ?_
  refine dsw F S rfl rfl rfl Try.sizeOf32 (i := 0) rfl rfl (len32 _) rfl (one32 _) rfl rfl fun a w F S => ?_
  refine dn ?_
  refine tn <| hK2 _ _ ?_
  refine sq fun K3 hK3 => ?_
  refine rg ?_
  refine dv F (y_ld rfl rfl (S.lda (i := 0) rfl Try.isAgg32 Try.sizeOf32 (len32 _))) rfl rfl rfl fun a F => ?_
  refine dv F (y_bd rfl rfl (bdA9)) rfl rfl rfl fun a F => ?_
  refine dbs F S rfl rfl bsA rfl rfl rfl fun a w b10 F S => ?_
  refine dv F (y_ld rfl rfl (S.lda (i := 0) rfl Try.isAgg32 Try.sizeOf32 (len32 _))) rfl rfl rfl fun a F => ?_
  refine dv F (y_bd rfl rfl (bdA12)) rfl rfl rfl fun a F => ?_
  refine dbs F S rfl rfl bsM rfl rfl rfl fun a w b13 F S => ?_
  refine dv F (y_bd rfl rfl (bdA14)) rfl rfl rfl fun a F => ?_
  refine dbs F S rfl rfl bsT rfl rfl rfl fun a w b15 F S => ?_
  refine dv F (y_as rfl rfl) rfl rfl rfl fun a F => ?_
  refine dn ?_
  refine tn <| hK3 _ _ ?_
  refine sq fun K4 hK4 => ?_
  have hl : Trs w (some ⟨b15, 0, none⟩) [trA (some ⟨b10, 0, none⟩) (some ⟨b13, 0, none⟩)] := ⟨S.sl (i := 3) (xs := [trA (some ⟨b10, 0, none⟩) (some ⟨b13, 0, none⟩)]) rfl len35, fun x hx => by
      simp at hx; subst hx; exact ⟨S.sl (i := 1) (xs := [rA]) rfl len37, S.sl (i := 2) (xs := [mA]) rfl len58, Nat.le_refl 1, (by decide : 1 ≤ 140737488351232), (by decide : 1 ≤ 140737488351232)⟩⟩
  refine rp [.p, HK.v (.agg (encW (next [] [] ([trA (some ⟨b10, 0, none⟩) (some ⟨b13, 0, none⟩)].map TrV.t) 0)).toArray), .p, .p, .p, .p, .p, HK.v (.agg (encW (next [rA] [] ([trA (some ⟨b10, 0, none⟩) (some ⟨b13, 0, none⟩)].map TrV.t) 0)).toArray), .b 28 (mkP) [] (fun _ => [.int .i64 0, .string ⟨#[]⟩, .int .i64 0]), .b 28 (mkP) [] (fun _ => [.int .i64 0, .string ⟨#[]⟩, .int .i64 0])] 10 [[], [0], [], [], [3], [3, 4], [3, 4, 5], [0, 1, 2, 3, 4, 5, 6], [], []] [(0, _), (1, _), (2, _), (7, _), (8, _), (9, _), (10, _), (11, _), (12, _), (13, _), (14, _), (15, _)] F ⟨rfl, rfl, rfl, rfl, rfl, rfl, rfl, rfl, rfl, rfl, rfl, rfl, trivial⟩ Try.mixed (by kernel_rfl) rfl (.inr ⟨by decide, by kernel_rfl, by kernel_rfl⟩) (by kernel_rfl) ⟨?_, ?_, ?_, ?_, ?_, ?_, ?_, ?_, ?_, ?_, trivial⟩ fun a w1 J => ?_
  · intro a w1 hB F hA
    have S0 := S
    replace S := S.call hB
    exact pv F (fun w2 hB2 => have S := S.call hB2; y_mv rfl rfl) rfl rfl rfl (by decide)
  · intro a w1 hB F hA
    have S0 := S
    replace S := S.call hB
    replace F := F.eP (hA 0 (by decide)) rfl (d := 16) rfl rfl (y_mv rfl rfl)
    refine pcv F (c_f rfl rfl rfl Try.call11) rfl rfl ?_
    exact f11_c (A := some ⟨b15, 0, none⟩) (KA := none) (GA := none) (c := 1) (kc := 0) (gk := 0) [trA (some ⟨b10, 0, none⟩) (some ⟨b13, 0, none⟩)] [] [] _ (hl.below hB) (by simp) Sl.nil (by simp) Sl.nil (by simp)
  · intro a w1 hB F hA
    have S0 := S
    replace S := S.call hB
    exact pv F (fun w2 hB2 => have S := S.call hB2; y_mv rfl rfl) rfl rfl rfl (by decide)
  · intro a w1 hB F hA
    have S0 := S
    replace S := S.call hB
    exact pv F (fun w2 hB2 => have S := S.call hB2; y_mv rfl rfl) rfl rfl rfl (by decide)
  · intro a w1 hB F hA
    have S0 := S
    replace S := S.call hB
    replace F := F.eP (hA 3 (by decide)) rfl (d := 19) rfl rfl (y_mv rfl rfl)
    exact pv F (fun w2 hB2 => have S := S.call hB2; y_ia rfl rfl rfl rfl Try.underlying22 Try.sizeOf35 0 rfl (by decide)) rfl rfl rfl (by decide)
  · intro a w1 hB F hA
    have S0 := S
    replace S := S.call hB
    replace F := F.eP (hA 3 (by decide)) rfl (d := 19) rfl rfl (y_mv rfl rfl)
    replace F := F.eP (hA 4 (by decide)) rfl (d := 20) rfl rfl (y_ia rfl rfl rfl rfl Try.underlying22 Try.sizeOf35 0 rfl (by decide))
    exact pv F (fun w2 hB2 => have S := S.call hB2; y_fa rfl rfl fi35_1) rfl rfl rfl (by decide)
  · intro a w1 hB F hA
    have S0 := S
    replace S := S.call hB
    replace F := F.eP (hA 3 (by decide)) rfl (d := 19) rfl rfl (y_mv rfl rfl)
    replace F := F.eP (hA 4 (by decide)) rfl (d := 20) rfl rfl (y_ia rfl rfl rfl rfl Try.underlying22 Try.sizeOf35 0 rfl (by decide))
    replace F := F.eP (hA 5 (by decide)) rfl (d := 21) rfl rfl (y_fa rfl rfl fi35_1)
    exact pv F (fun w2 hB2 => have S := S.call hB2; y_ld rfl rfl (S.ld (i := 3) (j := 32) rfl rfl Try.isAgg23)) rfl rfl rfl (by decide)
  · intro a w1 hB F hA
    have S0 := S
    replace S := S.call hB
    replace F := F.eP (hA 0 (by decide)) rfl (d := 16) rfl rfl (y_mv rfl rfl)
    replace F := F.eV (P := Try.prog) (hA 1 (by decide)) rfl (d := 17) rfl rfl
    replace F := F.eP (hA 2 (by decide)) rfl (d := 18) rfl rfl (y_mv rfl rfl)
    replace F := F.eP (hA 3 (by decide)) rfl (d := 19) rfl rfl (y_mv rfl rfl)
    replace F := F.eP (hA 4 (by decide)) rfl (d := 20) rfl rfl (y_ia rfl rfl rfl rfl Try.underlying22 Try.sizeOf35 0 rfl (by decide))
    replace F := F.eP (hA 5 (by decide)) rfl (d := 21) rfl rfl (y_fa rfl rfl fi35_1)
    replace F := F.eP (hA 6 (by decide)) rfl (d := 22) rfl rfl (y_ld rfl rfl (S.ld (i := 3) (j := 32) rfl rfl Try.isAgg23))
    refine pcv F (c_f rfl rfl rfl Try.call11) rfl rfl ?_
    exact f11_c (A := some ⟨b15, 0, none⟩) (KA := (some ⟨b10, 0, none⟩)) (GA := none) (c := 1) (kc := 1) (gk := 0) [trA (some ⟨b10, 0, none⟩) (some ⟨b13, 0, none⟩)] [rA] [] _ (hl.below hB) (by simp) (((hl.below hB).ok _ (List.mem_singleton.2 rfl)).rd) (by simp) Sl.nil (by simp)
  · intro a w1 hB F hA
    have S0 := S
    replace S := S.call hB
    exact pb F rfl (y_al rfl Try.zeroValue28 rfl) (fun _ => rfl) rfl rfl rfl
  · intro a w1 hB F hA
    have S0 := S
    replace S := S.call hB
    exact pb F rfl (y_al rfl Try.zeroValue28 rfl) (fun _ => rfl) rfl rfl rfl
  have F := J.fr
  replace hl := hl.below J.bel
  have E := EX.start J S
  have hle := S.bel.size
  replace S := S.call J.bel
  replace F := F.eP (J.at 0 rfl) rfl (d := 16) rfl rfl (y_mv rfl rfl)
  replace F := F.eV (P := Try.prog) (J.at 1 rfl) rfl (d := 17) rfl rfl
  replace F := F.eP (J.at 2 rfl) rfl (d := 18) rfl rfl (y_mv rfl rfl)
  replace F := F.eP (J.at 3 rfl) rfl (d := 19) rfl rfl (y_mv rfl rfl)
  replace F := F.eP (J.at 4 rfl) rfl (d := 20) rfl rfl (y_ia rfl rfl rfl rfl Try.underlying22 Try.sizeOf35 0 rfl (by decide))
  replace F := F.eP (J.at 5 rfl) rfl (d := 21) rfl rfl (y_fa rfl rfl fi35_1)
  replace F := F.eP (J.at 6 rfl) rfl (d := 22) rfl rfl (y_ld rfl rfl (S.ld (i := 3) (j := 32) rfl rfl Try.isAgg23))
  replace F := F.eV (P := Try.prog) (J.at 7 rfl) rfl (d := 23) rfl rfl
  obtain ⟨b3, F, hb3, ho3⟩ := F.eB (P := Try.prog) (e := 28) (mk := mkP) (xs := []) (cs := fun _ => [.int .i64 0, .string ⟨#[]⟩, .int .i64 0]) (J.at 8 rfl) rfl (d := 3) rfl rfl rfl
  have E := EX.row J hle E 8 rfl rfl (d := 3) (e := 28) (cs := [.int .i64 0, .string ⟨#[]⟩, .int .i64 0]) rfl hb3 ho3
  obtain ⟨b4, F, hb4, ho4⟩ := F.eB (P := Try.prog) (e := 28) (mk := mkP) (xs := []) (cs := fun _ => [.int .i64 0, .string ⟨#[]⟩, .int .i64 0]) (J.at 9 rfl) rfl (d := 4) rfl rfl rfl
  have E := EX.row J hle E 9 rfl rfl (d := 4) (e := 28) (cs := [.int .i64 0, .string ⟨#[]⟩, .int .i64 0]) rfl hb4 ho4
  replace S := E.st
  clear E J
  refine dsw F S rfl rfl rfl Try.sizeOf28 (i := 4) rfl rfl rfl rfl (all1 rfl) rfl rfl fun a w F S => ?_
  refine dsw F S rfl rfl rfl Try.sizeOf28 (i := 5) rfl rfl rfl rfl (all1 rfl) rfl rfl fun a w F S => ?_
  refine dn ?_
  refine tn <| hK4 _ _ ?_
  refine sq fun K5 hK5 => ?_
  replace hl : Trs w (some ⟨b15, 0, none⟩) [trA (some ⟨b10, 0, none⟩) (some ⟨b13, 0, none⟩)] := ⟨S.sl (i := 3) (xs := [trA (some ⟨b10, 0, none⟩) (some ⟨b13, 0, none⟩)]) rfl len35, fun x hx => by
      simp at hx; subst hx; exact ⟨S.sl (i := 1) (xs := [rA]) rfl len37, S.sl (i := 2) (xs := [mA]) rfl len58, Nat.le_refl 1, (by decide : 1 ≤ 140737488351232), (by decide : 1 ≤ 140737488351232)⟩⟩
  refine rp [.p, .p, .b 37 (mkS 1) [.tmp 25] (fun vs => cellsOf (vs.getD 0 undef)), HK.v (.agg (encW (next [rB] [] ([trA (some ⟨b10, 0, none⟩) (some ⟨b13, 0, none⟩)].map TrV.t) 0)).toArray), .p, .p, .p, .p, .p, .p, .b 32 (mkS 1) [.tmp 33] (fun vs => cellsOf (vs.getD 0 undef)), HK.v (.agg (encW (next [rA] [dA] ([trA (some ⟨b10, 0, none⟩) (some ⟨b13, 0, none⟩)].map TrV.t) 0)).toArray), .b 28 (mkP) [] (fun _ => [.int .i64 0, .string ⟨#[]⟩, .int .i64 0]), .b 28 (mkP) [] (fun _ => [.int .i64 0, .string ⟨#[]⟩, .int .i64 0])] 14 [[], [], [1], [0, 1, 2], [], [], [5], [5, 6], [5, 6, 7], [], [9], [0, 1, 2, 3, 4, 5, 6, 7, 8, 9, 10], [], []] [(0, _), (1, _), (2, _), (3, _), (4, _), (7, _), (8, _), (9, _), (10, _), (11, _), (12, _), (13, _), (14, _), (15, _), (16, _), (17, _), (18, _), (19, _), (20, _), (21, _), (22, _), (23, _)] F ⟨rfl, rfl, rfl, rfl, rfl, rfl, rfl, rfl, rfl, rfl, rfl, rfl, rfl, rfl, rfl, rfl, rfl, rfl, rfl, rfl, rfl, rfl, trivial⟩ Try.mixed (by kernel_rfl) rfl (.inr ⟨by decide, by kernel_rfl, by kernel_rfl⟩) (by kernel_rfl) ⟨?_, ?_, ?_, ?_, ?_, ?_, ?_, ?_, ?_, ?_, ?_, ?_, ?_, ?_, trivial⟩ fun a w1 J => ?_
  · intro a w1 hB F hA
    have S0 := S
    replace S := S.call hB
    exact pv F (fun w2 hB2 => have S := S.call hB2; y_mv rfl rfl) rfl rfl rfl (by decide)
  · intro a w1 hB F hA
    have S0 := S
    replace S := S.call hB
    exact pv F (fun w2 hB2 => have S := S.call hB2; y_bd rfl rfl (bdB)) rfl rfl rfl (by decide)
  · intro a w1 hB F hA
    have S0 := S
    replace S := S.call hB
    replace F := F.eP (hA 1 (by decide)) rfl (d := 25) rfl rfl (y_bd rfl rfl (bdB))
    exact pb F rfl (y_bs rfl rfl bsB) (fun _ => rfl) rfl rfl rfl
  · intro a w1 hB F hA
    have S0 := S
    replace S := S.call hB
    replace F := F.eP (hA 0 (by decide)) rfl (d := 24) rfl rfl (y_mv rfl rfl)
    replace F := F.eP (hA 1 (by decide)) rfl (d := 25) rfl rfl (y_bd rfl rfl (bdB))
    obtain ⟨b26, F, hb26, ho26⟩ := F.eB (P := Try.prog) (e := 37) (mk := mkS 1) (xs := [.tmp 25]) (cs := fun vs => cellsOf (vs.getD 0 undef)) (hA 2 (by decide)) rfl (d := 26) rfl rfl rfl
    refine pcv F (c_f rfl rfl rfl Try.call11) rfl rfl ?_
    exact f11_c (A := some ⟨b15, 0, none⟩) (KA := (some ⟨b26, 0, none⟩)) (GA := none) (c := 1) (kc := 1) (gk := 0) [trA (some ⟨b10, 0, none⟩) (some ⟨b13, 0, none⟩)] [rB] [] _ (hl.below hB) (by simp) (rowSl (xs := [rB]) hb26 len37) (by simp) Sl.nil (by simp)
  · intro a w1 hB F hA
    have S0 := S
    replace S := S.call hB
    exact pv F (fun w2 hB2 => have S := S.call hB2; y_mv rfl rfl) rfl rfl rfl (by decide)
  · intro a w1 hB F hA
    have S0 := S
    replace S := S.call hB
    exact pv F (fun w2 hB2 => have S := S.call hB2; y_mv rfl rfl) rfl rfl rfl (by decide)
  · intro a w1 hB F hA
    have S0 := S
    replace S := S.call hB
    replace F := F.eP (hA 5 (by decide)) rfl (d := 29) rfl rfl (y_mv rfl rfl)
    exact pv F (fun w2 hB2 => have S := S.call hB2; y_ia rfl rfl rfl rfl Try.underlying22 Try.sizeOf35 0 rfl (by decide)) rfl rfl rfl (by decide)
  · intro a w1 hB F hA
    have S0 := S
    replace S := S.call hB
    replace F := F.eP (hA 5 (by decide)) rfl (d := 29) rfl rfl (y_mv rfl rfl)
    replace F := F.eP (hA 6 (by decide)) rfl (d := 30) rfl rfl (y_ia rfl rfl rfl rfl Try.underlying22 Try.sizeOf35 0 rfl (by decide))
    exact pv F (fun w2 hB2 => have S := S.call hB2; y_fa rfl rfl fi35_1) rfl rfl rfl (by decide)
  · intro a w1 hB F hA
    have S0 := S
    replace S := S.call hB
    replace F := F.eP (hA 5 (by decide)) rfl (d := 29) rfl rfl (y_mv rfl rfl)
    replace F := F.eP (hA 6 (by decide)) rfl (d := 30) rfl rfl (y_ia rfl rfl rfl rfl Try.underlying22 Try.sizeOf35 0 rfl (by decide))
    replace F := F.eP (hA 7 (by decide)) rfl (d := 31) rfl rfl (y_fa rfl rfl fi35_1)
    exact pv F (fun w2 hB2 => have S := S.call hB2; y_ld rfl rfl (S.ld (i := 3) (j := 32) rfl rfl Try.isAgg23)) rfl rfl rfl (by decide)
  · intro a w1 hB F hA
    have S0 := S
    replace S := S.call hB
    exact pv F (fun w2 hB2 => have S := S.call hB2; y_ld rfl rfl (S.lda (i := 0) rfl Try.isAgg32 Try.sizeOf32 (len32 _))) rfl rfl rfl (by decide)
  · intro a w1 hB F hA
    have S0 := S
    replace S := S.call hB
    replace F := F.eP (hA 9 (by decide)) rfl (d := 33) rfl rfl (y_ld rfl rfl (S.lda (i := 0) rfl Try.isAgg32 Try.sizeOf32 (len32 _)))
    exact pb F rfl (y_bs rfl rfl bsD) (fun _ => rfl) rfl rfl rfl
  · intro a w1 hB F hA
    have S0 := S
    replace S := S.call hB
    replace F := F.eP (hA 0 (by decide)) rfl (d := 24) rfl rfl (y_mv rfl rfl)
    replace F := F.eP (hA 1 (by decide)) rfl (d := 25) rfl rfl (y_bd rfl rfl (bdB))
    obtain ⟨b26, F, hb26, ho26⟩ := F.eB (P := Try.prog) (e := 37) (mk := mkS 1) (xs := [.tmp 25]) (cs := fun vs => cellsOf (vs.getD 0 undef)) (hA 2 (by decide)) rfl (d := 26) rfl rfl rfl
    replace F := F.eV (P := Try.prog) (hA 3 (by decide)) rfl (d := 27) rfl rfl
    replace F := F.eP (hA 4 (by decide)) rfl (d := 28) rfl rfl (y_mv rfl rfl)
    replace F := F.eP (hA 5 (by decide)) rfl (d := 29) rfl rfl (y_mv rfl rfl)
    replace F := F.eP (hA 6 (by decide)) rfl (d := 30) rfl rfl (y_ia rfl rfl rfl rfl Try.underlying22 Try.sizeOf35 0 rfl (by decide))
    replace F := F.eP (hA 7 (by decide)) rfl (d := 31) rfl rfl (y_fa rfl rfl fi35_1)
    replace F := F.eP (hA 8 (by decide)) rfl (d := 32) rfl rfl (y_ld rfl rfl (S.ld (i := 3) (j := 32) rfl rfl Try.isAgg23))
    replace F := F.eP (hA 9 (by decide)) rfl (d := 33) rfl rfl (y_ld rfl rfl (S.lda (i := 0) rfl Try.isAgg32 Try.sizeOf32 (len32 _)))
    obtain ⟨b34, F, hb34, ho34⟩ := F.eB (P := Try.prog) (e := 32) (mk := mkS 1) (xs := [.tmp 33]) (cs := fun vs => cellsOf (vs.getD 0 undef)) (hA 10 (by decide)) rfl (d := 34) rfl rfl rfl
    refine pcv F (c_f rfl rfl rfl Try.call11) rfl rfl ?_
    exact f11_c (A := some ⟨b15, 0, none⟩) (KA := (some ⟨b10, 0, none⟩)) (GA := (some ⟨b34, 0, none⟩)) (c := 1) (kc := 1) (gk := 1) [trA (some ⟨b10, 0, none⟩) (some ⟨b13, 0, none⟩)] [rA] [dA] _ (hl.below hB) (by simp) (((hl.below hB).ok _ (List.mem_singleton.2 rfl)).rd) (by simp) (rowSl (xs := [dA]) hb34 len32) (by simp)
  · intro a w1 hB F hA
    have S0 := S
    replace S := S.call hB
    exact pb F rfl (y_al rfl Try.zeroValue28 rfl) (fun _ => rfl) rfl rfl rfl
  · intro a w1 hB F hA
    have S0 := S
    replace S := S.call hB
    exact pb F rfl (y_al rfl Try.zeroValue28 rfl) (fun _ => rfl) rfl rfl rfl
  have F := J.fr
  replace hl := hl.below J.bel
  have E := EX.start J S
  have hle := S.bel.size
  replace S := S.call J.bel
  replace F := F.eP (J.at 0 rfl) rfl (d := 24) rfl rfl (y_mv rfl rfl)
  replace F := F.eP (J.at 1 rfl) rfl (d := 25) rfl rfl (y_bd rfl rfl (bdB))
  obtain ⟨b26, F, hb26, ho26⟩ := F.eB (P := Try.prog) (e := 37) (mk := mkS 1) (xs := [.tmp 25]) (cs := fun vs => cellsOf (vs.getD 0 undef)) (J.at 2 rfl) rfl (d := 26) rfl rfl rfl
  have E := EX.row J hle E 2 rfl rfl (d := 26) (e := 37) (cs := (encRd rB)) rfl hb26 ho26
  replace F := F.eV (P := Try.prog) (J.at 3 rfl) rfl (d := 27) rfl rfl
  replace F := F.eP (J.at 4 rfl) rfl (d := 28) rfl rfl (y_mv rfl rfl)
  replace F := F.eP (J.at 5 rfl) rfl (d := 29) rfl rfl (y_mv rfl rfl)
  replace F := F.eP (J.at 6 rfl) rfl (d := 30) rfl rfl (y_ia rfl rfl rfl rfl Try.underlying22 Try.sizeOf35 0 rfl (by decide))
  replace F := F.eP (J.at 7 rfl) rfl (d := 31) rfl rfl (y_fa rfl rfl fi35_1)
  replace F := F.eP (J.at 8 rfl) rfl (d := 32) rfl rfl (y_ld rfl rfl (S.ld (i := 3) (j := 32) rfl rfl Try.isAgg23))
  replace F := F.eP (J.at 9 rfl) rfl (d := 33) rfl rfl (y_ld rfl rfl (S.lda (i := 0) rfl Try.isAgg32 Try.sizeOf32 (len32 _)))
  obtain ⟨b34, F, hb34, ho34⟩ := F.eB (P := Try.prog) (e := 32) (mk := mkS 1) (xs := [.tmp 33]) (cs := fun vs => cellsOf (vs.getD 0 undef)) (J.at 10 rfl) rfl (d := 34) rfl rfl rfl
  have E := EX.row J hle E 10 rfl rfl (d := 34) (e := 32) (cs := (encD dA)) rfl hb34 ho34
  replace F := F.eV (P := Try.prog) (J.at 11 rfl) rfl (d := 35) rfl rfl
  obtain ⟨b5, F, hb5, ho5⟩ := F.eB (P := Try.prog) (e := 28) (mk := mkP) (xs := []) (cs := fun _ => [.int .i64 0, .string ⟨#[]⟩, .int .i64 0]) (J.at 12 rfl) rfl (d := 5) rfl rfl rfl
  have E := EX.row J hle E 12 rfl rfl (d := 5) (e := 28) (cs := [.int .i64 0, .string ⟨#[]⟩, .int .i64 0]) rfl hb5 ho5
  obtain ⟨b6, F, hb6, ho6⟩ := F.eB (P := Try.prog) (e := 28) (mk := mkP) (xs := []) (cs := fun _ => [.int .i64 0, .string ⟨#[]⟩, .int .i64 0]) (J.at 13 rfl) rfl (d := 6) rfl rfl rfl
  have E := EX.row J hle E 13 rfl rfl (d := 6) (e := 28) (cs := [.int .i64 0, .string ⟨#[]⟩, .int .i64 0]) rfl hb6 ho6
  replace S := E.st
  clear E J
  refine dsw F S rfl rfl rfl Try.sizeOf28 (i := 8) rfl rfl rfl rfl (all1 rfl) rfl rfl fun a w F S => ?_
  refine dsw F S rfl rfl rfl Try.sizeOf28 (i := 9) rfl rfl rfl rfl (all1 rfl) rfl rfl fun a w F S => ?_
  refine dn ?_
  refine tn <| hK5 _ _ ?_
  refine sq fun K6 hK6 => ?_
  refine rg ?_
  refine dv F (y_ld rfl rfl (S.lda (i := 4) rfl Try.isAgg28 Try.sizeOf28 rfl)) rfl rfl rfl fun a F => ?_
  refine dv F (y_bd rfl rfl (bd28_0_1)) rfl rfl rfl fun a F => ?_
  refine dv F (y_eq28 (p := next [] [] ([trA (some ⟨b10, 0, none⟩) (some ⟨b13, 0, none⟩)].map TrV.t) 0) (q := ⟨1, ⟨#[97]⟩, 0⟩) rfl rfl rfl) rfl rfl rfl fun a F => ?_
  refine dv F (y_mv rfl rfl) rfl rfl rfl fun a F => ?_
  refine gv F rfl rfl rfl (decide_eq_true nxA) (y_ld rfl rfl (S.lda (i := 5) rfl Try.isAgg28 Try.sizeOf28 rfl)) rfl rfl fun a F => ?_
  refine gv F rfl rfl rfl (decide_eq_true nxA) (y_bd rfl rfl (bd28_0)) rfl rfl fun a F => ?_
  refine gv F rfl rfl rfl (decide_eq_true nxA) (y_eq28 (p := next [rA] [] ([trA (some ⟨b10, 0, none⟩) (some ⟨b13, 0, none⟩)].map TrV.t) 0) (q := ⟨2, ⟨#[]⟩, 0⟩) rfl rfl rfl) rfl rfl fun a F => ?_
  refine dv F (y_pkt (decide_eq_true nxA) rfl rfl rfl) rfl rfl rfl fun a F => ?_
  refine dv F (y_mv rfl rfl) rfl rfl rfl fun a F => ?_
  refine gv F rfl rfl rfl (decide_eq_true nxB) (y_ld rfl rfl (S.lda (i := 8) rfl Try.isAgg28 Try.sizeOf28 rfl)) rfl rfl fun a F => ?_
  refine gv F rfl rfl rfl (decide_eq_true nxB) (y_bd rfl rfl (bd28_0)) rfl rfl fun a F => ?_
  refine gv F rfl rfl rfl (decide_eq_true nxB) (y_eq28 (p := next [rB] [] ([trA (some ⟨b10, 0, none⟩) (some ⟨b13, 0, none⟩)].map TrV.t) 0) (q := ⟨3, ⟨#[]⟩, 0⟩) rfl rfl rfl) rfl rfl fun a F => ?_
  refine dv F (y_pkt (decide_eq_true nxB) rfl rfl rfl) rfl rfl rfl fun a F => ?_
  refine dv F (y_mv rfl rfl) rfl rfl rfl fun a F => ?_
  refine gv F rfl rfl rfl (decide_eq_true nxC) (y_ld rfl rfl (S.lda (i := 9) rfl Try.isAgg28 Try.sizeOf28 rfl)) rfl rfl fun a F => ?_
  refine gv F rfl rfl rfl (decide_eq_true nxC) (y_bd rfl rfl (bd28_0)) rfl rfl fun a F => ?_
  refine gv F rfl rfl rfl (decide_eq_true nxC) (y_eq28 (p := next [rA] [dA] ([trA (some ⟨b10, 0, none⟩) (some ⟨b13, 0, none⟩)].map TrV.t) 0) (q := ⟨3, ⟨#[]⟩, 0⟩) rfl rfl rfl) rfl rfl fun a F => ?_
  refine dv F (y_pkt (decide_eq_true nxC) rfl rfl rfl) rfl rfl rfl fun a F => ?_
  refine dv F (y_as rfl rfl) rfl rfl rfl fun a F => ?_
  refine dn ?_
  refine tn <| hK6 _ _ ?_
  refine wp_ret ?_
  refine ?_
  exact rt1 F rfl rfl ⟨by rw [nxD]; rfl, S.bel⟩

end Go.Proofs.Ytpnhinbhhpeklaa
