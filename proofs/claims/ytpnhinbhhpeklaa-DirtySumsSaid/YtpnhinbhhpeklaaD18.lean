/- Walks of layer 2: the reference's block. -/
import Derived.Test.YtpnhinbhhpeklaaD17
set_option linter.unusedVariables false
set_option linter.unusedSimpArgs false
namespace Go.Proofs.Ytpnhinbhhpeklaa
open Go.RowKit Go.Eng DirtyPlain

open Sha
theorem bs86n (w : World) : (Instr.buildSlice 86 0 [].toArray).run Try.prog w = .ok (.slice (some ⟨w.heap.size, 0, none⟩) 0 0) (w.alloc (.cells [].toArray 85)) := by kernel_rfl
theorem bs86_8 {a b c d e f g h : Int} (w : World) : (Instr.buildSlice 86 8 [(0, .int .u32 a), (1, .int .u32 b), (2, .int .u32 c), (3, .int .u32 d), (4, .int .u32 e), (5, .int .u32 f), (6, .int .u32 g), (7, .int .u32 h)].toArray).run Try.prog w = .ok (.slice (some ⟨w.heap.size, 0, none⟩) 8 8) (w.alloc (.cells ([a, b, c, d, e, f, g, h].flatMap encU32).toArray 85)) := by kernel_rfl
theorem fin_take {s t : S8} {k : Nat} (hk : k < 8) : (fin s t).l.take (k + 1) = (fin s t).l.take k ++ [add (s.l.getD k 0) (t.l.getD k 0)] := by
  rcases k with _ | _ | _ | _ | _ | _ | _ | _ | k
  all_goals first | rfl | omega
theorem ldD {w : World} {A : Option Addr} {xs : List Int} {b o t : Nat} (h : Sl w 1 encU32 A xs) (e : A = some ⟨b, o, none⟩) (hA : ∀ w, (isAgg t).run Try.prog w = .ok false w) (j : Nat) (hj : j < xs.length) : Ld Try.prog w t ⟨b, o + j * 1, none⟩ (.int .u32 (xs.getD j 0)) :=
  Sl.ld1c h e hA j hj (by simp [encU32, hj])
theorem bs86 {i : Int} (w : World) : (Instr.buildSlice 86 1 [(0, .int .u32 i)].toArray).run Try.prog w = .ok (.slice (some ⟨w.heap.size, 0, none⟩) 1 1) (w.alloc (.cells [.int .u32 i].toArray 85)) := by kernel_rfl
section
variable {P : Program} {w : World} {l : List (Nat × Value)} {o : Oper}
theorem y_slr {N lo hi t e z : Nat} {x xl xh : Operand} {A : Option Addr} {n' c : Nat} {k k' : IntKind} {i j : Int} (ho : o.op = .slice t x (some xl) (some xh) none) (hx : evl l x = some (.slice A n' c)) (hl : evl l xl = some (.int k i)) (hh : evl l xh = some (.int k' j)) (hu : P.underlying t = some (.slice e)) (hz : ∀ w, (Go.sizeOf e).run P w = .ok z w)
    (hi' : i = (lo : Int)) (hj' : j = (hi : Int)) (hlo : lo ≤ hi) (hc : hi ≤ c) (hN : hi - lo = N) : Yl P o l w (.slice (if c = lo then A else A.map (·.add (lo * z))) N (c - lo)) w := fun n a F => by
  subst hi' hj' hN
  have e2 : (0 : Int) ≤ (lo : Int) ∧ (lo : Int) ≤ (hi : Int) := by omega
  have e3 : (0 : Int) ≤ (hi : Int) ∧ (hi : Int) ≤ (c : Int) := by omega
  simp [execOp, ho, F.ev hx, F.ev hl, F.ev hh, Instr.sliceAt, Instr.slice, Instr.sliceBounds, Instr.sliceBound, asIntOf, underlying, hu, hz, program, Sem.run, hc, hlo]
end
theorem _root_.Go.Eng.Sl.slr {α : Type} {w : World} {z c : Nat} {enc : α → List Value} {A : Option Addr} {xs : List α} (h : Sl w z enc A xs) (hc : xs.length ≤ c) (lo n : Nat) : Sl w z enc (if c = lo then A else A.map (·.add (lo * z))) ((xs.drop lo).take n) := fun hne => by
  have hx : xs ≠ [] := fun e => hne (by rw [e]; simp)
  obtain ⟨b, o, rfl, hb, hcell⟩ := h hx
  have hlo : lo < xs.length := by
    rcases Nat.lt_or_ge lo xs.length with h' | h'
    · exact h'
    · exact absurd (by rw [List.drop_eq_nil_of_le h']; simp) hne
  rw [if_neg (by omega)]
  refine ⟨b, o + lo * z, by simp [add_mk], hb, fun j x hj i u hu => ?_⟩
  have hj' : xs[lo + j]? = some x := by
    rw [List.getElem?_take] at hj
    split at hj
    · rw [List.getElem?_drop] at hj; exact hj
    · cases hj
  have := hcell (lo + j) x hj' i u hu
  rw [Nat.add_mul, ← Nat.add_assoc] at this
  exact this
theorem wordAt_at (bs : List Int) (hb : bs.length = 64) {k : Nat} (hq : ((bs.drop (4 * k)).take 4).length = 4) (hk : k < 16) : wordAt bs k = word (((bs.drop (4 * k)).take 4)[0]'(by omega)) (((bs.drop (4 * k)).take 4)[1]'(by omega)) (((bs.drop (4 * k)).take 4)[2]'(by omega)) (((bs.drop (4 * k)).take 4)[3]'(by omega)) := by
  have g : ∀ j (hj : j < 64), bs.getD j 0 = bs[j] := fun j hj => by simp [hb, hj]
  rw [wordAt, g _ (by omega), g _ (by omega), g _ (by omega), g _ (by omega)]
  simp
set_option maxRecDepth 4000
set_option maxHeartbeats 1000000 in
theorem f41_c {HA A : Option Addr} {hc c : Nat} (s : S8) (bs : List Int) (w0 : World) (hH : Sl w0 1 encU32 HA s.l) (hA : Sl w0 1 encU8 A bs) (hbl : bs.length = 64) (hcc : 64 ≤ c) (hr : ∀ b ∈ bs, 0 ≤ b ∧ b < 256) :
    Calls Try.prog 41 [.slice HA s.l.length hc, .slice A bs.length c].toArray w0 (Ret fun v w' => (∃ A' c', v = .slice A' (blk s (wpre bs 64)).l.length c' ∧ OwOk w' 85 1 A' c' 8 ((blk s (wpre bs 64)).l.flatMap encU32) ∧ ∀ k, v.ownBlock = some k → w0.heap.size ≤ k) ∧ Below w0.heap.size w0 w') := by
  refine ent Try.func41 Try.ntmps41 rfl rfl ?_
  intro a F
  have S := St.refl w0
  refine sq fun K1 hK1 => ?_
  refine rg ?_
  refine dv F (y_as rfl rfl) rfl rfl rfl fun a F => ?_
  refine dn ?_
  refine tn <| hK1 _ _ ?_
  refine sq fun K2 hK2 => ?_
  refine rg ?_
  refine dc F (c_f rfl rfl rfl Try.call44) rfl rfl rfl (f44_c _) fun a v w' hr F => ?_
  obtain ⟨⟨b18, rfl, hb1, hlo1⟩, hb2⟩ := hr
  replace S := S.callRow hb2 hb1 hlo1
  refine dv F (y_as rfl rfl) rfl rfl rfl fun a F => ?_
  refine dn ?_
  refine tn <| hK2 _ _ ?_
  refine sq fun K3 hK3 => ?_
  refine rg ?_
  refine dbs F S rfl rfl bs86n rfl rfl rfl fun a w b19 F S => ?_
  refine dv F (y_as rfl rfl) rfl rfl rfl fun a F => ?_
  refine dn ?_
  refine tn <| hK3 _ _ ?_
  refine sq fun K4 hK4 => ?_
  refine sq fun K5 hK5 => ?_
  replace S := ow_of_bk S (i := 1) (n := 0) (z := 1) rfl rfl (Nat.zero_le _)
  refine rg ?_
  refine dv F (y_as rfl rfl) rfl rfl rfl fun a F => ?_
  refine dn ?_
  refine tn <| hK5 _ _ ?_
  refine bl ?_
  refine lp (fun m a w => ∃ (k : Nat) (A6 : Option Addr) (c6 : Nat), m = 64 - k ∧ (k ≤ 64) ∧ Fr 196 a [(0, .slice HA s.l.length hc), (1, .slice A bs.length c), (5, .slice (some ⟨b18, 0, none⟩) 64 64), (6, .slice A6 (wpre bs k).length c6), (7, .int .i64 (k : Int))] ∧ St w0 w [bk b18 85 (K.flatMap encU32), ow 85 1 (.slice A6 (wpre bs k).length c6) (wpre bs k).length ((wpre bs k).flatMap encU32)]) (64) ?_ ?_
  · exact ⟨0, _, _, rfl, Nat.zero_le _, F.sub _ ⟨rfl, rfl, rfl, rfl, rfl, trivial⟩, S.pick [0, 1] _ ⟨rfl, rfl, trivial⟩ rfl⟩
  · rintro m a w ⟨k, A6, c6, hm, hk, F, S⟩
    refine sq fun K6 hK6 => ?_
    refine sq fun K7 hK7 => ?_
    refine rg ?_
    refine dv F (y_mv rfl rfl) rfl rfl rfl fun a F => ?_
    refine dv F (y_lt rfl rfl rfl) rfl rfl rfl fun a F => ?_
    refine dn ?_
    refine tn <| hK7 _ _ ?_
    refine cd F rfl (fun h1 => ?_) (fun h1 => ?_)
    · refine wp_skip ?_
      refine tn <| hK6 _ _ ?_
      refine sq fun K8 hK8 => ?_
      refine bl ?_
      refine sq fun K9 hK9 => ?_
      refine sq fun K10 hK10 => ?_
      refine rg ?_
      refine dv F (y_mv rfl rfl) rfl rfl rfl fun a F => ?_
      refine dv F (y_lt rfl rfl rfl) rfl rfl rfl fun a F => ?_
      refine dn ?_
      refine tn <| hK10 _ _ ?_
      refine cd F rfl (fun h2 => ?_) (fun h2 => ?_)
      · refine sq fun K11 hK11 => ?_
        have hq4 : ((bs.drop (4 * k)).take 4).length = 4 := by simp; omega
        refine rg ?_
        refine dv F (y_mv rfl rfl) rfl rfl rfl fun a F => ?_
        refine dv F (y_mv rfl rfl) rfl rfl rfl fun a F => ?_
        refine dv F (y_mv rfl rfl) rfl rfl rfl fun a F => ?_
        refine dv F (y_mul rfl rfl rfl (by omega)) rfl rfl rfl fun a F => ?_
        refine dv F (y_mv rfl rfl) rfl rfl rfl fun a F => ?_
        refine dv F (y_mul rfl rfl rfl (by omega)) rfl rfl rfl fun a F => ?_
        refine dv F (y_add rfl rfl rfl (by omega)) rfl rfl rfl fun a F => ?_
        refine dv F (y_slr (lo := 4 * k) (hi := 4 * k + 4) (N := ((bs.drop (4 * k)).take 4).length) rfl rfl rfl rfl Try.underlying87 Try.sizeOf5 (by omega) (by omega) (by omega) (by omega) (by omega)) rfl rfl rfl fun a F => ?_
        refine dc F (c_f rfl rfl rfl Try.call45) rfl rfl rfl (f45_c ((bs.drop (4 * k)).take 4) _ ((hA.st S).slr (by omega) (4 * k) 4) hq4) fun a v w' hr F => ?_
        obtain ⟨rfl, hb⟩ := hr
        replace S := S.call hb
        refine dbs F S rfl rfl bs86 rfl rfl rfl fun a w b35 F S => ?_
        refine dap F S rfl rfl rfl (i := 1) rfl (S.fl (i := 2) rfl) rfl one1 Try.underlying86 (by kernel_rfl : AI Try.prog 85 1 4 = true) rfl (N := (wpre bs (k + 1)).length) (XS := (wpre bs (k + 1)).flatMap encU32) (by rw [wpre_len, wpre_len]) (by rw [wpre_lo bs (by omega), List.flatMap_append, wordAt_at bs hbl hq4 (by omega)]; rfl) (by rw [wpre_len]; omega) (by rw [wpre_len]; omega) rfl rfl rfl fun a w A7 c7 F S => ?_
        refine dv F (y_as rfl rfl) rfl rfl rfl fun a F => ?_
        refine dn ?_
        refine tn <| hK11 _ _ ?_
        refine wp_exit ?_
        refine tx <| bh <| tn <| hK8 _ _ ?_
        refine rg ?_
        refine dv F (y_mv rfl rfl) rfl rfl rfl fun a F => ?_
        refine dv F (y_add rfl rfl rfl (by omega)) rfl rfl rfl fun a F => ?_
        refine dv F (y_as rfl rfl) rfl rfl rfl fun a F => ?_
        refine dn ?_
        exact ln (by omega) ⟨k + 1, _, _, rfl, by omega, F.sub _ ⟨rfl, rfl, rfl, rfl, rfl, trivial⟩, S.pick [0, 1] _ ⟨rfl, rfl, trivial⟩ rfl⟩
      · refine wp_skip ?_
        refine tn <| hK9 _ _ ?_
        refine sq fun K12 hK12 => ?_
        have h16 : 16 ≤ k := by omega
        obtain ⟨ab, ao, eA, hab, _⟩ := (S.ows (i := 1) rfl lenU32 (by decide)).at_ (j := 0) (by rw [wpre_len]; omega)
        refine rq (C := fun w => St _ w _) Try.mixed (by kernel_rfl) (S.drewN 1) ?_
        refine qv F (fun w S => y_mv rfl rfl) rfl rfl rfl fun a F => ?_
        refine qv F (fun w S => y_mv rfl rfl) rfl rfl rfl fun a F => ?_
        refine qv F (fun w S => y_sub rfl rfl rfl (by omega)) rfl rfl rfl fun a F => ?_
        refine qv F (fun w S => y_ia rfl rfl eA rfl Try.underlying86 Try.sizeOf85 (k - 15) (by omega) (by rw [wpre_len]; omega)) rfl rfl rfl fun a F => ?_
        refine qv F (fun w S => y_ld rfl rfl (Sl.ld1c (S.ows (i := 1) rfl lenU32 (by decide)) eA Try.isAgg85 (k - 15) (by rw [wpre_len]; omega) rfl)) rfl rfl rfl fun a F => ?_
        refine qv F (fun w S => y_mv rfl rfl) rfl rfl rfl fun a F => ?_
        refine qv F (fun w S => y_mv rfl rfl) rfl rfl rfl fun a F => ?_
        refine qv F (fun w S => y_sub rfl rfl rfl (by omega)) rfl rfl rfl fun a F => ?_
        refine qv F (fun w S => y_ia rfl rfl eA rfl Try.underlying86 Try.sizeOf85 (k - 2) (by omega) (by rw [wpre_len]; omega)) rfl rfl rfl fun a F => ?_
        refine qv F (fun w S => y_ld rfl rfl (Sl.ld1c (S.ows (i := 1) rfl lenU32 (by decide)) eA Try.isAgg85 (k - 2) (by rw [wpre_len]; omega) rfl)) rfl rfl rfl fun a F => ?_
        refine qv F (fun w S => y_as rfl rfl) rfl rfl rfl fun a F => ?_
        refine qv F (fun w S => y_as rfl rfl) rfl rfl rfl fun a F => ?_
        refine qn fun w S => ?_
        refine tn <| hK12 _ _ ?_
        obtain ⟨x8, hx8⟩ : ∃ x, ((wpre bs k)[k - 15]'(by rw [wpre_len]; omega)) = x := ⟨_, rfl⟩
        obtain ⟨x9, hx9⟩ : ∃ x, ((wpre bs k)[k - 2]'(by rw [wpre_len]; omega)) = x := ⟨_, rfl⟩
        rw [hx8, hx9] at F
        refine rp [.p, .p, .p, .p, .p, .p, .p, HK.v ((.int .u32 (rot x8 7))), .p, HK.v ((.int .u32 (rot x8 18))), .p, .p, .p, .p, .p, .p, .p, .p, .p, .p, .p, .p, HK.v ((.int .u32 (rot x9 17))), .p, HK.v ((.int .u32 (rot x9 19))), .p, .p, .p, .p, .p, .b 85 (mkS 1) [.tmp 76] (fun vs => cellsOf (vs.getD 0 undef))] 31 [[], [], [], [2], [1, 2, 3], [1, 2, 3, 4], [], [6], [], [6, 7, 8], [6, 7, 8, 9], [], [11], [6, 7, 8, 9, 10, 11, 12], [1, 2, 3, 4, 5, 6, 7, 8, 9, 10, 11, 12, 13], [], [], [16], [15, 16, 17], [15, 16, 17, 18], [1, 2, 3, 4, 5, 6, 7, 8, 9, 10, 11, 12, 13, 14, 15, 16, 17, 18, 19], [], [6, 7, 8, 9, 21], [], [6, 7, 8, 9, 21, 22, 23], [6, 7, 8, 9, 21, 22, 23, 24], [], [26], [6, 7, 8, 9, 21, 22, 23, 24, 25, 26, 27], [1, 2, 3, 4, 5, 6, 7, 8, 9, 10, 11, 12, 13, 14, 15, 16, 17, 18, 19, 20, 21, 22, 23, 24, 25, 26, 27, 28], [1, 2, 3, 4, 5, 6, 7, 8, 9, 10, 11, 12, 13, 14, 15, 16, 17, 18, 19, 20, 21, 22, 23, 24, 25, 26, 27, 28, 29]] [(0, _), (1, _), (5, _), (6, _), (7, _), (8, _), (9, _), (20, _), (21, _), (24, _), (25, _), (37, _), (38, _), (39, _), (40, _), (41, _), (42, _), (43, _), (44, _), (45, _), (46, _)] F ⟨rfl, rfl, rfl, rfl, rfl, rfl, rfl, rfl, rfl, rfl, rfl, rfl, rfl, rfl, rfl, rfl, rfl, rfl, rfl, rfl, rfl, trivial⟩ Try.mixed (by kernel_rfl) rfl (.inr ⟨by decide, by kernel_rfl, by kernel_rfl⟩) (by kernel_rfl) ⟨?_, ?_, ?_, ?_, ?_, ?_, ?_, ?_, ?_, ?_, ?_, ?_, ?_, ?_, ?_, ?_, ?_, ?_, ?_, ?_, ?_, ?_, ?_, ?_, ?_, ?_, ?_, ?_, ?_, ?_, ?_, trivial⟩ fun a w1 J => ?_
        · intro a w1 hB F hA
          have S0 := S
          replace S := S.call hB
          exact pv F (fun w2 hB2 => have S := S.call hB2; y_mv rfl rfl) rfl rfl rfl (by decide)
        · intro a w1 hB F hA
          have S0 := S
          replace S := S.call hB
          exact pv F (fun w2 hB2 => have S := S.call hB2; y_mv rfl rfl) rfl rfl rfl (by decide)
        · intro a w1 hB F hA
          have S0 := S
          replace S := S.call hB
          exact pv F (fun w2 hB2 => have S := S.call hB2; y_mv rfl rfl) rfl rfl rfl (by decide)
        · intro a w1 hB F hA
          have S0 := S
          replace S := S.call hB
          replace F := F.eP (hA 2 (by decide)) rfl (d := 49) rfl rfl (y_mv rfl rfl)
          exact pv F (fun w2 hB2 => have S := S.call hB2; y_sub rfl rfl rfl (by omega)) rfl rfl rfl (by decide)
        · intro a w1 hB F hA
          have S0 := S
          replace S := S.call hB
          replace F := F.eP (hA 1 (by decide)) rfl (d := 48) rfl rfl (y_mv rfl rfl)
          replace F := F.eP (hA 2 (by decide)) rfl (d := 49) rfl rfl (y_mv rfl rfl)
          replace F := F.eP (hA 3 (by decide)) rfl (d := 50) rfl rfl (y_sub rfl rfl rfl (by omega))
          exact pv F (fun w2 hB2 => have S := S.call hB2; y_ia rfl rfl eA rfl Try.underlying86 Try.sizeOf85 (k - 16) (by omega) (by rw [wpre_len]; omega)) rfl rfl rfl (by decide)
        · intro a w1 hB F hA
          have S0 := S
          replace S := S.call hB
          replace F := F.eP (hA 1 (by decide)) rfl (d := 48) rfl rfl (y_mv rfl rfl)
          replace F := F.eP (hA 2 (by decide)) rfl (d := 49) rfl rfl (y_mv rfl rfl)
          replace F := F.eP (hA 3 (by decide)) rfl (d := 50) rfl rfl (y_sub rfl rfl rfl (by omega))
          replace F := F.eP (hA 4 (by decide)) rfl (d := 51) rfl rfl (y_ia rfl rfl eA rfl Try.underlying86 Try.sizeOf85 (k - 16) (by omega) (by rw [wpre_len]; omega))
          exact pv F (fun w2 hB2 => have S := S.call hB2; y_ld rfl rfl (Sl.ld1c (S.ows (i := 1) rfl lenU32 (by decide)) eA Try.isAgg85 (k - 16) (by rw [wpre_len]; omega) rfl)) rfl rfl rfl (by decide)
        · intro a w1 hB F hA
          have S0 := S
          replace S := S.call hB
          exact pv F (fun w2 hB2 => have S := S.call hB2; y_mv rfl rfl) rfl rfl rfl (by decide)
        · intro a w1 hB F hA
          have S0 := S
          replace S := S.call hB
          replace F := F.eP (hA 6 (by decide)) rfl (d := 53) rfl rfl (y_mv rfl rfl)
          refine pcv F (c_f rfl rfl rfl Try.call46) rfl rfl ?_
          exact f46_c x8 7 (by decide) _
        · intro a w1 hB F hA
          have S0 := S
          replace S := S.call hB
          exact pv F (fun w2 hB2 => have S := S.call hB2; y_mv rfl rfl) rfl rfl rfl (by decide)
        · intro a w1 hB F hA
          have S0 := S
          replace S := S.call hB
          replace F := F.eP (hA 6 (by decide)) rfl (d := 53) rfl rfl (y_mv rfl rfl)
          replace F := F.eV (P := Try.prog) (hA 7 (by decide)) rfl (d := 54) rfl rfl
          replace F := F.eP (hA 8 (by decide)) rfl (d := 55) rfl rfl (y_mv rfl rfl)
          refine pcv F (c_f rfl rfl rfl Try.call46) rfl rfl ?_
          exact f46_c x8 18 (by decide) _
        · intro a w1 hB F hA
          have S0 := S
          replace S := S.call hB
          replace F := F.eP (hA 6 (by decide)) rfl (d := 53) rfl rfl (y_mv rfl rfl)
          replace F := F.eV (P := Try.prog) (hA 7 (by decide)) rfl (d := 54) rfl rfl
          replace F := F.eP (hA 8 (by decide)) rfl (d := 55) rfl rfl (y_mv rfl rfl)
          replace F := F.eV (P := Try.prog) (hA 9 (by decide)) rfl (d := 56) rfl rfl
          exact pv F (fun w2 hB2 => have S := S.call hB2; y_xor rfl rfl rfl) rfl rfl rfl (by decide)
        · intro a w1 hB F hA
          have S0 := S
          replace S := S.call hB
          exact pv F (fun w2 hB2 => have S := S.call hB2; y_mv rfl rfl) rfl rfl rfl (by decide)
        · intro a w1 hB F hA
          have S0 := S
          replace S := S.call hB
          replace F := F.eP (hA 11 (by decide)) rfl (d := 58) rfl rfl (y_mv rfl rfl)
          exact pv F (fun w2 hB2 => have S := S.call hB2; y_shr (m := 3) rfl rfl rfl rfl) rfl rfl rfl (by decide)
        · intro a w1 hB F hA
          have S0 := S
          replace S := S.call hB
          replace F := F.eP (hA 6 (by decide)) rfl (d := 53) rfl rfl (y_mv rfl rfl)
          replace F := F.eV (P := Try.prog) (hA 7 (by decide)) rfl (d := 54) rfl rfl
          replace F := F.eP (hA 8 (by decide)) rfl (d := 55) rfl rfl (y_mv rfl rfl)
          replace F := F.eV (P := Try.prog) (hA 9 (by decide)) rfl (d := 56) rfl rfl
          replace F := F.eP (hA 10 (by decide)) rfl (d := 57) rfl rfl (y_xor rfl rfl rfl)
          replace F := F.eP (hA 11 (by decide)) rfl (d := 58) rfl rfl (y_mv rfl rfl)
          replace F := F.eP (hA 12 (by decide)) rfl (d := 59) rfl rfl (y_shr (m := 3) rfl rfl rfl rfl)
          exact pv F (fun w2 hB2 => have S := S.call hB2; y_xor rfl rfl rfl) rfl rfl rfl (by decide)
        · intro a w1 hB F hA
          have S0 := S
          replace S := S.call hB
          replace F := F.eP (hA 1 (by decide)) rfl (d := 48) rfl rfl (y_mv rfl rfl)
          replace F := F.eP (hA 2 (by decide)) rfl (d := 49) rfl rfl (y_mv rfl rfl)
          replace F := F.eP (hA 3 (by decide)) rfl (d := 50) rfl rfl (y_sub rfl rfl rfl (by omega))
          replace F := F.eP (hA 4 (by decide)) rfl (d := 51) rfl rfl (y_ia rfl rfl eA rfl Try.underlying86 Try.sizeOf85 (k - 16) (by omega) (by rw [wpre_len]; omega))
          replace F := F.eP (hA 5 (by decide)) rfl (d := 52) rfl rfl (y_ld rfl rfl (Sl.ld1c (S.ows (i := 1) rfl lenU32 (by decide)) eA Try.isAgg85 (k - 16) (by rw [wpre_len]; omega) rfl))
          replace F := F.eP (hA 6 (by decide)) rfl (d := 53) rfl rfl (y_mv rfl rfl)
          replace F := F.eV (P := Try.prog) (hA 7 (by decide)) rfl (d := 54) rfl rfl
          replace F := F.eP (hA 8 (by decide)) rfl (d := 55) rfl rfl (y_mv rfl rfl)
          replace F := F.eV (P := Try.prog) (hA 9 (by decide)) rfl (d := 56) rfl rfl
          replace F := F.eP (hA 10 (by decide)) rfl (d := 57) rfl rfl (y_xor rfl rfl rfl)
          replace F := F.eP (hA 11 (by decide)) rfl (d := 58) rfl rfl (y_mv rfl rfl)
          replace F := F.eP (hA 12 (by decide)) rfl (d := 59) rfl rfl (y_shr (m := 3) rfl rfl rfl rfl)
          replace F := F.eP (hA 13 (by decide)) rfl (d := 60) rfl rfl (y_xor rfl rfl rfl)
          exact pv F (fun w2 hB2 => have S := S.call hB2; y_wa rfl rfl rfl) rfl rfl rfl (by decide)
        · intro a w1 hB F hA
          have S0 := S
          replace S := S.call hB
          exact pv F (fun w2 hB2 => have S := S.call hB2; y_mv rfl rfl) rfl rfl rfl (by decide)
        · intro a w1 hB F hA
          have S0 := S
          replace S := S.call hB
          exact pv F (fun w2 hB2 => have S := S.call hB2; y_mv rfl rfl) rfl rfl rfl (by decide)
        · intro a w1 hB F hA
          have S0 := S
          replace S := S.call hB
          replace F := F.eP (hA 16 (by decide)) rfl (d := 63) rfl rfl (y_mv rfl rfl)
          exact pv F (fun w2 hB2 => have S := S.call hB2; y_sub rfl rfl rfl (by omega)) rfl rfl rfl (by decide)
        · intro a w1 hB F hA
          have S0 := S
          replace S := S.call hB
          replace F := F.eP (hA 15 (by decide)) rfl (d := 62) rfl rfl (y_mv rfl rfl)
          replace F := F.eP (hA 16 (by decide)) rfl (d := 63) rfl rfl (y_mv rfl rfl)
          replace F := F.eP (hA 17 (by decide)) rfl (d := 64) rfl rfl (y_sub rfl rfl rfl (by omega))
          exact pv F (fun w2 hB2 => have S := S.call hB2; y_ia rfl rfl eA rfl Try.underlying86 Try.sizeOf85 (k - 7) (by omega) (by rw [wpre_len]; omega)) rfl rfl rfl (by decide)
        · intro a w1 hB F hA
          have S0 := S
          replace S := S.call hB
          replace F := F.eP (hA 15 (by decide)) rfl (d := 62) rfl rfl (y_mv rfl rfl)
          replace F := F.eP (hA 16 (by decide)) rfl (d := 63) rfl rfl (y_mv rfl rfl)
          replace F := F.eP (hA 17 (by decide)) rfl (d := 64) rfl rfl (y_sub rfl rfl rfl (by omega))
          replace F := F.eP (hA 18 (by decide)) rfl (d := 65) rfl rfl (y_ia rfl rfl eA rfl Try.underlying86 Try.sizeOf85 (k - 7) (by omega) (by rw [wpre_len]; omega))
          exact pv F (fun w2 hB2 => have S := S.call hB2; y_ld rfl rfl (Sl.ld1c (S.ows (i := 1) rfl lenU32 (by decide)) eA Try.isAgg85 (k - 7) (by rw [wpre_len]; omega) rfl)) rfl rfl rfl (by decide)
        · intro a w1 hB F hA
          have S0 := S
          replace S := S.call hB
          replace F := F.eP (hA 1 (by decide)) rfl (d := 48) rfl rfl (y_mv rfl rfl)
          replace F := F.eP (hA 2 (by decide)) rfl (d := 49) rfl rfl (y_mv rfl rfl)
          replace F := F.eP (hA 3 (by decide)) rfl (d := 50) rfl rfl (y_sub rfl rfl rfl (by omega))
          replace F := F.eP (hA 4 (by decide)) rfl (d := 51) rfl rfl (y_ia rfl rfl eA rfl Try.underlying86 Try.sizeOf85 (k - 16) (by omega) (by rw [wpre_len]; omega))
          replace F := F.eP (hA 5 (by decide)) rfl (d := 52) rfl rfl (y_ld rfl rfl (Sl.ld1c (S.ows (i := 1) rfl lenU32 (by decide)) eA Try.isAgg85 (k - 16) (by rw [wpre_len]; omega) rfl))
          replace F := F.eP (hA 6 (by decide)) rfl (d := 53) rfl rfl (y_mv rfl rfl)
          replace F := F.eV (P := Try.prog) (hA 7 (by decide)) rfl (d := 54) rfl rfl
          replace F := F.eP (hA 8 (by decide)) rfl (d := 55) rfl rfl (y_mv rfl rfl)
          replace F := F.eV (P := Try.prog) (hA 9 (by decide)) rfl (d := 56) rfl rfl
          replace F := F.eP (hA 10 (by decide)) rfl (d := 57) rfl rfl (y_xor rfl rfl rfl)
          replace F := F.eP (hA 11 (by decide)) rfl (d := 58) rfl rfl (y_mv rfl rfl)
          replace F := F.eP (hA 12 (by decide)) rfl (d := 59) rfl rfl (y_shr (m := 3) rfl rfl rfl rfl)
          replace F := F.eP (hA 13 (by decide)) rfl (d := 60) rfl rfl (y_xor rfl rfl rfl)
          replace F := F.eP (hA 14 (by decide)) rfl (d := 61) rfl rfl (y_wa rfl rfl rfl)
          replace F := F.eP (hA 15 (by decide)) rfl (d := 62) rfl rfl (y_mv rfl rfl)
          replace F := F.eP (hA 16 (by decide)) rfl (d := 63) rfl rfl (y_mv rfl rfl)
          replace F := F.eP (hA 17 (by decide)) rfl (d := 64) rfl rfl (y_sub rfl rfl rfl (by omega))
          replace F := F.eP (hA 18 (by decide)) rfl (d := 65) rfl rfl (y_ia rfl rfl eA rfl Try.underlying86 Try.sizeOf85 (k - 7) (by omega) (by rw [wpre_len]; omega))
          replace F := F.eP (hA 19 (by decide)) rfl (d := 66) rfl rfl (y_ld rfl rfl (Sl.ld1c (S.ows (i := 1) rfl lenU32 (by decide)) eA Try.isAgg85 (k - 7) (by rw [wpre_len]; omega) rfl))
          exact pv F (fun w2 hB2 => have S := S.call hB2; y_wa rfl rfl rfl) rfl rfl rfl (by decide)
        · intro a w1 hB F hA
          have S0 := S
          replace S := S.call hB
          exact pv F (fun w2 hB2 => have S := S.call hB2; y_mv rfl rfl) rfl rfl rfl (by decide)
        · intro a w1 hB F hA
          have S0 := S
          replace S := S.call hB
          replace F := F.eP (hA 6 (by decide)) rfl (d := 53) rfl rfl (y_mv rfl rfl)
          replace F := F.eV (P := Try.prog) (hA 7 (by decide)) rfl (d := 54) rfl rfl
          replace F := F.eP (hA 8 (by decide)) rfl (d := 55) rfl rfl (y_mv rfl rfl)
          replace F := F.eV (P := Try.prog) (hA 9 (by decide)) rfl (d := 56) rfl rfl
          replace F := F.eP (hA 21 (by decide)) rfl (d := 68) rfl rfl (y_mv rfl rfl)
          refine pcv F (c_f rfl rfl rfl Try.call46) rfl rfl ?_
          exact f46_c x9 17 (by decide) _
        · intro a w1 hB F hA
          have S0 := S
          replace S := S.call hB
          exact pv F (fun w2 hB2 => have S := S.call hB2; y_mv rfl rfl) rfl rfl rfl (by decide)
        · intro a w1 hB F hA
          have S0 := S
          replace S := S.call hB
          replace F := F.eP (hA 6 (by decide)) rfl (d := 53) rfl rfl (y_mv rfl rfl)
          replace F := F.eV (P := Try.prog) (hA 7 (by decide)) rfl (d := 54) rfl rfl
          replace F := F.eP (hA 8 (by decide)) rfl (d := 55) rfl rfl (y_mv rfl rfl)
          replace F := F.eV (P := Try.prog) (hA 9 (by decide)) rfl (d := 56) rfl rfl
          replace F := F.eP (hA 21 (by decide)) rfl (d := 68) rfl rfl (y_mv rfl rfl)
          replace F := F.eV (P := Try.prog) (hA 22 (by decide)) rfl (d := 69) rfl rfl
          replace F := F.eP (hA 23 (by decide)) rfl (d := 70) rfl rfl (y_mv rfl rfl)
          refine pcv F (c_f rfl rfl rfl Try.call46) rfl rfl ?_
          exact f46_c x9 19 (by decide) _
        · intro a w1 hB F hA
          have S0 := S
          replace S := S.call hB
          replace F := F.eP (hA 6 (by decide)) rfl (d := 53) rfl rfl (y_mv rfl rfl)
          replace F := F.eV (P := Try.prog) (hA 7 (by decide)) rfl (d := 54) rfl rfl
          replace F := F.eP (hA 8 (by decide)) rfl (d := 55) rfl rfl (y_mv rfl rfl)
          replace F := F.eV (P := Try.prog) (hA 9 (by decide)) rfl (d := 56) rfl rfl
          replace F := F.eP (hA 21 (by decide)) rfl (d := 68) rfl rfl (y_mv rfl rfl)
          replace F := F.eV (P := Try.prog) (hA 22 (by decide)) rfl (d := 69) rfl rfl
          replace F := F.eP (hA 23 (by decide)) rfl (d := 70) rfl rfl (y_mv rfl rfl)
          replace F := F.eV (P := Try.prog) (hA 24 (by decide)) rfl (d := 71) rfl rfl
          exact pv F (fun w2 hB2 => have S := S.call hB2; y_xor rfl rfl rfl) rfl rfl rfl (by decide)
        · intro a w1 hB F hA
          have S0 := S
          replace S := S.call hB
          exact pv F (fun w2 hB2 => have S := S.call hB2; y_mv rfl rfl) rfl rfl rfl (by decide)
        · intro a w1 hB F hA
          have S0 := S
          replace S := S.call hB
          replace F := F.eP (hA 26 (by decide)) rfl (d := 73) rfl rfl (y_mv rfl rfl)
          exact pv F (fun w2 hB2 => have S := S.call hB2; y_shr (m := 10) rfl rfl rfl rfl) rfl rfl rfl (by decide)
        · intro a w1 hB F hA
          have S0 := S
          replace S := S.call hB
          replace F := F.eP (hA 6 (by decide)) rfl (d := 53) rfl rfl (y_mv rfl rfl)
          replace F := F.eV (P := Try.prog) (hA 7 (by decide)) rfl (d := 54) rfl rfl
          replace F := F.eP (hA 8 (by decide)) rfl (d := 55) rfl rfl (y_mv rfl rfl)
          replace F := F.eV (P := Try.prog) (hA 9 (by decide)) rfl (d := 56) rfl rfl
          replace F := F.eP (hA 21 (by decide)) rfl (d := 68) rfl rfl (y_mv rfl rfl)
          replace F := F.eV (P := Try.prog) (hA 22 (by decide)) rfl (d := 69) rfl rfl
          replace F := F.eP (hA 23 (by decide)) rfl (d := 70) rfl rfl (y_mv rfl rfl)
          replace F := F.eV (P := Try.prog) (hA 24 (by decide)) rfl (d := 71) rfl rfl
          replace F := F.eP (hA 25 (by decide)) rfl (d := 72) rfl rfl (y_xor rfl rfl rfl)
          replace F := F.eP (hA 26 (by decide)) rfl (d := 73) rfl rfl (y_mv rfl rfl)
          replace F := F.eP (hA 27 (by decide)) rfl (d := 74) rfl rfl (y_shr (m := 10) rfl rfl rfl rfl)
          exact pv F (fun w2 hB2 => have S := S.call hB2; y_xor rfl rfl rfl) rfl rfl rfl (by decide)
        · intro a w1 hB F hA
          have S0 := S
          replace S := S.call hB
          replace F := F.eP (hA 1 (by decide)) rfl (d := 48) rfl rfl (y_mv rfl rfl)
          replace F := F.eP (hA 2 (by decide)) rfl (d := 49) rfl rfl (y_mv rfl rfl)
          replace F := F.eP (hA 3 (by decide)) rfl (d := 50) rfl rfl (y_sub rfl rfl rfl (by omega))
          replace F := F.eP (hA 4 (by decide)) rfl (d := 51) rfl rfl (y_ia rfl rfl eA rfl Try.underlying86 Try.sizeOf85 (k - 16) (by omega) (by rw [wpre_len]; omega))
          replace F := F.eP (hA 5 (by decide)) rfl (d := 52) rfl rfl (y_ld rfl rfl (Sl.ld1c (S.ows (i := 1) rfl lenU32 (by decide)) eA Try.isAgg85 (k - 16) (by rw [wpre_len]; omega) rfl))
          replace F := F.eP (hA 6 (by decide)) rfl (d := 53) rfl rfl (y_mv rfl rfl)
          replace F := F.eV (P := Try.prog) (hA 7 (by decide)) rfl (d := 54) rfl rfl
          replace F := F.eP (hA 8 (by decide)) rfl (d := 55) rfl rfl (y_mv rfl rfl)
          replace F := F.eV (P := Try.prog) (hA 9 (by decide)) rfl (d := 56) rfl rfl
          replace F := F.eP (hA 10 (by decide)) rfl (d := 57) rfl rfl (y_xor rfl rfl rfl)
          replace F := F.eP (hA 11 (by decide)) rfl (d := 58) rfl rfl (y_mv rfl rfl)
          replace F := F.eP (hA 12 (by decide)) rfl (d := 59) rfl rfl (y_shr (m := 3) rfl rfl rfl rfl)
          replace F := F.eP (hA 13 (by decide)) rfl (d := 60) rfl rfl (y_xor rfl rfl rfl)
          replace F := F.eP (hA 14 (by decide)) rfl (d := 61) rfl rfl (y_wa rfl rfl rfl)
          replace F := F.eP (hA 15 (by decide)) rfl (d := 62) rfl rfl (y_mv rfl rfl)
          replace F := F.eP (hA 16 (by decide)) rfl (d := 63) rfl rfl (y_mv rfl rfl)
          replace F := F.eP (hA 17 (by decide)) rfl (d := 64) rfl rfl (y_sub rfl rfl rfl (by omega))
          replace F := F.eP (hA 18 (by decide)) rfl (d := 65) rfl rfl (y_ia rfl rfl eA rfl Try.underlying86 Try.sizeOf85 (k - 7) (by omega) (by rw [wpre_len]; omega))
          replace F := F.eP (hA 19 (by decide)) rfl (d := 66) rfl rfl (y_ld rfl rfl (Sl.ld1c (S.ows (i := 1) rfl lenU32 (by decide)) eA Try.isAgg85 (k - 7) (by rw [wpre_len]; omega) rfl))
          replace F := F.eP (hA 20 (by decide)) rfl (d := 67) rfl rfl (y_wa rfl rfl rfl)
          replace F := F.eP (hA 21 (by decide)) rfl (d := 68) rfl rfl (y_mv rfl rfl)
          replace F := F.eV (P := Try.prog) (hA 22 (by decide)) rfl (d := 69) rfl rfl
          replace F := F.eP (hA 23 (by decide)) rfl (d := 70) rfl rfl (y_mv rfl rfl)
          replace F := F.eV (P := Try.prog) (hA 24 (by decide)) rfl (d := 71) rfl rfl
          replace F := F.eP (hA 25 (by decide)) rfl (d := 72) rfl rfl (y_xor rfl rfl rfl)
          replace F := F.eP (hA 26 (by decide)) rfl (d := 73) rfl rfl (y_mv rfl rfl)
          replace F := F.eP (hA 27 (by decide)) rfl (d := 74) rfl rfl (y_shr (m := 10) rfl rfl rfl rfl)
          replace F := F.eP (hA 28 (by decide)) rfl (d := 75) rfl rfl (y_xor rfl rfl rfl)
          exact pv F (fun w2 hB2 => have S := S.call hB2; y_wa rfl rfl rfl) rfl rfl rfl (by decide)
        · intro a w1 hB F hA
          have S0 := S
          replace S := S.call hB
          replace F := F.eP (hA 1 (by decide)) rfl (d := 48) rfl rfl (y_mv rfl rfl)
          replace F := F.eP (hA 2 (by decide)) rfl (d := 49) rfl rfl (y_mv rfl rfl)
          replace F := F.eP (hA 3 (by decide)) rfl (d := 50) rfl rfl (y_sub rfl rfl rfl (by omega))
          replace F := F.eP (hA 4 (by decide)) rfl (d := 51) rfl rfl (y_ia rfl rfl eA rfl Try.underlying86 Try.sizeOf85 (k - 16) (by omega) (by rw [wpre_len]; omega))
          replace F := F.eP (hA 5 (by decide)) rfl (d := 52) rfl rfl (y_ld rfl rfl (Sl.ld1c (S.ows (i := 1) rfl lenU32 (by decide)) eA Try.isAgg85 (k - 16) (by rw [wpre_len]; omega) rfl))
          replace F := F.eP (hA 6 (by decide)) rfl (d := 53) rfl rfl (y_mv rfl rfl)
          replace F := F.eV (P := Try.prog) (hA 7 (by decide)) rfl (d := 54) rfl rfl
          replace F := F.eP (hA 8 (by decide)) rfl (d := 55) rfl rfl (y_mv rfl rfl)
          replace F := F.eV (P := Try.prog) (hA 9 (by decide)) rfl (d := 56) rfl rfl
          replace F := F.eP (hA 10 (by decide)) rfl (d := 57) rfl rfl (y_xor rfl rfl rfl)
          replace F := F.eP (hA 11 (by decide)) rfl (d := 58) rfl rfl (y_mv rfl rfl)
          replace F := F.eP (hA 12 (by decide)) rfl (d := 59) rfl rfl (y_shr (m := 3) rfl rfl rfl rfl)
          replace F := F.eP (hA 13 (by decide)) rfl (d := 60) rfl rfl (y_xor rfl rfl rfl)
          replace F := F.eP (hA 14 (by decide)) rfl (d := 61) rfl rfl (y_wa rfl rfl rfl)
          replace F := F.eP (hA 15 (by decide)) rfl (d := 62) rfl rfl (y_mv rfl rfl)
          replace F := F.eP (hA 16 (by decide)) rfl (d := 63) rfl rfl (y_mv rfl rfl)
          replace F := F.eP (hA 17 (by decide)) rfl (d := 64) rfl rfl (y_sub rfl rfl rfl (by omega))
          replace F := F.eP (hA 18 (by decide)) rfl (d := 65) rfl rfl (y_ia rfl rfl eA rfl Try.underlying86 Try.sizeOf85 (k - 7) (by omega) (by rw [wpre_len]; omega))
          replace F := F.eP (hA 19 (by decide)) rfl (d := 66) rfl rfl (y_ld rfl rfl (Sl.ld1c (S.ows (i := 1) rfl lenU32 (by decide)) eA Try.isAgg85 (k - 7) (by rw [wpre_len]; omega) rfl))
          replace F := F.eP (hA 20 (by decide)) rfl (d := 67) rfl rfl (y_wa rfl rfl rfl)
          replace F := F.eP (hA 21 (by decide)) rfl (d := 68) rfl rfl (y_mv rfl rfl)
          replace F := F.eV (P := Try.prog) (hA 22 (by decide)) rfl (d := 69) rfl rfl
          replace F := F.eP (hA 23 (by decide)) rfl (d := 70) rfl rfl (y_mv rfl rfl)
          replace F := F.eV (P := Try.prog) (hA 24 (by decide)) rfl (d := 71) rfl rfl
          replace F := F.eP (hA 25 (by decide)) rfl (d := 72) rfl rfl (y_xor rfl rfl rfl)
          replace F := F.eP (hA 26 (by decide)) rfl (d := 73) rfl rfl (y_mv rfl rfl)
          replace F := F.eP (hA 27 (by decide)) rfl (d := 74) rfl rfl (y_shr (m := 10) rfl rfl rfl rfl)
          replace F := F.eP (hA 28 (by decide)) rfl (d := 75) rfl rfl (y_xor rfl rfl rfl)
          replace F := F.eP (hA 29 (by decide)) rfl (d := 76) rfl rfl (y_wa rfl rfl rfl)
          exact pb F rfl (y_bs rfl rfl bs86) (fun _ => rfl) rfl rfl rfl
        have F := J.fr
        have E := EX.start J S
        have hle := S.bel.size
        replace S := S.call J.bel
        replace F := F.eP (J.at 0 rfl) rfl (d := 47) rfl rfl (y_mv rfl rfl)
        replace F := F.eP (J.at 1 rfl) rfl (d := 48) rfl rfl (y_mv rfl rfl)
        replace F := F.eP (J.at 2 rfl) rfl (d := 49) rfl rfl (y_mv rfl rfl)
        replace F := F.eP (J.at 3 rfl) rfl (d := 50) rfl rfl (y_sub rfl rfl rfl (by omega))
        replace F := F.eP (J.at 4 rfl) rfl (d := 51) rfl rfl (y_ia rfl rfl eA rfl Try.underlying86 Try.sizeOf85 (k - 16) (by omega) (by rw [wpre_len]; omega))
        replace F := F.eP (J.at 5 rfl) rfl (d := 52) rfl rfl (y_ld rfl rfl (Sl.ld1c (S.ows (i := 1) rfl lenU32 (by decide)) eA Try.isAgg85 (k - 16) (by rw [wpre_len]; omega) rfl))
        replace F := F.eP (J.at 6 rfl) rfl (d := 53) rfl rfl (y_mv rfl rfl)
        replace F := F.eV (P := Try.prog) (J.at 7 rfl) rfl (d := 54) rfl rfl
        replace F := F.eP (J.at 8 rfl) rfl (d := 55) rfl rfl (y_mv rfl rfl)
        replace F := F.eV (P := Try.prog) (J.at 9 rfl) rfl (d := 56) rfl rfl
        replace F := F.eP (J.at 10 rfl) rfl (d := 57) rfl rfl (y_xor rfl rfl rfl)
        replace F := F.eP (J.at 11 rfl) rfl (d := 58) rfl rfl (y_mv rfl rfl)
        replace F := F.eP (J.at 12 rfl) rfl (d := 59) rfl rfl (y_shr (m := 3) rfl rfl rfl rfl)
        replace F := F.eP (J.at 13 rfl) rfl (d := 60) rfl rfl (y_xor rfl rfl rfl)
        replace F := F.eP (J.at 14 rfl) rfl (d := 61) rfl rfl (y_wa rfl rfl rfl)
        replace F := F.eP (J.at 15 rfl) rfl (d := 62) rfl rfl (y_mv rfl rfl)
        replace F := F.eP (J.at 16 rfl) rfl (d := 63) rfl rfl (y_mv rfl rfl)
        replace F := F.eP (J.at 17 rfl) rfl (d := 64) rfl rfl (y_sub rfl rfl rfl (by omega))
        replace F := F.eP (J.at 18 rfl) rfl (d := 65) rfl rfl (y_ia rfl rfl eA rfl Try.underlying86 Try.sizeOf85 (k - 7) (by omega) (by rw [wpre_len]; omega))
        replace F := F.eP (J.at 19 rfl) rfl (d := 66) rfl rfl (y_ld rfl rfl (Sl.ld1c (S.ows (i := 1) rfl lenU32 (by decide)) eA Try.isAgg85 (k - 7) (by rw [wpre_len]; omega) rfl))
        replace F := F.eP (J.at 20 rfl) rfl (d := 67) rfl rfl (y_wa rfl rfl rfl)
        replace F := F.eP (J.at 21 rfl) rfl (d := 68) rfl rfl (y_mv rfl rfl)
        replace F := F.eV (P := Try.prog) (J.at 22 rfl) rfl (d := 69) rfl rfl
        replace F := F.eP (J.at 23 rfl) rfl (d := 70) rfl rfl (y_mv rfl rfl)
        replace F := F.eV (P := Try.prog) (J.at 24 rfl) rfl (d := 71) rfl rfl
        replace F := F.eP (J.at 25 rfl) rfl (d := 72) rfl rfl (y_xor rfl rfl rfl)
        replace F := F.eP (J.at 26 rfl) rfl (d := 73) rfl rfl (y_mv rfl rfl)
        replace F := F.eP (J.at 27 rfl) rfl (d := 74) rfl rfl (y_shr (m := 10) rfl rfl rfl rfl)
        replace F := F.eP (J.at 28 rfl) rfl (d := 75) rfl rfl (y_xor rfl rfl rfl)
        replace F := F.eP (J.at 29 rfl) rfl (d := 76) rfl rfl (y_wa rfl rfl rfl)
        obtain ⟨b77, F, hb77, ho77⟩ := F.eB (P := Try.prog) (e := 85) (mk := mkS 1) (xs := [.tmp 76]) (cs := fun vs => cellsOf (vs.getD 0 undef)) (J.at 30 rfl) rfl (d := 77) rfl rfl rfl
        have E := EX.row J hle E 30 rfl rfl (d := 77) (e := 85) (cs := [Value.int .u32 (add (add (add ((wpre bs k)[k - 16]'(by rw [wpre_len]; omega)) (s0 x8)) ((wpre bs k)[k - 7]'(by rw [wpre_len]; omega))) (s1 x9))]) rfl hb77 ho77
        replace S := E.st
        clear E J
        refine dap F S rfl rfl rfl (i := 1) rfl (S.fl (i := 2) rfl) rfl one1 Try.underlying86 (by kernel_rfl : AI Try.prog 85 1 4 = true) rfl (N := (wpre bs (k + 1)).length) (XS := (wpre bs (k + 1)).flatMap encU32) (by rw [wpre_len, wpre_len]) (by rw [wpre_hi bs h16, nx_at _ (by rw [wpre_len]; omega), List.flatMap_append]; simp only [wpre_len]; rw [hx8, hx9] <;> rfl) (by rw [wpre_len]; omega) (by rw [wpre_len]; omega) rfl rfl rfl fun a w A7 c7 F S => ?_
        refine dv F (y_as rfl rfl) rfl rfl rfl fun a F => ?_
        refine dn ?_
        refine bn <| tn <| hK8 _ _ ?_
        refine rg ?_
        refine dv F (y_mv rfl rfl) rfl rfl rfl fun a F => ?_
        refine dv F (y_add rfl rfl rfl (by omega)) rfl rfl rfl fun a F => ?_
        refine dv F (y_as rfl rfl) rfl rfl rfl fun a F => ?_
        refine dn ?_
        exact ln (by omega) ⟨k + 1, _, _, rfl, by omega, F.sub _ ⟨rfl, rfl, rfl, rfl, rfl, trivial⟩, S.pick [0, 1] _ ⟨rfl, rfl, trivial⟩ rfl⟩
    · refine wp_exit ?_
      refine tx <| lx <| bh <| tn <| hK4 _ _ ?_
      refine sq fun K13 hK13 => ?_
      obtain rfl : k = 64 := by omega
      obtain ⟨W, hW⟩ : ∃ W, W = wpre bs 64 := ⟨_, rfl⟩
      have hWl : W.length = 64 := by rw [hW, wpre_len]
      rw [← hW] at F S
      refine rg ?_
      refine dbs F S rfl rfl bs86n rfl rfl rfl fun a w b79 F S => ?_
      refine dv F (y_mv rfl rfl) rfl rfl rfl fun a F => ?_
      replace S := ow_of_bk S (i := 2) (n := 0) (z := 1) rfl rfl (Nat.zero_le _)
      refine dap F S rfl rfl rfl (i := 2) rfl ((hH.st S).fl lenU32) (flat_len lenU32 _) (allflat one_U32 _) Try.underlying86 (by kernel_rfl : AI Try.prog 85 1 4 = true) rfl (N := 8) (XS := s.l.flatMap encU32) rfl rfl (by decide) (by decide) rfl rfl rfl fun a w A9 c9 F S => ?_
      refine dv F (y_as rfl rfl) rfl rfl rfl fun a F => ?_
      refine dn ?_
      refine tn <| hK13 _ _ ?_
      refine sq fun K14 hK14 => ?_
      refine sq fun K15 hK15 => ?_
      refine rg ?_
      refine dv F (y_as rfl rfl) rfl rfl rfl fun a F => ?_
      refine dn ?_
      refine tn <| hK15 _ _ ?_
      refine bl ?_
      refine lp (fun m a w => ∃ (k : Nat) (A10 : Option Addr) (c10 : Nat), m = 64 - k ∧ (k ≤ 64) ∧ Fr 196 a [(0, .slice HA s.l.length hc), (1, .slice A bs.length c), (5, .slice (some ⟨b18, 0, none⟩) 64 64), (6, .slice A6 W.length c6), (10, .slice A10 8 c10), (11, .int .i64 (k : Int))] ∧ St w0 w [bk b18 85 (K.flatMap encU32), ow 85 1 (.slice A6 (W).length c6) (W).length ((W).flatMap encU32), ow 85 1 (.slice A10 8 c10) 8 ((rnds W s k).l.flatMap encU32)]) (64) ?_ ?_
      · exact ⟨0, _, _, rfl, Nat.zero_le _, F.sub _ ⟨rfl, rfl, rfl, rfl, rfl, rfl, trivial⟩, S.pick [0, 1, 2] _ ⟨rfl, rfl, rfl, trivial⟩ rfl⟩
      · rintro m a w ⟨k, A10, c10, hm, hk, F, S⟩
        refine sq fun K16 hK16 => ?_
        refine sq fun K17 hK17 => ?_
        refine rg ?_
        refine dv F (y_mv rfl rfl) rfl rfl rfl fun a F => ?_
        refine dv F (y_lt rfl rfl rfl) rfl rfl rfl fun a F => ?_
        refine dn ?_
        refine tn <| hK17 _ _ ?_
        refine cd F rfl (fun h3 => ?_) (fun h3 => ?_)
        · refine wp_skip ?_
          refine tn <| hK16 _ _ ?_
          refine sq fun K18 hK18 => ?_
          refine bl ?_
          refine sq fun K19 hK19 => ?_
          have hk2 : k < 64 := by omega
          obtain ⟨tb, to, eT, htb, _⟩ := (S.ows (i := 2) (ys := (rnds W s k).l) rfl lenU32 (by decide)).at_ (j := 0) (show 0 < 8 by decide)
          refine rq (C := fun w => St _ w _) Try.mixed (by kernel_rfl) (S.drewN 1) ?_
          refine qv F (fun w S => y_mv rfl rfl) rfl rfl rfl fun a F => ?_
          refine qv F (fun w S => y_ia rfl rfl eT rfl Try.underlying86 Try.sizeOf85 0 rfl (by decide)) rfl rfl rfl fun a F => ?_
          refine qv F (fun w S => y_ld rfl rfl (Sl.ld1c (v := .int .u32 (rnds W s k).a) (S.ows (i := 2) (ys := (rnds W s k).l) rfl lenU32 (by decide)) eT Try.isAgg85 0 (show 0 < 8 by decide) rfl)) rfl rfl rfl fun a F => ?_
          refine qv F (fun w S => y_mv rfl rfl) rfl rfl rfl fun a F => ?_
          refine qv F (fun w S => y_ia rfl rfl eT rfl Try.underlying86 Try.sizeOf85 4 rfl (by decide)) rfl rfl rfl fun a F => ?_
          refine qv F (fun w S => y_ld rfl rfl (Sl.ld1c (v := .int .u32 (rnds W s k).e) (S.ows (i := 2) (ys := (rnds W s k).l) rfl lenU32 (by decide)) eT Try.isAgg85 4 (show 4 < 8 by decide) rfl)) rfl rfl rfl fun a F => ?_
          refine qv F (fun w S => y_as rfl rfl) rfl rfl rfl fun a F => ?_
          refine qv F (fun w S => y_as rfl rfl) rfl rfl rfl fun a F => ?_
          refine qn fun w S => ?_
          refine tn <| hK19 _ _ ?_
          refine sq fun K20 hK20 => ?_
          obtain ⟨kb, ko, eK, hkb, _⟩ := (S.sl (i := 0) (xs := K) rfl lenU32).at_ (j := k) (by rw [K_len]; exact hk2)
          obtain ⟨wb, wo, eW, hwb, _⟩ := (S.ows (i := 1) (ys := W) rfl lenU32 (by decide)).at_ (j := k) (by rw [hWl]; exact hk2)
          refine rq (C := fun w => St _ w _) Try.mixed (by kernel_rfl) (S.drewN 1) ?_
          refine qv F (fun w S => y_mv rfl rfl) rfl rfl rfl fun a F => ?_
          refine qv F (fun w S => y_ia rfl rfl eT rfl Try.underlying86 Try.sizeOf85 7 rfl (by decide)) rfl rfl rfl fun a F => ?_
          refine qv F (fun w S => y_ld rfl rfl (Sl.ld1c (v := .int .u32 (rnds W s k).h) (S.ows (i := 2) (ys := (rnds W s k).l) rfl lenU32 (by decide)) eT Try.isAgg85 7 (show 7 < 8 by decide) rfl)) rfl rfl rfl fun a F => ?_
          refine qv F (fun w S => y_mv rfl rfl) rfl rfl rfl fun a F => ?_
          refine qc F (.int .u32 (rot (rnds W s k).e 6)) (fun w S => (c_f rfl rfl rfl Try.call46)) rfl rfl rfl (fun w S => (f46_c _ 6 (by decide) _).mono (Ret.mono fun v w' h => ⟨h.1, S.call h.2⟩)) fun a F => ?_
          refine qv F (fun w S => y_mv rfl rfl) rfl rfl rfl fun a F => ?_
          refine qc F (.int .u32 (rot (rnds W s k).e 11)) (fun w S => (c_f rfl rfl rfl Try.call46)) rfl rfl rfl (fun w S => (f46_c _ 11 (by decide) _).mono (Ret.mono fun v w' h => ⟨h.1, S.call h.2⟩)) fun a F => ?_
          refine qv F (fun w S => y_xor rfl rfl rfl) rfl rfl rfl fun a F => ?_
          refine qv F (fun w S => y_mv rfl rfl) rfl rfl rfl fun a F => ?_
          refine qc F (.int .u32 (rot (rnds W s k).e 25)) (fun w S => (c_f rfl rfl rfl Try.call46)) rfl rfl rfl (fun w S => (f46_c _ 25 (by decide) _).mono (Ret.mono fun v w' h => ⟨h.1, S.call h.2⟩)) fun a F => ?_
          refine qv F (fun w S => y_xor rfl rfl rfl) rfl rfl rfl fun a F => ?_
          refine qv F (fun w S => y_wa rfl rfl rfl) rfl rfl rfl fun a F => ?_
          refine qv F (fun w S => y_mv rfl rfl) rfl rfl rfl fun a F => ?_
          refine qv F (fun w S => y_mv rfl rfl) rfl rfl rfl fun a F => ?_
          refine qv F (fun w S => y_ia rfl rfl eT rfl Try.underlying86 Try.sizeOf85 5 rfl (by decide)) rfl rfl rfl fun a F => ?_
          refine qv F (fun w S => y_ld rfl rfl (Sl.ld1c (v := .int .u32 (rnds W s k).f) (S.ows (i := 2) (ys := (rnds W s k).l) rfl lenU32 (by decide)) eT Try.isAgg85 5 (show 5 < 8 by decide) rfl)) rfl rfl rfl fun a F => ?_
          refine qv F (fun w S => y_and rfl rfl rfl) rfl rfl rfl fun a F => ?_
          refine qv F (fun w S => y_mv rfl rfl) rfl rfl rfl fun a F => ?_
          refine qv F (fun w S => y_com rfl rfl) rfl rfl rfl fun a F => ?_
          refine qv F (fun w S => y_mv rfl rfl) rfl rfl rfl fun a F => ?_
          refine qv F (fun w S => y_ia rfl rfl eT rfl Try.underlying86 Try.sizeOf85 6 rfl (by decide)) rfl rfl rfl fun a F => ?_
          refine qv F (fun w S => y_ld rfl rfl (Sl.ld1c (v := .int .u32 (rnds W s k).g) (S.ows (i := 2) (ys := (rnds W s k).l) rfl lenU32 (by decide)) eT Try.isAgg85 6 (show 6 < 8 by decide) rfl)) rfl rfl rfl fun a F => ?_
          refine qv F (fun w S => y_and rfl rfl rfl) rfl rfl rfl fun a F => ?_
          refine qv F (fun w S => y_xor rfl rfl rfl) rfl rfl rfl fun a F => ?_
          refine qv F (fun w S => y_wa rfl rfl rfl) rfl rfl rfl fun a F => ?_
          refine qv F (fun w S => y_mv rfl rfl) rfl rfl rfl fun a F => ?_
          refine qv F (fun w S => y_mv rfl rfl) rfl rfl rfl fun a F => ?_
          refine qv F (fun w S => y_ia rfl rfl eK rfl Try.underlying86 Try.sizeOf85 k rfl hk2) rfl rfl rfl fun a F => ?_
          refine qv F (fun w S => y_ld rfl rfl (ldD (S.sl (i := 0) (xs := K) rfl lenU32) eK Try.isAgg85 k (by rw [K_len]; exact hk2))) rfl rfl rfl fun a F => ?_
          refine qv F (fun w S => y_wa rfl rfl rfl) rfl rfl rfl fun a F => ?_
          refine qv F (fun w S => y_mv rfl rfl) rfl rfl rfl fun a F => ?_
          refine qv F (fun w S => y_mv rfl rfl) rfl rfl rfl fun a F => ?_
          refine qv F (fun w S => y_ia rfl rfl eW rfl Try.underlying86 Try.sizeOf85 k rfl (by rw [hWl]; exact hk2)) rfl rfl rfl fun a F => ?_
          refine qv F (fun w S => y_ld rfl rfl (ldD (S.ows (i := 1) (ys := W) rfl lenU32 (by decide)) eW Try.isAgg85 k (by rw [hWl]; exact hk2))) rfl rfl rfl fun a F => ?_
          refine qv F (fun w S => y_wa rfl rfl rfl) rfl rfl rfl fun a F => ?_
          refine qv F (fun w S => y_as rfl rfl) rfl rfl rfl fun a F => ?_
          refine qn fun w S => ?_
          refine tn <| hK20 _ _ ?_
          refine sq fun K21 hK21 => ?_
          refine rq (C := fun w => St _ w _) Try.mixed (by kernel_rfl) (S.drewN 1) ?_
          refine qv F (fun w S => y_mv rfl rfl) rfl rfl rfl fun a F => ?_
          refine qc F (.int .u32 (rot (rnds W s k).a 2)) (fun w S => (c_f rfl rfl rfl Try.call46)) rfl rfl rfl (fun w S => (f46_c _ 2 (by decide) _).mono (Ret.mono fun v w' h => ⟨h.1, S.call h.2⟩)) fun a F => ?_
          refine qv F (fun w S => y_mv rfl rfl) rfl rfl rfl fun a F => ?_
          refine qc F (.int .u32 (rot (rnds W s k).a 13)) (fun w S => (c_f rfl rfl rfl Try.call46)) rfl rfl rfl (fun w S => (f46_c _ 13 (by decide) _).mono (Ret.mono fun v w' h => ⟨h.1, S.call h.2⟩)) fun a F => ?_
          refine qv F (fun w S => y_xor rfl rfl rfl) rfl rfl rfl fun a F => ?_
          refine qv F (fun w S => y_mv rfl rfl) rfl rfl rfl fun a F => ?_
          refine qc F (.int .u32 (rot (rnds W s k).a 22)) (fun w S => (c_f rfl rfl rfl Try.call46)) rfl rfl rfl (fun w S => (f46_c _ 22 (by decide) _).mono (Ret.mono fun v w' h => ⟨h.1, S.call h.2⟩)) fun a F => ?_
          refine qv F (fun w S => y_xor rfl rfl rfl) rfl rfl rfl fun a F => ?_
          refine qv F (fun w S => y_mv rfl rfl) rfl rfl rfl fun a F => ?_
          refine qv F (fun w S => y_mv rfl rfl) rfl rfl rfl fun a F => ?_
          refine qv F (fun w S => y_ia rfl rfl eT rfl Try.underlying86 Try.sizeOf85 1 rfl (by decide)) rfl rfl rfl fun a F => ?_
          refine qv F (fun w S => y_ld rfl rfl (Sl.ld1c (v := .int .u32 (rnds W s k).b) (S.ows (i := 2) (ys := (rnds W s k).l) rfl lenU32 (by decide)) eT Try.isAgg85 1 (show 1 < 8 by decide) rfl)) rfl rfl rfl fun a F => ?_
          refine qv F (fun w S => y_and rfl rfl rfl) rfl rfl rfl fun a F => ?_
          refine qv F (fun w S => y_mv rfl rfl) rfl rfl rfl fun a F => ?_
          refine qv F (fun w S => y_mv rfl rfl) rfl rfl rfl fun a F => ?_
          refine qv F (fun w S => y_ia rfl rfl eT rfl Try.underlying86 Try.sizeOf85 2 rfl (by decide)) rfl rfl rfl fun a F => ?_
          refine qv F (fun w S => y_ld rfl rfl (Sl.ld1c (v := .int .u32 (rnds W s k).c) (S.ows (i := 2) (ys := (rnds W s k).l) rfl lenU32 (by decide)) eT Try.isAgg85 2 (show 2 < 8 by decide) rfl)) rfl rfl rfl fun a F => ?_
          refine qv F (fun w S => y_and rfl rfl rfl) rfl rfl rfl fun a F => ?_
          refine qv F (fun w S => y_xor rfl rfl rfl) rfl rfl rfl fun a F => ?_
          refine qv F (fun w S => y_mv rfl rfl) rfl rfl rfl fun a F => ?_
          refine qv F (fun w S => y_ia rfl rfl eT rfl Try.underlying86 Try.sizeOf85 1 rfl (by decide)) rfl rfl rfl fun a F => ?_
          refine qv F (fun w S => y_ld rfl rfl (Sl.ld1c (v := .int .u32 (rnds W s k).b) (S.ows (i := 2) (ys := (rnds W s k).l) rfl lenU32 (by decide)) eT Try.isAgg85 1 (show 1 < 8 by decide) rfl)) rfl rfl rfl fun a F => ?_
          refine qv F (fun w S => y_mv rfl rfl) rfl rfl rfl fun a F => ?_
          refine qv F (fun w S => y_ia rfl rfl eT rfl Try.underlying86 Try.sizeOf85 2 rfl (by decide)) rfl rfl rfl fun a F => ?_
          refine qv F (fun w S => y_ld rfl rfl (Sl.ld1c (v := .int .u32 (rnds W s k).c) (S.ows (i := 2) (ys := (rnds W s k).l) rfl lenU32 (by decide)) eT Try.isAgg85 2 (show 2 < 8 by decide) rfl)) rfl rfl rfl fun a F => ?_
          refine qv F (fun w S => y_and rfl rfl rfl) rfl rfl rfl fun a F => ?_
          refine qv F (fun w S => y_xor rfl rfl rfl) rfl rfl rfl fun a F => ?_
          refine qv F (fun w S => y_wa rfl rfl rfl) rfl rfl rfl fun a F => ?_
          refine qv F (fun w S => y_as rfl rfl) rfl rfl rfl fun a F => ?_
          refine qn fun w S => ?_
          refine tn <| hK21 _ _ ?_
          refine rp [.p, .p, .p, .p, .p, .p, .p, .p, .p, .p, .p, .p, .p, .p, .p, .p, .p, .p, .p, .p, .p, .p, .b 85 (mkS 8) [.tmp 157, .tmp 158, .tmp 161, .tmp 164, .tmp 169, .tmp 170, .tmp 173, .tmp 176] (fun vs => vs.flatMap cellsOf)] 23 [[], [], [0, 1], [], [], [4], [4, 5], [], [7], [7, 8], [], [10], [10, 11], [], [10, 11, 12, 13], [], [], [16], [16, 17], [], [19], [19, 20], [0, 1, 2, 3, 4, 5, 6, 7, 8, 9, 10, 11, 12, 13, 14, 15, 16, 17, 18, 19, 20, 21]] [(0, _), (1, _), (5, _), (6, _), (10, _), (11, _), (12, _), (13, _), (14, _), (15, _), (82, _), (83, _), (86, _), (87, _), (88, _), (89, _), (90, _), (91, _), (92, _), (93, _), (94, _), (95, _), (96, _), (97, _), (98, _), (99, _), (100, _), (101, _), (102, _), (103, _), (104, _), (105, _), (106, _), (107, _), (108, _), (109, _), (110, _), (111, _), (112, _), (113, _), (114, _), (115, _), (116, _), (117, _), (118, _), (119, _), (120, _), (121, _), (122, _), (123, _), (124, _), (125, _), (126, _), (127, _), (128, _), (129, _), (130, _), (131, _), (132, _), (133, _), (134, _), (135, _), (136, _), (137, _), (138, _), (139, _), (140, _), (141, _), (142, _), (143, _), (144, _), (145, _), (146, _), (147, _), (148, _), (149, _), (150, _), (151, _), (152, _), (153, _), (154, _)] F ⟨rfl, rfl, rfl, rfl, rfl, rfl, rfl, rfl, rfl, rfl, rfl, rfl, rfl, rfl, rfl, rfl, rfl, rfl, rfl, rfl, rfl, rfl, rfl, rfl, rfl, rfl, rfl, rfl, rfl, rfl, rfl, rfl, rfl, rfl, rfl, rfl, rfl, rfl, rfl, rfl, rfl, rfl, rfl, rfl, rfl, rfl, rfl, rfl, rfl, rfl, rfl, rfl, rfl, rfl, rfl, rfl, rfl, rfl, rfl, rfl, rfl, rfl, rfl, rfl, rfl, rfl, rfl, rfl, rfl, rfl, rfl, rfl, rfl, rfl, rfl, rfl, rfl, rfl, rfl, rfl, rfl, trivial⟩ Try.mixed (by kernel_rfl) rfl (.inr ⟨by decide, by kernel_rfl, by kernel_rfl⟩) (by kernel_rfl) ⟨?_, ?_, ?_, ?_, ?_, ?_, ?_, ?_, ?_, ?_, ?_, ?_, ?_, ?_, ?_, ?_, ?_, ?_, ?_, ?_, ?_, ?_, ?_, trivial⟩ fun a w1 J => ?_
          · intro a w1 hB F hA
            have S0 := S
            replace S := S.call hB
            exact pv F (fun w2 hB2 => have S := S.call hB2; y_mv rfl rfl) rfl rfl rfl (by decide)
          · intro a w1 hB F hA
            have S0 := S
            replace S := S.call hB
            exact pv F (fun w2 hB2 => have S := S.call hB2; y_mv rfl rfl) rfl rfl rfl (by decide)
          · intro a w1 hB F hA
            have S0 := S
            replace S := S.call hB
            replace F := F.eP (hA 0 (by decide)) rfl (d := 155) rfl rfl (y_mv rfl rfl)
            replace F := F.eP (hA 1 (by decide)) rfl (d := 156) rfl rfl (y_mv rfl rfl)
            exact pv F (fun w2 hB2 => have S := S.call hB2; y_wa rfl rfl rfl) rfl rfl rfl (by decide)
          · intro a w1 hB F hA
            have S0 := S
            replace S := S.call hB
            exact pv F (fun w2 hB2 => have S := S.call hB2; y_mv rfl rfl) rfl rfl rfl (by decide)
          · intro a w1 hB F hA
            have S0 := S
            replace S := S.call hB
            exact pv F (fun w2 hB2 => have S := S.call hB2; y_mv rfl rfl) rfl rfl rfl (by decide)
          · intro a w1 hB F hA
            have S0 := S
            replace S := S.call hB
            replace F := F.eP (hA 4 (by decide)) rfl (d := 159) rfl rfl (y_mv rfl rfl)
            exact pv F (fun w2 hB2 => have S := S.call hB2; y_ia rfl rfl eT rfl Try.underlying86 Try.sizeOf85 1 rfl (by decide)) rfl rfl rfl (by decide)
          · intro a w1 hB F hA
            have S0 := S
            replace S := S.call hB
            replace F := F.eP (hA 4 (by decide)) rfl (d := 159) rfl rfl (y_mv rfl rfl)
            replace F := F.eP (hA 5 (by decide)) rfl (d := 160) rfl rfl (y_ia rfl rfl eT rfl Try.underlying86 Try.sizeOf85 1 rfl (by decide))
            exact pv F (fun w2 hB2 => have S := S.call hB2; y_ld rfl rfl (Sl.ld1c (v := .int .u32 (rnds W s k).b) (S.ows (i := 2) (ys := (rnds W s k).l) rfl lenU32 (by decide)) eT Try.isAgg85 1 (show 1 < 8 by decide) rfl)) rfl rfl rfl (by decide)
          · intro a w1 hB F hA
            have S0 := S
            replace S := S.call hB
            exact pv F (fun w2 hB2 => have S := S.call hB2; y_mv rfl rfl) rfl rfl rfl (by decide)
          · intro a w1 hB F hA
            have S0 := S
            replace S := S.call hB
            replace F := F.eP (hA 7 (by decide)) rfl (d := 162) rfl rfl (y_mv rfl rfl)
            exact pv F (fun w2 hB2 => have S := S.call hB2; y_ia rfl rfl eT rfl Try.underlying86 Try.sizeOf85 2 rfl (by decide)) rfl rfl rfl (by decide)
          · intro a w1 hB F hA
            have S0 := S
            replace S := S.call hB
            replace F := F.eP (hA 7 (by decide)) rfl (d := 162) rfl rfl (y_mv rfl rfl)
            replace F := F.eP (hA 8 (by decide)) rfl (d := 163) rfl rfl (y_ia rfl rfl eT rfl Try.underlying86 Try.sizeOf85 2 rfl (by decide))
            exact pv F (fun w2 hB2 => have S := S.call hB2; y_ld rfl rfl (Sl.ld1c (v := .int .u32 (rnds W s k).c) (S.ows (i := 2) (ys := (rnds W s k).l) rfl lenU32 (by decide)) eT Try.isAgg85 2 (show 2 < 8 by decide) rfl)) rfl rfl rfl (by decide)
          · intro a w1 hB F hA
            have S0 := S
            replace S := S.call hB
            exact pv F (fun w2 hB2 => have S := S.call hB2; y_mv rfl rfl) rfl rfl rfl (by decide)
          · intro a w1 hB F hA
            have S0 := S
            replace S := S.call hB
            replace F := F.eP (hA 10 (by decide)) rfl (d := 165) rfl rfl (y_mv rfl rfl)
            exact pv F (fun w2 hB2 => have S := S.call hB2; y_ia rfl rfl eT rfl Try.underlying86 Try.sizeOf85 3 rfl (by decide)) rfl rfl rfl (by decide)
          · intro a w1 hB F hA
            have S0 := S
            replace S := S.call hB
            replace F := F.eP (hA 10 (by decide)) rfl (d := 165) rfl rfl (y_mv rfl rfl)
            replace F := F.eP (hA 11 (by decide)) rfl (d := 166) rfl rfl (y_ia rfl rfl eT rfl Try.underlying86 Try.sizeOf85 3 rfl (by decide))
            exact pv F (fun w2 hB2 => have S := S.call hB2; y_ld rfl rfl (Sl.ld1c (v := .int .u32 (rnds W s k).d) (S.ows (i := 2) (ys := (rnds W s k).l) rfl lenU32 (by decide)) eT Try.isAgg85 3 (show 3 < 8 by decide) rfl)) rfl rfl rfl (by decide)
          · intro a w1 hB F hA
            have S0 := S
            replace S := S.call hB
            exact pv F (fun w2 hB2 => have S := S.call hB2; y_mv rfl rfl) rfl rfl rfl (by decide)
          · intro a w1 hB F hA
            have S0 := S
            replace S := S.call hB
            replace F := F.eP (hA 10 (by decide)) rfl (d := 165) rfl rfl (y_mv rfl rfl)
            replace F := F.eP (hA 11 (by decide)) rfl (d := 166) rfl rfl (y_ia rfl rfl eT rfl Try.underlying86 Try.sizeOf85 3 rfl (by decide))
            replace F := F.eP (hA 12 (by decide)) rfl (d := 167) rfl rfl (y_ld rfl rfl (Sl.ld1c (v := .int .u32 (rnds W s k).d) (S.ows (i := 2) (ys := (rnds W s k).l) rfl lenU32 (by decide)) eT Try.isAgg85 3 (show 3 < 8 by decide) rfl))
            replace F := F.eP (hA 13 (by decide)) rfl (d := 168) rfl rfl (y_mv rfl rfl)
            exact pv F (fun w2 hB2 => have S := S.call hB2; y_wa rfl rfl rfl) rfl rfl rfl (by decide)
          · intro a w1 hB F hA
            have S0 := S
            replace S := S.call hB
            exact pv F (fun w2 hB2 => have S := S.call hB2; y_mv rfl rfl) rfl rfl rfl (by decide)
          · intro a w1 hB F hA
            have S0 := S
            replace S := S.call hB
            exact pv F (fun w2 hB2 => have S := S.call hB2; y_mv rfl rfl) rfl rfl rfl (by decide)
          · intro a w1 hB F hA
            have S0 := S
            replace S := S.call hB
            replace F := F.eP (hA 16 (by decide)) rfl (d := 171) rfl rfl (y_mv rfl rfl)
            exact pv F (fun w2 hB2 => have S := S.call hB2; y_ia rfl rfl eT rfl Try.underlying86 Try.sizeOf85 5 rfl (by decide)) rfl rfl rfl (by decide)
          · intro a w1 hB F hA
            have S0 := S
            replace S := S.call hB
            replace F := F.eP (hA 16 (by decide)) rfl (d := 171) rfl rfl (y_mv rfl rfl)
            replace F := F.eP (hA 17 (by decide)) rfl (d := 172) rfl rfl (y_ia rfl rfl eT rfl Try.underlying86 Try.sizeOf85 5 rfl (by decide))
            exact pv F (fun w2 hB2 => have S := S.call hB2; y_ld rfl rfl (Sl.ld1c (v := .int .u32 (rnds W s k).f) (S.ows (i := 2) (ys := (rnds W s k).l) rfl lenU32 (by decide)) eT Try.isAgg85 5 (show 5 < 8 by decide) rfl)) rfl rfl rfl (by decide)
          · intro a w1 hB F hA
            have S0 := S
            replace S := S.call hB
            exact pv F (fun w2 hB2 => have S := S.call hB2; y_mv rfl rfl) rfl rfl rfl (by decide)
          · intro a w1 hB F hA
            have S0 := S
            replace S := S.call hB
            replace F := F.eP (hA 19 (by decide)) rfl (d := 174) rfl rfl (y_mv rfl rfl)
            exact pv F (fun w2 hB2 => have S := S.call hB2; y_ia rfl rfl eT rfl Try.underlying86 Try.sizeOf85 6 rfl (by decide)) rfl rfl rfl (by decide)
          · intro a w1 hB F hA
            have S0 := S
            replace S := S.call hB
            replace F := F.eP (hA 19 (by decide)) rfl (d := 174) rfl rfl (y_mv rfl rfl)
            replace F := F.eP (hA 20 (by decide)) rfl (d := 175) rfl rfl (y_ia rfl rfl eT rfl Try.underlying86 Try.sizeOf85 6 rfl (by decide))
            exact pv F (fun w2 hB2 => have S := S.call hB2; y_ld rfl rfl (Sl.ld1c (v := .int .u32 (rnds W s k).g) (S.ows (i := 2) (ys := (rnds W s k).l) rfl lenU32 (by decide)) eT Try.isAgg85 6 (show 6 < 8 by decide) rfl)) rfl rfl rfl (by decide)
          · intro a w1 hB F hA
            have S0 := S
            replace S := S.call hB
            replace F := F.eP (hA 0 (by decide)) rfl (d := 155) rfl rfl (y_mv rfl rfl)
            replace F := F.eP (hA 1 (by decide)) rfl (d := 156) rfl rfl (y_mv rfl rfl)
            replace F := F.eP (hA 2 (by decide)) rfl (d := 157) rfl rfl (y_wa rfl rfl rfl)
            replace F := F.eP (hA 3 (by decide)) rfl (d := 158) rfl rfl (y_mv rfl rfl)
            replace F := F.eP (hA 4 (by decide)) rfl (d := 159) rfl rfl (y_mv rfl rfl)
            replace F := F.eP (hA 5 (by decide)) rfl (d := 160) rfl rfl (y_ia rfl rfl eT rfl Try.underlying86 Try.sizeOf85 1 rfl (by decide))
            replace F := F.eP (hA 6 (by decide)) rfl (d := 161) rfl rfl (y_ld rfl rfl (Sl.ld1c (v := .int .u32 (rnds W s k).b) (S.ows (i := 2) (ys := (rnds W s k).l) rfl lenU32 (by decide)) eT Try.isAgg85 1 (show 1 < 8 by decide) rfl))
            replace F := F.eP (hA 7 (by decide)) rfl (d := 162) rfl rfl (y_mv rfl rfl)
            replace F := F.eP (hA 8 (by decide)) rfl (d := 163) rfl rfl (y_ia rfl rfl eT rfl Try.underlying86 Try.sizeOf85 2 rfl (by decide))
            replace F := F.eP (hA 9 (by decide)) rfl (d := 164) rfl rfl (y_ld rfl rfl (Sl.ld1c (v := .int .u32 (rnds W s k).c) (S.ows (i := 2) (ys := (rnds W s k).l) rfl lenU32 (by decide)) eT Try.isAgg85 2 (show 2 < 8 by decide) rfl))
            replace F := F.eP (hA 10 (by decide)) rfl (d := 165) rfl rfl (y_mv rfl rfl)
            replace F := F.eP (hA 11 (by decide)) rfl (d := 166) rfl rfl (y_ia rfl rfl eT rfl Try.underlying86 Try.sizeOf85 3 rfl (by decide))
            replace F := F.eP (hA 12 (by decide)) rfl (d := 167) rfl rfl (y_ld rfl rfl (Sl.ld1c (v := .int .u32 (rnds W s k).d) (S.ows (i := 2) (ys := (rnds W s k).l) rfl lenU32 (by decide)) eT Try.isAgg85 3 (show 3 < 8 by decide) rfl))
            replace F := F.eP (hA 13 (by decide)) rfl (d := 168) rfl rfl (y_mv rfl rfl)
            replace F := F.eP (hA 14 (by decide)) rfl (d := 169) rfl rfl (y_wa rfl rfl rfl)
            replace F := F.eP (hA 15 (by decide)) rfl (d := 170) rfl rfl (y_mv rfl rfl)
            replace F := F.eP (hA 16 (by decide)) rfl (d := 171) rfl rfl (y_mv rfl rfl)
            replace F := F.eP (hA 17 (by decide)) rfl (d := 172) rfl rfl (y_ia rfl rfl eT rfl Try.underlying86 Try.sizeOf85 5 rfl (by decide))
            replace F := F.eP (hA 18 (by decide)) rfl (d := 173) rfl rfl (y_ld rfl rfl (Sl.ld1c (v := .int .u32 (rnds W s k).f) (S.ows (i := 2) (ys := (rnds W s k).l) rfl lenU32 (by decide)) eT Try.isAgg85 5 (show 5 < 8 by decide) rfl))
            replace F := F.eP (hA 19 (by decide)) rfl (d := 174) rfl rfl (y_mv rfl rfl)
            replace F := F.eP (hA 20 (by decide)) rfl (d := 175) rfl rfl (y_ia rfl rfl eT rfl Try.underlying86 Try.sizeOf85 6 rfl (by decide))
            replace F := F.eP (hA 21 (by decide)) rfl (d := 176) rfl rfl (y_ld rfl rfl (Sl.ld1c (v := .int .u32 (rnds W s k).g) (S.ows (i := 2) (ys := (rnds W s k).l) rfl lenU32 (by decide)) eT Try.isAgg85 6 (show 6 < 8 by decide) rfl))
            exact pb F rfl (y_bs rfl rfl bs86_8) (fun _ => rfl) rfl rfl rfl
          have F := J.fr
          have E := EX.start J S
          have hle := S.bel.size
          replace S := S.call J.bel
          replace F := F.eP (J.at 0 rfl) rfl (d := 155) rfl rfl (y_mv rfl rfl)
          replace F := F.eP (J.at 1 rfl) rfl (d := 156) rfl rfl (y_mv rfl rfl)
          replace F := F.eP (J.at 2 rfl) rfl (d := 157) rfl rfl (y_wa rfl rfl rfl)
          replace F := F.eP (J.at 3 rfl) rfl (d := 158) rfl rfl (y_mv rfl rfl)
          replace F := F.eP (J.at 4 rfl) rfl (d := 159) rfl rfl (y_mv rfl rfl)
          replace F := F.eP (J.at 5 rfl) rfl (d := 160) rfl rfl (y_ia rfl rfl eT rfl Try.underlying86 Try.sizeOf85 1 rfl (by decide))
          replace F := F.eP (J.at 6 rfl) rfl (d := 161) rfl rfl (y_ld rfl rfl (Sl.ld1c (v := .int .u32 (rnds W s k).b) (S.ows (i := 2) (ys := (rnds W s k).l) rfl lenU32 (by decide)) eT Try.isAgg85 1 (show 1 < 8 by decide) rfl))
          replace F := F.eP (J.at 7 rfl) rfl (d := 162) rfl rfl (y_mv rfl rfl)
          replace F := F.eP (J.at 8 rfl) rfl (d := 163) rfl rfl (y_ia rfl rfl eT rfl Try.underlying86 Try.sizeOf85 2 rfl (by decide))
          replace F := F.eP (J.at 9 rfl) rfl (d := 164) rfl rfl (y_ld rfl rfl (Sl.ld1c (v := .int .u32 (rnds W s k).c) (S.ows (i := 2) (ys := (rnds W s k).l) rfl lenU32 (by decide)) eT Try.isAgg85 2 (show 2 < 8 by decide) rfl))
          replace F := F.eP (J.at 10 rfl) rfl (d := 165) rfl rfl (y_mv rfl rfl)
          replace F := F.eP (J.at 11 rfl) rfl (d := 166) rfl rfl (y_ia rfl rfl eT rfl Try.underlying86 Try.sizeOf85 3 rfl (by decide))
          replace F := F.eP (J.at 12 rfl) rfl (d := 167) rfl rfl (y_ld rfl rfl (Sl.ld1c (v := .int .u32 (rnds W s k).d) (S.ows (i := 2) (ys := (rnds W s k).l) rfl lenU32 (by decide)) eT Try.isAgg85 3 (show 3 < 8 by decide) rfl))
          replace F := F.eP (J.at 13 rfl) rfl (d := 168) rfl rfl (y_mv rfl rfl)
          replace F := F.eP (J.at 14 rfl) rfl (d := 169) rfl rfl (y_wa rfl rfl rfl)
          replace F := F.eP (J.at 15 rfl) rfl (d := 170) rfl rfl (y_mv rfl rfl)
          replace F := F.eP (J.at 16 rfl) rfl (d := 171) rfl rfl (y_mv rfl rfl)
          replace F := F.eP (J.at 17 rfl) rfl (d := 172) rfl rfl (y_ia rfl rfl eT rfl Try.underlying86 Try.sizeOf85 5 rfl (by decide))
          replace F := F.eP (J.at 18 rfl) rfl (d := 173) rfl rfl (y_ld rfl rfl (Sl.ld1c (v := .int .u32 (rnds W s k).f) (S.ows (i := 2) (ys := (rnds W s k).l) rfl lenU32 (by decide)) eT Try.isAgg85 5 (show 5 < 8 by decide) rfl))
          replace F := F.eP (J.at 19 rfl) rfl (d := 174) rfl rfl (y_mv rfl rfl)
          replace F := F.eP (J.at 20 rfl) rfl (d := 175) rfl rfl (y_ia rfl rfl eT rfl Try.underlying86 Try.sizeOf85 6 rfl (by decide))
          replace F := F.eP (J.at 21 rfl) rfl (d := 176) rfl rfl (y_ld rfl rfl (Sl.ld1c (v := .int .u32 (rnds W s k).g) (S.ows (i := 2) (ys := (rnds W s k).l) rfl lenU32 (by decide)) eT Try.isAgg85 6 (show 6 < 8 by decide) rfl))
          obtain ⟨b177, F, hb177, ho177⟩ := F.eB (P := Try.prog) (e := 85) (mk := mkS 8) (xs := [.tmp 157, .tmp 158, .tmp 161, .tmp 164, .tmp 169, .tmp 170, .tmp 173, .tmp 176]) (cs := fun vs => vs.flatMap cellsOf) (J.at 22 rfl) rfl (d := 177) rfl rfl rfl
          have E := EX.row J hle E 22 rfl rfl (d := 177) (e := 85) (cs := ((rnds W s (k + 1)).l.flatMap encU32)) rfl hb177 ho177
          replace S := E.st
          clear E J
          refine dv F (y_as rfl rfl) rfl rfl rfl fun a F => ?_
          refine dn ?_
          refine bn <| tn <| hK18 _ _ ?_
          refine rg ?_
          refine dv F (y_mv rfl rfl) rfl rfl rfl fun a F => ?_
          refine dv F (y_add rfl rfl rfl (by omega)) rfl rfl rfl fun a F => ?_
          refine dv F (y_as rfl rfl) rfl rfl rfl fun a F => ?_
          refine dn ?_
          replace S := ow_of_bk S (i := 3) (n := 8) (z := 1) rfl rfl (by decide)
          exact ln (by omega) ⟨k + 1, _, _, rfl, by omega, F.sub _ ⟨rfl, rfl, rfl, rfl, rfl, rfl, trivial⟩, S.pick [0, 1, 3] _ ⟨rfl, rfl, rfl, trivial⟩ rfl⟩
        · refine wp_exit ?_
          refine tx <| lx <| bh <| tn <| hK14 _ _ ?_
          refine sq fun K22 hK22 => ?_
          obtain rfl : k = 64 := by omega
          obtain ⟨t, ht⟩ : ∃ t, t = rnds W s 64 := ⟨_, rfl⟩
          rw [← ht] at S
          refine rg ?_
          refine dbs F S rfl rfl bs86n rfl rfl rfl fun a w b178 F S => ?_
          refine dv F (y_as rfl rfl) rfl rfl rfl fun a F => ?_
          refine dn ?_
          refine tn <| hK22 _ _ ?_
          refine sq fun K23 hK23 => ?_
          refine sq fun K24 hK24 => ?_
          replace S := ow_of_bk S (i := 3) (n := 0) (z := 1) rfl rfl (Nat.zero_le _)
          refine rg ?_
          refine dv F (y_as rfl rfl) rfl rfl rfl fun a F => ?_
          refine dn ?_
          refine tn <| hK24 _ _ ?_
          refine bl ?_
          refine lp (fun m a w => ∃ (k : Nat) (A16 : Option Addr) (c16 : Nat), m = 8 - k ∧ (k ≤ 8) ∧ Fr 196 a [(0, .slice HA s.l.length hc), (1, .slice A bs.length c), (5, .slice (some ⟨b18, 0, none⟩) 64 64), (10, .slice A10 8 c10), (16, .slice A16 ((fin s t).l.take k).length c16), (17, .int .i64 (k : Int))] ∧ St w0 w [ow 85 1 (.slice A10 8 c10) 8 (t.l.flatMap encU32), ow 85 1 (.slice A16 ((fin s t).l.take k).length c16) ((fin s t).l.take k).length (((fin s t).l.take k).flatMap encU32)]) (8) ?_ ?_
          · exact ⟨0, _, _, rfl, Nat.zero_le _, F.sub _ ⟨rfl, rfl, rfl, rfl, rfl, rfl, trivial⟩, S.pick [2, 3] _ ⟨rfl, rfl, trivial⟩ rfl⟩
          · rintro m a w ⟨k, A16, c16, hm, hk, F, S⟩
            refine sq fun K25 hK25 => ?_
            refine sq fun K26 hK26 => ?_
            refine rg ?_
            refine dv F (y_mv rfl rfl) rfl rfl rfl fun a F => ?_
            refine dv F (y_lt rfl rfl rfl) rfl rfl rfl fun a F => ?_
            refine dn ?_
            refine tn <| hK26 _ _ ?_
            refine cd F rfl (fun h4 => ?_) (fun h4 => ?_)
            · refine wp_skip ?_
              refine tn <| hK25 _ _ ?_
              refine sq fun K27 hK27 => ?_
              refine bl ?_
              have hk2 : k < 8 := by omega
              obtain ⟨hb_, ho_, eH, _, _⟩ := (hH.st S).at_ (j := k) hk2
              obtain ⟨tb, to, eT, htb, _⟩ := (S.ows (i := 0) (ys := t.l) rfl lenU32 (by decide)).at_ (j := k) hk2
              refine rp [.p, .p, .p, .p, .p, .p, .p, .p, .p, .p, .b 85 (mkS 1) [.tmp 192] (fun vs => cellsOf (vs.getD 0 undef))] 11 [[], [], [], [1, 2], [1, 2, 3], [], [], [5, 6], [5, 6, 7], [1, 2, 3, 4, 5, 6, 7, 8], [1, 2, 3, 4, 5, 6, 7, 8, 9]] [(0, _), (1, _), (5, _), (10, _), (16, _), (17, _), (179, _), (180, _)] F ⟨rfl, rfl, rfl, rfl, rfl, rfl, rfl, rfl, trivial⟩ Try.mixed (by kernel_rfl) rfl (.inr ⟨by decide, by kernel_rfl, by kernel_rfl⟩) (by kernel_rfl) ⟨?_, ?_, ?_, ?_, ?_, ?_, ?_, ?_, ?_, ?_, ?_, trivial⟩ fun a w1 J => ?_
              · intro a w1 hB F hA
                have S0 := S
                replace S := S.call hB
                exact pv F (fun w2 hB2 => have S := S.call hB2; y_mv rfl rfl) rfl rfl rfl (by decide)
              · intro a w1 hB F hA
                have S0 := S
                replace S := S.call hB
                exact pv F (fun w2 hB2 => have S := S.call hB2; y_mv rfl rfl) rfl rfl rfl (by decide)
              · intro a w1 hB F hA
                have S0 := S
                replace S := S.call hB
                exact pv F (fun w2 hB2 => have S := S.call hB2; y_mv rfl rfl) rfl rfl rfl (by decide)
              · intro a w1 hB F hA
                have S0 := S
                replace S := S.call hB
                replace F := F.eP (hA 1 (by decide)) rfl (d := 184) rfl rfl (y_mv rfl rfl)
                replace F := F.eP (hA 2 (by decide)) rfl (d := 185) rfl rfl (y_mv rfl rfl)
                exact pv F (fun w2 hB2 => have S := S.call hB2; y_ia rfl rfl eH rfl Try.underlying86 Try.sizeOf85 k rfl hk2) rfl rfl rfl (by decide)
              · intro a w1 hB F hA
                have S0 := S
                replace S := S.call hB
                replace F := F.eP (hA 1 (by decide)) rfl (d := 184) rfl rfl (y_mv rfl rfl)
                replace F := F.eP (hA 2 (by decide)) rfl (d := 185) rfl rfl (y_mv rfl rfl)
                replace F := F.eP (hA 3 (by decide)) rfl (d := 186) rfl rfl (y_ia rfl rfl eH rfl Try.underlying86 Try.sizeOf85 k rfl hk2)
                exact pv F (fun w2 hB2 => have S := S.call hB2; y_ld rfl rfl (ldD (hH.st S) eH Try.isAgg85 k hk2)) rfl rfl rfl (by decide)
              · intro a w1 hB F hA
                have S0 := S
                replace S := S.call hB
                exact pv F (fun w2 hB2 => have S := S.call hB2; y_mv rfl rfl) rfl rfl rfl (by decide)
              · intro a w1 hB F hA
                have S0 := S
                replace S := S.call hB
                exact pv F (fun w2 hB2 => have S := S.call hB2; y_mv rfl rfl) rfl rfl rfl (by decide)
              · intro a w1 hB F hA
                have S0 := S
                replace S := S.call hB
                replace F := F.eP (hA 5 (by decide)) rfl (d := 188) rfl rfl (y_mv rfl rfl)
                replace F := F.eP (hA 6 (by decide)) rfl (d := 189) rfl rfl (y_mv rfl rfl)
                exact pv F (fun w2 hB2 => have S := S.call hB2; y_ia rfl rfl eT rfl Try.underlying86 Try.sizeOf85 k rfl hk2) rfl rfl rfl (by decide)
              · intro a w1 hB F hA
                have S0 := S
                replace S := S.call hB
                replace F := F.eP (hA 5 (by decide)) rfl (d := 188) rfl rfl (y_mv rfl rfl)
                replace F := F.eP (hA 6 (by decide)) rfl (d := 189) rfl rfl (y_mv rfl rfl)
                replace F := F.eP (hA 7 (by decide)) rfl (d := 190) rfl rfl (y_ia rfl rfl eT rfl Try.underlying86 Try.sizeOf85 k rfl hk2)
                exact pv F (fun w2 hB2 => have S := S.call hB2; y_ld rfl rfl (ldD (S.ows (i := 0) (ys := t.l) rfl lenU32 (by decide)) eT Try.isAgg85 k hk2)) rfl rfl rfl (by decide)
              · intro a w1 hB F hA
                have S0 := S
                replace S := S.call hB
                replace F := F.eP (hA 1 (by decide)) rfl (d := 184) rfl rfl (y_mv rfl rfl)
                replace F := F.eP (hA 2 (by decide)) rfl (d := 185) rfl rfl (y_mv rfl rfl)
                replace F := F.eP (hA 3 (by decide)) rfl (d := 186) rfl rfl (y_ia rfl rfl eH rfl Try.underlying86 Try.sizeOf85 k rfl hk2)
                replace F := F.eP (hA 4 (by decide)) rfl (d := 187) rfl rfl (y_ld rfl rfl (ldD (hH.st S) eH Try.isAgg85 k hk2))
                replace F := F.eP (hA 5 (by decide)) rfl (d := 188) rfl rfl (y_mv rfl rfl)
                replace F := F.eP (hA 6 (by decide)) rfl (d := 189) rfl rfl (y_mv rfl rfl)
                replace F := F.eP (hA 7 (by decide)) rfl (d := 190) rfl rfl (y_ia rfl rfl eT rfl Try.underlying86 Try.sizeOf85 k rfl hk2)
                replace F := F.eP (hA 8 (by decide)) rfl (d := 191) rfl rfl (y_ld rfl rfl (ldD (S.ows (i := 0) (ys := t.l) rfl lenU32 (by decide)) eT Try.isAgg85 k hk2))
                exact pv F (fun w2 hB2 => have S := S.call hB2; y_wa rfl rfl rfl) rfl rfl rfl (by decide)
              · intro a w1 hB F hA
                have S0 := S
                replace S := S.call hB
                replace F := F.eP (hA 1 (by decide)) rfl (d := 184) rfl rfl (y_mv rfl rfl)
                replace F := F.eP (hA 2 (by decide)) rfl (d := 185) rfl rfl (y_mv rfl rfl)
                replace F := F.eP (hA 3 (by decide)) rfl (d := 186) rfl rfl (y_ia rfl rfl eH rfl Try.underlying86 Try.sizeOf85 k rfl hk2)
                replace F := F.eP (hA 4 (by decide)) rfl (d := 187) rfl rfl (y_ld rfl rfl (ldD (hH.st S) eH Try.isAgg85 k hk2))
                replace F := F.eP (hA 5 (by decide)) rfl (d := 188) rfl rfl (y_mv rfl rfl)
                replace F := F.eP (hA 6 (by decide)) rfl (d := 189) rfl rfl (y_mv rfl rfl)
                replace F := F.eP (hA 7 (by decide)) rfl (d := 190) rfl rfl (y_ia rfl rfl eT rfl Try.underlying86 Try.sizeOf85 k rfl hk2)
                replace F := F.eP (hA 8 (by decide)) rfl (d := 191) rfl rfl (y_ld rfl rfl (ldD (S.ows (i := 0) (ys := t.l) rfl lenU32 (by decide)) eT Try.isAgg85 k hk2))
                replace F := F.eP (hA 9 (by decide)) rfl (d := 192) rfl rfl (y_wa rfl rfl rfl)
                exact pb F rfl (y_bs rfl rfl bs86) (fun _ => rfl) rfl rfl rfl
              have F := J.fr
              have E := EX.start J S
              have hle := S.bel.size
              replace S := S.call J.bel
              replace F := F.eP (J.at 0 rfl) rfl (d := 183) rfl rfl (y_mv rfl rfl)
              replace F := F.eP (J.at 1 rfl) rfl (d := 184) rfl rfl (y_mv rfl rfl)
              replace F := F.eP (J.at 2 rfl) rfl (d := 185) rfl rfl (y_mv rfl rfl)
              replace F := F.eP (J.at 3 rfl) rfl (d := 186) rfl rfl (y_ia rfl rfl eH rfl Try.underlying86 Try.sizeOf85 k rfl hk2)
              replace F := F.eP (J.at 4 rfl) rfl (d := 187) rfl rfl (y_ld rfl rfl (ldD (hH.st S) eH Try.isAgg85 k hk2))
              replace F := F.eP (J.at 5 rfl) rfl (d := 188) rfl rfl (y_mv rfl rfl)
              replace F := F.eP (J.at 6 rfl) rfl (d := 189) rfl rfl (y_mv rfl rfl)
              replace F := F.eP (J.at 7 rfl) rfl (d := 190) rfl rfl (y_ia rfl rfl eT rfl Try.underlying86 Try.sizeOf85 k rfl hk2)
              replace F := F.eP (J.at 8 rfl) rfl (d := 191) rfl rfl (y_ld rfl rfl (ldD (S.ows (i := 0) (ys := t.l) rfl lenU32 (by decide)) eT Try.isAgg85 k hk2))
              replace F := F.eP (J.at 9 rfl) rfl (d := 192) rfl rfl (y_wa rfl rfl rfl)
              obtain ⟨b193, F, hb193, ho193⟩ := F.eB (P := Try.prog) (e := 85) (mk := mkS 1) (xs := [.tmp 192]) (cs := fun vs => cellsOf (vs.getD 0 undef)) (J.at 10 rfl) rfl (d := 193) rfl rfl rfl
              have E := EX.row J hle E 10 rfl rfl (d := 193) (e := 85) (cs := [Value.int .u32 (add (s.l.getD k 0) (t.l.getD k 0))]) rfl hb193 ho193
              replace S := E.st
              clear E J
              refine dap F S rfl rfl rfl (i := 1) rfl (S.fl (i := 2) rfl) rfl one1 Try.underlying86 (by kernel_rfl : AI Try.prog 85 1 4 = true) rfl (N := ((fin s t).l.take (k + 1)).length) (XS := ((fin s t).l.take (k + 1)).flatMap encU32) (by rw [fin_take hk2]; simp) (by rw [fin_take hk2, List.flatMap_append]; rfl) (by simp; omega) (by simp; omega) rfl rfl rfl fun a w A17 c17 F S => ?_
              refine dv F (y_as rfl rfl) rfl rfl rfl fun a F => ?_
              refine dn ?_
              refine bn <| tn <| hK27 _ _ ?_
              refine rg ?_
              refine dv F (y_mv rfl rfl) rfl rfl rfl fun a F => ?_
              refine dv F (y_add rfl rfl rfl (by omega)) rfl rfl rfl fun a F => ?_
              refine dv F (y_as rfl rfl) rfl rfl rfl fun a F => ?_
              refine dn ?_
              exact ln (by omega) ⟨k + 1, _, _, rfl, by omega, F.sub _ ⟨rfl, rfl, rfl, rfl, rfl, rfl, trivial⟩, S.pick [0, 1] _ ⟨rfl, rfl, trivial⟩ rfl⟩
            · refine wp_exit ?_
              refine tx <| lx <| bh <| tn <| hK23 _ _ ?_
              refine sq fun K28 hK28 => ?_
              refine rg ?_
              refine dv F (y_mv rfl rfl) rfl rfl rfl fun a F => ?_
              refine dv F (y_as rfl rfl) rfl rfl rfl fun a F => ?_
              refine dn ?_
              refine tn <| hK28 _ _ ?_
              refine wp_ret ?_
              refine ?_
              obtain rfl : k = 8 := by omega
              rw [← hW, show blk s W = fin s t by rw [blk, ht]]
              exact rt1 F rfl rfl ⟨⟨A16, c16, rfl, by
                  obtain ⟨A_, c_, hv, ho⟩ := S.ok (i := 1) rfl
                  cases hv; exact ho, fun k hk => ((S.own 1 _ rfl).2 k hk).1⟩, S.bel⟩

end Go.Proofs.Ytpnhinbhhpeklaa
