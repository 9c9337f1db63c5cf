/- Walks of layer 2: the program's sum. -/
import Derived.Test.YtpnhinbhhpeklaaD19
set_option linter.unusedVariables false
set_option linter.unusedSimpArgs false
namespace Go.Proofs.Ytpnhinbhhpeklaa
open Go.RowKit Go.Eng DirtyPlain
theorem fi95_0 : FieldIs Try.prog 95 0 0 := fieldIs (z := 7) Try.underlying95 rfl rfl rfl Try.sizeOf91
theorem fi95_1 : FieldIs Try.prog 95 1 8 := fieldIs (z := 0) Try.underlying95 rfl rfl rfl Try.sizeOf87
theorem fi95_2 : FieldIs Try.prog 95 2 9 := fieldIs (z := 0) Try.underlying95 rfl rfl rfl Try.sizeOf93
open Sha
theorem le_step64 {a b k : Nat} (h1 : a = b - 64 * k) (h2 : 64 ≤ a) : 64 * (k + 1) ≤ b := by omega
theorem _root_.Go.Eng.ow_sl {α : Type} {w : World} {e z n c : Nat} {enc : α → List Value} {A : Option Addr} {ys : List α} (h : (ow e z (.slice A n c) n (ys.flatMap enc)).ok w) (hz : ∀ x, (enc x).length = z) (hzp : 0 < z) : Sl w z enc A ys := fun hne => by
  obtain ⟨A_, c_, hv, h1, h2, h3, h4⟩ := h
  cases hv
  rcases h4 with ⟨rfl, rfl⟩ | ⟨g, off, cur, fr, rfl, hg, hfr, hcur, hxs⟩
  · have hn0 : n = 0 := by omega
    subst hn0
    rw [flat_len hz, Nat.zero_mul] at h1
    have h0 : ys.length = 0 := by
      rcases Nat.eq_zero_or_pos ys.length with h | h
      · exact h
      · have := Nat.mul_pos h hzp; omega
    exact absurd (List.eq_nil_of_length_eq_zero h0) hne
  · refine ⟨g, off, rfl, (Array.getElem?_eq_some_iff.1 hg).1, fun j x hj i u hu => ?_⟩
    have := hxs _ _ (get_flat hz ys j x i u hj hu)
    rw [← Nat.add_assoc] at this
    simpa [World.cell?, hg] using this
section
variable {P : Program} {w : World} {l : List (Nat × Value)} {o : Oper}
/-- what is left behind the first ones -/
theorem _root_.Go.Eng.y_sll {N t e z lo : Nat} {x xl : Operand} {A : Option Addr} {n' c : Nat} {k : IntKind} {i : Int} (ho : o.op = .slice t x (some xl) none none) (hx : evl l x = some (.slice A n' c)) (hh : evl l xl = some (.int k i)) (hu : P.underlying t = some (.slice e)) (hz : ∀ w, (Go.sizeOf e).run P w = .ok z w)
    (hi : i = (lo : Int)) (hN : n' - lo = N) (hn : lo ≤ n') (hc : n' ≤ c) : Yl P o l w (.slice (if c = lo then A else A.map (·.add (lo * z))) N (c - lo)) w := fun n a F => by
  subst hN hi
  have e2 : (0 : Int) ≤ lo ∧ (lo : Int) ≤ (n' : Int) := by omega
  simp [execOp, ho, F.ev hx, F.ev hh, Instr.sliceAt, Instr.slice, Instr.sliceBounds, Instr.sliceBound, asIntOf, underlying, hu, hz, program, Sem.run, hc, e2, hn]
end
set_option maxRecDepth 4000
set_option maxHeartbeats 1000000 in
theorem f38_c {w0 W0 : World} {hb : Nat} {mr : Res} {A : Option Addr} {c : Nat} {N : Int} (s : S8) (buf : List Int) (sg : ByteArray) (S : St w0 W0 [bk hb 95 (s.l.flatMap encU32 ++ [Value.slice A (buf).length c, Value.int .u64 N]), ow 5 1 (.slice A (buf).length c) (buf).length ((buf).flatMap encU8), mr]) (hr : ∀ b ∈ buf, 0 ≤ b ∧ b < 256) (hbl : buf.length ≤ 1000) (hs : sg.size ≤ 1000000) :
    Calls Try.prog 38 [.pointer (some ⟨hb, 0, none⟩), .string sg].toArray W0 (Ret fun v W' => ∃ A' c', St w0 W' [bk hb 95 ((absorb s (buf ++ bI sg) ((buf ++ bI sg).length / 64)).l.flatMap encU32 ++ [Value.slice A' ((buf ++ bI sg).drop (64 * ((buf ++ bI sg).length / 64))).length c', Value.int .u64 (IntKind.u64.wrap (N + IntKind.u64.wrap (sg.size : Int)))]), ow 5 1 (.slice A' ((buf ++ bI sg).drop (64 * ((buf ++ bI sg).length / 64))).length c') ((buf ++ bI sg).drop (64 * ((buf ++ bI sg).length / 64))).length (((buf ++ bI sg).drop (64 * ((buf ++ bI sg).length / 64))).flatMap encU8), mr]) := by
  refine ent Try.func38 Try.ntmps38 rfl rfl ?_
  intro a F
  refine sq fun K1 hK1 => ?_
  refine sq fun K2 hK2 => ?_
  refine rg ?_
  refine dv F (y_mv rfl rfl) rfl rfl rfl fun a F => ?_
  refine dv F (y_pn rfl rfl rfl Try.underlying81) rfl rfl rfl fun a F => ?_
  refine dn ?_
  refine tn <| hK2 _ _ ?_
  refine cf F rfl rfl ?_
  refine wp_skip ?_
  refine tn <| hK1 _ _ ?_
  refine sq fun K3 hK3 => ?_
  refine rg ?_
  refine dv F (y_mv rfl rfl) rfl rfl rfl fun a F => ?_
  refine dv F (y_nc rfl rfl) rfl rfl rfl fun a F => ?_
  refine dv F (y_fa rfl rfl fi95_2) rfl rfl rfl fun a F => ?_
  refine dv F (y_ld rfl rfl (S.ld (i := 0) rfl rfl Try.isAgg93)) rfl rfl rfl fun a F => ?_
  refine dv F (y_mv rfl rfl) rfl rfl rfl fun a F => ?_
  refine dv F (y_ls rfl rfl Try.underlying9) rfl rfl rfl fun a F => ?_
  refine dv F (y_cvt rfl rfl ⟨_, Try.underlying3⟩ Try.underlying93) rfl rfl rfl fun a F => ?_
  refine dv F (y_wa rfl rfl rfl) rfl rfl rfl fun a F => ?_
  refine dv F (y_nc rfl rfl) rfl rfl rfl fun a F => ?_
  refine dv F (y_fa rfl rfl fi95_2) rfl rfl rfl fun a F => ?_
  refine dst F S rfl rfl rfl Try.sizeOf93 (i := 0) rfl rfl (show _ ≤ 10 by decide) one1 rfl rfl fun a w F S => ?_
  refine dn ?_
  refine tn <| hK3 _ _ ?_
  refine sq fun K4 hK4 => ?_
  refine rg ?_
  refine dv F (y_mv rfl rfl) rfl rfl rfl fun a F => ?_
  refine dv F (y_mv rfl rfl) rfl rfl rfl fun a F => ?_
  refine dv F (y_nc rfl rfl) rfl rfl rfl fun a F => ?_
  refine dv F (y_fa rfl rfl fi95_1) rfl rfl rfl fun a F => ?_
  refine dv F (y_ld rfl rfl (S.ld (i := 0) rfl rfl Try.isAgg87)) rfl rfl rfl fun a F => ?_
  refine dv F (y_mv rfl rfl) rfl rfl rfl fun a F => ?_
  refine das F S rfl rfl rfl (i := 1) rfl Try.underlying87 Try.underlying9 (by kernel_rfl : AI Try.prog 5 1 1 = true) (N := (buf ++ bI sg).length) (XS := (buf ++ bI sg).flatMap encU8) (by rw [List.length_append, bI_len]) (by rw [List.flatMap_append, bI_byte]) (by rw [List.length_append, bI_len]; omega) (by rw [List.length_append, bI_len]; omega) rfl rfl rfl fun a w A1 c1 F S => ?_
  refine dv F (y_nc rfl rfl) rfl rfl rfl fun a F => ?_
  refine dv F (y_fa rfl rfl fi95_1) rfl rfl rfl fun a F => ?_
  refine dst F S rfl rfl rfl Try.sizeOf87 (i := 0) rfl rfl (show _ ≤ 10 by decide) one1 rfl rfl fun a w F S => ?_
  refine dn ?_
  refine tn <| hK4 _ _ ?_
  refine bl ?_
  refine lp (fun m a w => ∃ (k : Nat) (A3 : Option Addr) (c3 : Nat), m = (buf ++ bI sg).length / 64 - k ∧ (64 * k ≤ (buf ++ bI sg).length) ∧ Fr 48 a [(0, .pointer (some ⟨hb, 0, none⟩)), (1, .string sg)] ∧ St w0 w [bk hb 95 ((absorb s (buf ++ bI sg) k).l.flatMap encU32 ++ [Value.slice A3 ((buf ++ bI sg).drop (64 * k)).length c3, Value.int .u64 (IntKind.u64.wrap (N + IntKind.u64.wrap (sg.size : Int)))]), ow 5 1 (.slice A3 ((buf ++ bI sg).drop (64 * k)).length c3) ((buf ++ bI sg).drop (64 * k)).length (((buf ++ bI sg).drop (64 * k)).flatMap encU8), mr]) ((buf ++ bI sg).length / 64) ?_ ?_
  · exact ⟨0, _, _, rfl, Nat.zero_le _, F.sub _ ⟨rfl, rfl, trivial⟩, S.pick [0, 1, 2] _ ⟨rfl, rfl, rfl, trivial⟩ rfl⟩
  · rintro m a w ⟨k, A3, c3, hm, hk, F, S⟩
    have hXr : ∀ b ∈ (buf ++ bI sg), 0 ≤ b ∧ b < 256 := fun b hb => (List.mem_append.1 hb).elim (hr b) (bI_range sg b)
    have hdl : ((buf ++ bI sg).drop (64 * k)).length = (buf ++ bI sg).length - 64 * k := List.length_drop ..
    obtain ⟨_, _, hv_, _, hcP, _⟩ := S.ok (i := 1) rfl
    cases hv_
    refine sq fun K5 hK5 => ?_
    refine sq fun K6 hK6 => ?_
    refine rg ?_
    refine dv F (y_mv rfl rfl) rfl rfl rfl fun a F => ?_
    refine dv F (y_nc rfl rfl) rfl rfl rfl fun a F => ?_
    refine dv F (y_fa rfl rfl fi95_1) rfl rfl rfl fun a F => ?_
    refine dv F (y_ld rfl rfl (S.ld (i := 0) rfl rfl Try.isAgg87)) rfl rfl rfl fun a F => ?_
    refine dv F (y_ln rfl rfl Try.underlying87) rfl rfl rfl fun a F => ?_
    refine dv F (y_ge rfl rfl rfl) rfl rfl rfl fun a F => ?_
    refine dn ?_
    refine tn <| hK6 _ _ ?_
    refine cd F rfl (fun h1 => ?_) (fun h1 => ?_)
    · refine wp_skip ?_
      refine tn <| hK5 _ _ ?_
      refine bl ?_
      refine sq fun K7 hK7 => ?_
      have hq : ((((buf ++ bI sg).drop (64 * k)).take 64)).length = 64 := by rw [List.length_take, hdl]; omega
      refine rp [.p, .p, .p, .p, .p, .p, .p, .p] 8 [[], [0], [0, 1], [], [3], [3, 4], [3, 4, 5], [3, 4, 5, 6]] [(0, _), (1, _), (25, _), (26, _), (27, _), (28, _), (29, _), (30, _)] F ⟨rfl, rfl, rfl, rfl, rfl, rfl, rfl, rfl, trivial⟩ Try.mixed (by kernel_rfl) rfl (.inr ⟨by decide, by kernel_rfl, by kernel_rfl⟩) (by kernel_rfl) ⟨?_, ?_, ?_, ?_, ?_, ?_, ?_, ?_, trivial⟩ fun a w1 J => ?_
      · intro a w1 hB F hA
        have S0 := S
        replace S := S.call hB
        exact pv F (fun w2 hB2 => have S := S.call hB2; y_mv rfl rfl) rfl rfl rfl (by decide)
      · intro a w1 hB F hA
        have S0 := S
        replace S := S.call hB
        replace F := F.eP (hA 0 (by decide)) rfl (d := 31) rfl rfl (y_mv rfl rfl)
        exact pv F (fun w2 hB2 => have S := S.call hB2; y_nc rfl rfl) rfl rfl rfl (by decide)
      · intro a w1 hB F hA
        have S0 := S
        replace S := S.call hB
        replace F := F.eP (hA 0 (by decide)) rfl (d := 31) rfl rfl (y_mv rfl rfl)
        replace F := F.eP (hA 1 (by decide)) rfl (d := 32) rfl rfl (y_nc rfl rfl)
        exact pv F (fun w2 hB2 => have S := S.call hB2; y_fa rfl rfl fi95_0) rfl rfl rfl (by decide)
      · intro a w1 hB F hA
        have S0 := S
        replace S := S.call hB
        exact pv F (fun w2 hB2 => have S := S.call hB2; y_mv rfl rfl) rfl rfl rfl (by decide)
      · intro a w1 hB F hA
        have S0 := S
        replace S := S.call hB
        replace F := F.eP (hA 3 (by decide)) rfl (d := 34) rfl rfl (y_mv rfl rfl)
        exact pv F (fun w2 hB2 => have S := S.call hB2; y_nc rfl rfl) rfl rfl rfl (by decide)
      · intro a w1 hB F hA
        have S0 := S
        replace S := S.call hB
        replace F := F.eP (hA 3 (by decide)) rfl (d := 34) rfl rfl (y_mv rfl rfl)
        replace F := F.eP (hA 4 (by decide)) rfl (d := 35) rfl rfl (y_nc rfl rfl)
        exact pv F (fun w2 hB2 => have S := S.call hB2; y_fa rfl rfl fi95_1) rfl rfl rfl (by decide)
      · intro a w1 hB F hA
        have S0 := S
        replace S := S.call hB
        replace F := F.eP (hA 3 (by decide)) rfl (d := 34) rfl rfl (y_mv rfl rfl)
        replace F := F.eP (hA 4 (by decide)) rfl (d := 35) rfl rfl (y_nc rfl rfl)
        replace F := F.eP (hA 5 (by decide)) rfl (d := 36) rfl rfl (y_fa rfl rfl fi95_1)
        exact pv F (fun w2 hB2 => have S := S.call hB2; y_ld rfl rfl (S.ld (i := 0) rfl rfl Try.isAgg87)) rfl rfl rfl (by decide)
      · intro a w1 hB F hA
        have S0 := S
        replace S := S.call hB
        replace F := F.eP (hA 3 (by decide)) rfl (d := 34) rfl rfl (y_mv rfl rfl)
        replace F := F.eP (hA 4 (by decide)) rfl (d := 35) rfl rfl (y_nc rfl rfl)
        replace F := F.eP (hA 5 (by decide)) rfl (d := 36) rfl rfl (y_fa rfl rfl fi95_1)
        replace F := F.eP (hA 6 (by decide)) rfl (d := 37) rfl rfl (y_ld rfl rfl (S.ld (i := 0) rfl rfl Try.isAgg87))
        exact pv F (fun w2 hB2 => have S := S.call hB2; y_slh (m := ((((buf ++ bI sg).drop (64 * k)).take 64)).length) rfl rfl rfl Try.underlying87 Try.sizeOf5 (by rw [hq]; rfl) (by omega)) rfl rfl rfl (by decide)
      have F := J.fr
      have E := EX.start J S
      have hle := S.bel.size
      replace S := S.call J.bel
      replace F := F.eP (J.at 0 rfl) rfl (d := 31) rfl rfl (y_mv rfl rfl)
      replace F := F.eP (J.at 1 rfl) rfl (d := 32) rfl rfl (y_nc rfl rfl)
      replace F := F.eP (J.at 2 rfl) rfl (d := 33) rfl rfl (y_fa rfl rfl fi95_0)
      replace F := F.eP (J.at 3 rfl) rfl (d := 34) rfl rfl (y_mv rfl rfl)
      replace F := F.eP (J.at 4 rfl) rfl (d := 35) rfl rfl (y_nc rfl rfl)
      replace F := F.eP (J.at 5 rfl) rfl (d := 36) rfl rfl (y_fa rfl rfl fi95_1)
      replace F := F.eP (J.at 6 rfl) rfl (d := 37) rfl rfl (y_ld rfl rfl (S.ld (i := 0) rfl rfl Try.isAgg87))
      replace F := F.eP (J.at 7 rfl) rfl (d := 38) rfl rfl (y_slh (m := ((((buf ++ bI sg).drop (64 * k)).take 64)).length) rfl rfl rfl Try.underlying87 Try.sizeOf5 (by rw [hq]; rfl) (by omega))
      replace S := E.st
      clear E J
      refine dc F (c_f rfl rfl rfl Try.call43) rfl rfl rfl (f43_c (absorb s (buf ++ bI sg) k) (((buf ++ bI sg).drop (64 * k)).take 64) S.pack (fun w h => (ow_sl (h 0 _ rfl) lenU8 (by decide)).take 64) hq (fun b hb => hXr b (List.mem_of_mem_drop (List.mem_of_mem_take hb)))) fun a v w' hr F => ?_
      obtain _ := hr
      replace S := Go.Eng.St.unpack hr S
      refine dn ?_
      refine tn <| hK7 _ _ ?_
      refine rg ?_
      refine dv F (y_mv rfl rfl) rfl rfl rfl fun a F => ?_
      refine dv F (y_mv rfl rfl) rfl rfl rfl fun a F => ?_
      refine dv F (y_nc rfl rfl) rfl rfl rfl fun a F => ?_
      refine dv F (y_fa rfl rfl fi95_1) rfl rfl rfl fun a F => ?_
      refine dv F (y_ld rfl rfl (S.ld (i := 0) rfl rfl Try.isAgg87)) rfl rfl rfl fun a F => ?_
      refine dv F (y_sll (lo := 64) (N := ((buf ++ bI sg).drop (64 * (k + 1))).length) rfl rfl rfl Try.underlying87 Try.sizeOf5 rfl (by rw [List.length_drop, List.length_drop]; omega) (by omega) (by omega)) rfl rfl rfl fun a F => ?_
      refine dv F (y_nc rfl rfl) rfl rfl rfl fun a F => ?_
      refine dv F (y_fa rfl rfl fi95_1) rfl rfl rfl fun a F => ?_
      refine dst F S rfl rfl rfl Try.sizeOf87 (i := 0) rfl rfl (show _ ≤ 10 by decide) one1 rfl rfl fun a w F S => ?_
      refine dn ?_
      have hcd : 64 ≤ ((buf ++ bI sg).drop (64 * k)).length := by omega
      have hk1 : 64 * (k + 1) ≤ (buf ++ bI sg).length := le_step64 hdl hcd
      replace S := ow_drop S (i := 1) (m := 64) rfl hcd
      rw [show ((buf ++ bI sg).drop (64 * k)).length - 64 = ((buf ++ bI sg).drop (64 * (k + 1))).length by rw [hdl, List.length_drop]; omega, show (((buf ++ bI sg).drop (64 * k)).flatMap encU8).drop (64 * 1) = ((buf ++ bI sg).drop (64 * (k + 1))).flatMap encU8 by rw [flatU8, flatU8, ← List.map_drop, List.drop_drop, Nat.mul_add]] at S
      exact bn <| ln (by omega) ⟨k + 1, _, _, rfl, hk1, F.sub _ ⟨rfl, rfl, trivial⟩, S.pick [0, 1, 2] _ ⟨rfl, rfl, rfl, trivial⟩ rfl⟩
    · refine wp_exit ?_
      refine tx <| lx <| bh <| ?_
      obtain rfl : k = (buf ++ bI sg).length / 64 := by omega
      exact rn0 F rfl ⟨A3, c3, S⟩

end Go.Proofs.Ytpnhinbhhpeklaa
