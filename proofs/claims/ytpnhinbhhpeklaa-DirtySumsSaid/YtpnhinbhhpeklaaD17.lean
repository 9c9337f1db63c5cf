/- Walks of layer 2: the padding. -/
import Derived.Test.YtpnhinbhhpeklaaD16
set_option linter.unusedVariables false
set_option linter.unusedSimpArgs false
namespace Go.Proofs.Ytpnhinbhhpeklaa
open Go.RowKit Go.Eng DirtyPlain

open Sha
theorem bs87 {i : Int} (w : World) : (Instr.buildSlice 87 1 [(0, .int .u8 i)].toArray).run Try.prog w = .ok (.slice (some ⟨w.heap.size, 0, none⟩) 1 1) (w.alloc (.cells [.int .u8 i].toArray 5)) := by kernel_rfl
/-- how many zeros -/
def zpad (L : Nat) : Nat := (119 - L % 64) % 64
def lb (N : Int) (i : Nat) : Int := IntKind.u8.wrap (shrI .u64 N (8 * i))
def nbits (L : Nat) : Int := IntKind.u64.wrap (IntKind.u64.wrap (L : Int) * 8)
def padded (bs : List Int) : List Int := bs ++ 128 :: List.replicate (zpad bs.length) 0 ++ (List.range 8).map fun j => lb (nbits bs.length) (7 - j)
theorem snoc0 (x : List Int) (b : Int) (z : Nat) : (x ++ b :: List.replicate z 0).flatMap encU8 ++ [Value.int .u8 0] = (x ++ b :: List.replicate (z + 1) 0).flatMap encU8 := by
  rw [List.replicate_succ']
  simp [encU8]
set_option maxRecDepth 4000
set_option maxHeartbeats 1000000 in
theorem f37_c (w0 : World) : Calls Try.prog 37 [].toArray w0 (Ret fun v w' => (∃ b, v = .pointer (some ⟨b, 0, none⟩) ∧ w'.heap[b]? = some (.cells (H0.flatMap encU32 ++ [Value.slice none 0 0, Value.int .u64 0]).toArray 95 (0, 0)) ∧ w0.heap.size ≤ b) ∧ Below w0.heap.size w0 w') := by
  refine ent Try.func37 Try.ntmps37 rfl rfl ?_
  intro a F
  have S := St.refl w0
  refine sq fun K1 hK1 => ?_
  refine rg ?_
  refine dv F (y_as rfl rfl) rfl rfl rfl fun a F => ?_
  refine dn ?_
  refine tn <| hK1 _ _ ?_
  refine sq fun K2 hK2 => ?_
  refine rg ?_
  refine dc F (c_f rfl rfl rfl Try.call42) rfl rfl rfl (f42_c _) fun a v w' hr F => ?_
  obtain ⟨rfl, hb⟩ := hr
  replace S := S.call hb
  refine dv F (y_bd (v := .agg (H0.flatMap encU32 ++ [Value.slice none 0 0, Value.int .u64 0]).toArray) rfl rfl (fun w => by kernel_rfl)) rfl rfl rfl fun a F => ?_
  refine dbx F S rfl rfl rfl rfl rfl rfl fun a w b3 F S => ?_
  refine dv F (y_as rfl rfl) rfl rfl rfl fun a F => ?_
  refine dn ?_
  refine tn <| hK2 _ _ ?_
  refine wp_ret ?_
  refine ?_
  exact rt1 F rfl rfl ⟨⟨b3, rfl, S.ok (i := 0) rfl, ((S.own 0 _ rfl).2 b3 rfl).1⟩, S.bel⟩

theorem f40_c (s : ByteArray) (hs : s.size ≤ 1000000) (w0 : World) :
    Calls Try.prog 40 [.string s].toArray w0 (Ret fun v w' => (∃ A c, v = .slice A (padded (bI s)).length c ∧ OwOk w' 5 1 A c (padded (bI s)).length ((padded (bI s)).flatMap encU8) ∧ ∀ k, v.ownBlock = some k → w0.heap.size ≤ k) ∧ Below w0.heap.size w0 w') := by
  refine ent Try.func40 Try.ntmps40 rfl rfl ?_
  intro a F
  have S := St.refl w0
  refine sq fun K1 hK1 => ?_
  refine rg ?_
  refine dv F (y_as rfl rfl) rfl rfl rfl fun a F => ?_
  refine dn ?_
  refine tn <| hK1 _ _ ?_
  refine sq fun K2 hK2 => ?_
  have hL := bI_len s
  refine rg ?_
  refine dv F (y_mv rfl rfl) rfl rfl rfl fun a F => ?_
  refine dcb F S rfl rfl Try.underlying9 Try.underlying87 Try.underlying5 (by omega) rfl rfl rfl fun a w A1 c1 F S => ?_
  refine dv F (y_as rfl rfl) rfl rfl rfl fun a F => ?_
  refine dn ?_
  refine tn <| hK2 _ _ ?_
  refine sq fun K3 hK3 => ?_
  
  refine rg ?_
  refine dv F (y_mv rfl rfl) rfl rfl rfl fun a F => ?_
  refine dbs F S rfl rfl bs87 rfl rfl rfl fun a w b9 F S => ?_
  refine dap F S rfl rfl rfl (i := 0) rfl (S.fl (i := 1) rfl) rfl one1 Try.underlying87 (by kernel_rfl : AI Try.prog 5 1 1 = true) rfl (N := (bI s ++ 128 :: List.replicate 0 0).length) (XS := (bI s ++ 128 :: List.replicate 0 0).flatMap encU8) (by simp) (by simp [encU8]) (by simp; omega) (by simp; omega) rfl rfl rfl fun a w A2 c2 F S => ?_
  refine dv F (y_as rfl rfl) rfl rfl rfl fun a F => ?_
  refine dn ?_
  refine tn <| hK3 _ _ ?_
  refine sq fun K4 hK4 => ?_
  refine bl ?_
  refine lp (fun m a w => ∃ (z : Nat) (A3 : Option Addr) (c3 : Nat), m = zpad (bI s).length - z ∧ (z ≤ zpad (bI s).length) ∧ Fr 35 a [(0, .string s), (3, .slice A3 (bI s ++ 128 :: List.replicate z 0).length c3)] ∧ St w0 w [ow 5 1 (.slice A3 (bI s ++ 128 :: List.replicate z 0).length c3) (bI s ++ 128 :: List.replicate z 0).length ((bI s ++ 128 :: List.replicate z 0).flatMap encU8)]) (zpad (bI s).length) ?_ ?_
  · exact ⟨0, _, _, rfl, Nat.zero_le _, F.sub _ ⟨rfl, rfl, trivial⟩, S.pick [0] _ ⟨rfl, trivial⟩ rfl⟩
  · rintro m a w ⟨z, A3, c3, hm, hz, F, S⟩
    have hlen : (bI s ++ 128 :: List.replicate z 0).length = (bI s).length + 1 + z := by simp; omega
    refine sq fun K5 hK5 => ?_
    refine sq fun K6 hK6 => ?_
    refine rg ?_
    refine dv F (y_mv rfl rfl) rfl rfl rfl fun a F => ?_
    refine dv F (y_ln rfl rfl Try.underlying87) rfl rfl rfl fun a F => ?_
    refine dv F (y_rem rfl rfl rfl (by omega)) rfl rfl rfl fun a F => ?_
    refine dv F (y_in rfl rfl rfl) rfl rfl rfl fun a F => ?_
    refine dn ?_
    refine tn <| hK6 _ _ ?_
    refine cb F rfl (fun h1 => ?_) (fun h1 => ?_)
    · have h2 : ((bI s).length + 1 + z) % 64 ≠ 56 := by
        intro e
        have h4 : ((bI s ++ 128 :: List.replicate z 0).length : Int) % 64 = 56 := by omega
        rw [h4] at h1; cases h1
      have hz63 : zpad (bI s).length < 64 := Nat.mod_lt _ (by decide)
      refine wp_skip ?_
      refine tn <| hK5 _ _ ?_
      refine bl ?_
      refine rg ?_
      refine dv F (y_mv rfl rfl) rfl rfl rfl fun a F => ?_
      refine dbs F S rfl rfl bs87 rfl rfl rfl fun a w b16 F S => ?_
      refine dap F S rfl rfl rfl (i := 0) rfl (S.fl (i := 1) rfl) rfl one1 Try.underlying87 (by kernel_rfl : AI Try.prog 5 1 1 = true) rfl (N := (bI s ++ 128 :: List.replicate (z + 1) 0).length) (XS := (bI s ++ 128 :: List.replicate (z + 1) 0).flatMap encU8) (by simp; omega) (snoc0 _ _ z) (by simp; omega) (by simp; omega) rfl rfl rfl fun a w A4 c4 F S => ?_
      refine dv F (y_as rfl rfl) rfl rfl rfl fun a F => ?_
      refine dn ?_
      exact bn <| ln (by simp only [zpad] at *; omega) ⟨z + 1, _, _, rfl, by simp only [zpad] at *; omega, F.sub _ ⟨rfl, rfl, trivial⟩, S.pick [0] _ ⟨rfl, trivial⟩ rfl⟩
    · have h2 : ((bI s).length + 1 + z) % 64 = 56 := by
        have h4 : ((bI s ++ 128 :: List.replicate z 0).length : Int) % 64 = 56 := by simpa using h1
        omega
      refine wp_exit ?_
      refine tx <| lx <| bh <| tn <| hK4 _ _ ?_
      refine sq fun K7 hK7 => ?_
      obtain rfl : z = zpad (bI s).length := by simp only [zpad] at *; omega
      have hz63 : zpad (bI s).length < 64 := Nat.mod_lt _ (by decide)
      clear hlen
      refine rg ?_
      refine dv F (y_mv rfl rfl) rfl rfl rfl fun a F => ?_
      refine dv F (y_ls rfl rfl Try.underlying9) rfl rfl rfl fun a F => ?_
      refine dv F (y_cvt rfl rfl ⟨_, Try.underlying3⟩ Try.underlying93) rfl rfl rfl fun a F => ?_
      refine dv F (y_wm rfl rfl rfl) rfl rfl rfl fun a F => ?_
      refine dv F (y_as rfl rfl) rfl rfl rfl fun a F => ?_
      refine dn ?_
      refine tn <| hK7 _ _ ?_
      refine sq fun K8 hK8 => ?_
      refine sq fun K9 hK9 => ?_
      refine rg ?_
      refine dv F (y_as rfl rfl) rfl rfl rfl fun a F => ?_
      refine dn ?_
      refine tn <| hK9 _ _ ?_
      refine bl ?_
      rw [show bI s ++ 128 :: List.replicate (zpad (bI s).length) 0 = bI s ++ 128 :: List.replicate (zpad (bI s).length) 0 ++ (List.range 0).map (fun j => lb (nbits (bI s).length) (7 - j)) by simp] at F S
      rw [← hL] at F
      refine lp (fun m a w => ∃ (k : Nat) (A3 : Option Addr) (c3 : Nat), m = 8 - k ∧ (k ≤ 8) ∧ Fr 35 a [(4, .int .u64 (nbits (bI s).length)), (3, .slice A3 (bI s ++ 128 :: List.replicate (zpad (bI s).length) 0 ++ (List.range k).map (fun j => lb (nbits (bI s).length) (7 - j))).length c3), (5, .int .i64 (7 - (k : Int)))] ∧ St w0 w [ow 5 1 (.slice A3 (bI s ++ 128 :: List.replicate (zpad (bI s).length) 0 ++ (List.range k).map (fun j => lb (nbits (bI s).length) (7 - j))).length c3) (bI s ++ 128 :: List.replicate (zpad (bI s).length) 0 ++ (List.range k).map (fun j => lb (nbits (bI s).length) (7 - j))).length ((bI s ++ 128 :: List.replicate (zpad (bI s).length) 0 ++ (List.range k).map (fun j => lb (nbits (bI s).length) (7 - j))).flatMap encU8)]) (8) ?_ ?_
      · exact ⟨0, _, _, rfl, Nat.zero_le _, F.sub _ ⟨rfl, rfl, rfl, trivial⟩, S.pick [0] _ ⟨rfl, trivial⟩ rfl⟩
      · rintro m a w ⟨k, A3, c3, hm, hk, F, S⟩
        refine sq fun K10 hK10 => ?_
        refine sq fun K11 hK11 => ?_
        refine rg ?_
        refine dv F (y_mv rfl rfl) rfl rfl rfl fun a F => ?_
        refine dv F (y_ge rfl rfl rfl) rfl rfl rfl fun a F => ?_
        refine dn ?_
        refine tn <| hK11 _ _ ?_
        refine cd F rfl (fun h3 => ?_) (fun h3 => ?_)
        · refine wp_skip ?_
          refine tn <| hK10 _ _ ?_
          refine sq fun K12 hK12 => ?_
          refine bl ?_
          refine rg ?_
          refine dv F (y_mv rfl rfl) rfl rfl rfl fun a F => ?_
          refine dv F (y_mv rfl rfl) rfl rfl rfl fun a F => ?_
          refine dv F (y_mv rfl rfl) rfl rfl rfl fun a F => ?_
          refine dv F (y_mul rfl rfl rfl (by omega)) rfl rfl rfl fun a F => ?_
          refine dv F (y_shr (m := 8 * (7 - k)) rfl rfl rfl (by omega)) rfl rfl rfl fun a F => ?_
          refine dv F (y_cvt rfl rfl ⟨_, Try.underlying93⟩ Try.underlying5) rfl rfl rfl fun a F => ?_
          refine dbs F S rfl rfl bs87 rfl rfl rfl fun a w b32 F S => ?_
          refine dap F S rfl rfl rfl (i := 0) rfl (S.fl (i := 1) rfl) rfl one1 Try.underlying87 (by kernel_rfl : AI Try.prog 5 1 1 = true) rfl (N := (bI s ++ 128 :: List.replicate (zpad (bI s).length) 0 ++ (List.range (k + 1)).map (fun j => lb (nbits (bI s).length) (7 - j))).length) (XS := (bI s ++ 128 :: List.replicate (zpad (bI s).length) 0 ++ (List.range (k + 1)).map (fun j => lb (nbits (bI s).length) (7 - j))).flatMap encU8) (by simp; omega) (by rw [List.range_succ]; simp [encU8, lb]) (by simp; omega) (by simp; omega) rfl rfl rfl fun a w A4 c4 F S => ?_
          refine dv F (y_as rfl rfl) rfl rfl rfl fun a F => ?_
          refine dn ?_
          refine bn <| tn <| hK12 _ _ ?_
          refine rg ?_
          refine dv F (y_mv rfl rfl) rfl rfl rfl fun a F => ?_
          refine dv F (y_sub rfl rfl rfl (by omega)) rfl rfl rfl fun a F => ?_
          refine dv F (y_as rfl rfl) rfl rfl rfl fun a F => ?_
          refine dn ?_
          rw [show (7 : Int) - (k : Int) - 1 = 7 - ((k + 1 : Nat) : Int) by omega] at F
          exact ln (by omega) ⟨k + 1, _, _, rfl, by omega, F.sub _ ⟨rfl, rfl, rfl, trivial⟩, S.pick [0] _ ⟨rfl, trivial⟩ rfl⟩
        · refine wp_exit ?_
          refine tx <| lx <| bh <| tn <| hK8 _ _ ?_
          refine sq fun K13 hK13 => ?_
          refine rg ?_
          refine dv F (y_mv rfl rfl) rfl rfl rfl fun a F => ?_
          refine dv F (y_as rfl rfl) rfl rfl rfl fun a F => ?_
          refine dn ?_
          refine tn <| hK13 _ _ ?_
          refine wp_ret ?_
          refine ?_
          obtain rfl : k = 8 := by omega
          exact rt1 F rfl rfl ⟨⟨A3, c3, rfl, by
              obtain ⟨A_, c_, hv, ho⟩ := S.ok (i := 0) rfl
              cases hv; exact ho, (fun k hk => ((S.own 0 _ rfl).2 k hk).1)⟩, S.bel⟩

end Go.Proofs.Ytpnhinbhhpeklaa
