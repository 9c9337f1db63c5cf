/- Walks of layer 2: the program's sum, its end. -/
import Derived.Test.YtpnhinbhhpeklaaD20
set_option linter.unusedVariables false
set_option linter.unusedSimpArgs false
namespace Go.Proofs.Ytpnhinbhhpeklaa
open Go.RowKit Go.Eng DirtyPlain

open Sha
/-- bytes as a text -/
def mkB (xs : List Int) : ByteArray := ⟨(xs.map fun n => UInt8.ofNat n.toNat).toArray⟩
theorem fold_mkB : ∀ (xs : List Int) (r : ByteArray), xs.foldl (fun r n => r.push (UInt8.ofNat n.toNat)) r = ⟨r.data ++ (xs.map fun n => UInt8.ofNat n.toNat).toArray⟩
  | [], r => by simp
  | x :: xs, r => by
    rw [List.foldl_cons, fold_mkB xs]
    simp [ByteArray.push]
theorem bI_mkB {xs : List Int} (h : ∀ b ∈ xs, 0 ≤ b ∧ b < 256) : bI (mkB xs) = xs := by
  rw [bI, mkB]
  simp only [List.map_map]
  refine (List.map_congr_left fun n hn => ?_).trans (List.map_id _)
  have := h n hn
  simp only [Function.comp, id]
  rw [UInt8.toNat_ofNat_of_lt' (by simp; omega)]
  omega
theorem _root_.Go.Eng.y_cbs {P : Program} {w : World} {l : List (Nat × Value)} {o : Oper} {sr ds e c : Nat} {x : Operand} {A : Option Addr} {xs : List Int} (ho : o.op = .convert sr ds x) (hx : evl l x = some (.slice A xs.length c)) (hs : P.underlying sr = some (.slice e)) (he : P.underlying e = some (.int .u8)) (hd : P.underlying ds = some .string)
    (h : Sl w 1 encU8 A xs) : Yl P o l w (.string (mkB xs)) w := fun n a F => by
  have hr := run_convert_bytes_string w sr ds e A xs.length c hs he hd
  have hb : (Conv.bytesToString (.slice A xs.length c)).run P w = .ok (.string (mkB xs)) w := by
    cases A with
    | none =>
      have : xs = [] := by
        rcases xs with _ | ⟨y, ys⟩
        · rfl
        · obtain ⟨b, o, e, _⟩ := h (by simp); cases e
      subst this
      rfl
    | some p =>
      have hl : (loadCells p xs.length).run P w = .ok (xs.map (Value.int .u8)).toArray w := by
        rcases p with ⟨b, off, q⟩
        by_cases hne : xs = []
        · subst hne; rfl
        · obtain ⟨b', o', e', _, hc⟩ := h hne
          cases e'
          have := Go.Eng.run_loadCells (P := P) (xs.map (Value.int .u8)) off 0 #[] w (b := b) (fun j v hv => by
            rw [List.getElem?_map] at hv
            obtain ⟨y, hy, rfl⟩ := Option.map_eq_some_iff.1 hv
            obtain ⟨hj, rfl⟩ := List.getElem?_eq_some_iff.1 hy
            have := hc j xs[j] (List.getElem?_eq_getElem hj) 0 _ rfl
            simpa using this)
          simpa [loadCells] using this
      rw [run_bytesToString w p xs.length c xs hl, fold_mkB]
      simp [mkB, ByteArray.empty, ByteArray.emptyWithCapacity]
      try rfl
  simp [execOp, ho, F.ev hx, hr, hb]
def tailOf (buf : List Int) (N : Int) : List Int := buf ++ 128 :: List.replicate (zpad buf.length) 0 ++ (List.range 8).map fun j => lb (IntKind.u64.wrap (8 * N)) (7 - j)
theorem tailOf_mod (buf : List Int) (N : Int) : (tailOf buf N).length % 64 = 0 := by
  simp [tailOf]; simp only [zpad]; omega
theorem tailOf_range {buf : List Int} (N : Int) (h : ∀ b ∈ buf, 0 ≤ b ∧ b < 256) : ∀ b ∈ tailOf buf N, 0 ≤ b ∧ b < 256 := by
  intro b hb
  simp only [tailOf, List.mem_append, List.mem_cons, List.mem_map] at hb
  rcases hb with (hb | rfl | hb) | ⟨j, _, rfl⟩
  · exact h b hb
  · decide
  · rw [List.eq_of_mem_replicate hb]; decide
  · rw [lb, IntKind.wrap_u8]; omega
set_option maxRecDepth 4000
set_option maxHeartbeats 1000000 in
theorem f39_c {w0 W0 : World} {hb : Nat} {mr : Res} {A : Option Addr} {c : Nat} {N : Int} (s : S8) (buf : List Int) (S : St w0 W0 [bk hb 95 (s.l.flatMap encU32 ++ [Value.slice A (buf).length c, Value.int .u64 N]), ow 5 1 (.slice A (buf).length c) (buf).length ((buf).flatMap encU8), mr]) (hr : ∀ b ∈ buf, 0 ≤ b ∧ b < 256) (hbl : buf.length < 64) :
    Calls Try.prog 39 [.pointer (some ⟨hb, 0, none⟩)].toArray W0 (Ret fun v W' => v = .agg ((outB (absorb s (tailOf buf N) ((tailOf buf N).length / 64))).map (Value.int .u8)).toArray ∧ St w0 W' [bk hb 95 (s.l.flatMap encU32 ++ [Value.slice A (buf).length c, Value.int .u64 N]), ow 5 1 (.slice A (buf).length c) (buf).length ((buf).flatMap encU8), mr]) := by
  refine ent Try.func39 Try.ntmps39 rfl rfl ?_
  intro a F
  refine sq fun K1 hK1 => ?_
  refine rg ?_
  refine dal F S rfl Try.zeroValue32 rfl rfl rfl rfl fun a w b2 F S => ?_
  refine dn ?_
  refine tn <| hK1 _ _ ?_
  refine sq fun K2 hK2 => ?_
  refine sq fun K3 hK3 => ?_
  refine rg ?_
  refine dv F (y_mv rfl rfl) rfl rfl rfl fun a F => ?_
  refine dv F (y_pn rfl rfl rfl Try.underlying81) rfl rfl rfl fun a F => ?_
  refine dn ?_
  refine tn <| hK3 _ _ ?_
  refine cf F rfl rfl ?_
  refine wp_skip ?_
  refine tn <| hK2 _ _ ?_
  refine sq fun K4 hK4 => ?_
  refine rg ?_
  refine dv F (y_mv rfl rfl) rfl rfl rfl fun a F => ?_
  refine dv F (y_nc rfl rfl) rfl rfl rfl fun a F => ?_
  refine dv F (y_fa rfl rfl fi95_0) rfl rfl rfl fun a F => ?_
  refine dv F (y_ld rfl rfl (ldS8 S (i := 0) rfl)) rfl rfl rfl fun a F => ?_
  refine dal F S rfl Try.zeroValue91 rfl rfl rfl rfl fun a w b3 F S => ?_
  refine dsw F S rfl rfl rfl Try.sizeOf91 (i := 4) rfl rfl rfl rfl (allflat one_U32 _) rfl rfl fun a w F S => ?_
  refine dn ?_
  refine tn <| hK4 _ _ ?_
  refine sq fun K5 hK5 => ?_
  have hmb := bI_mkB hr
  refine rg ?_
  refine dv F (y_mv rfl rfl) rfl rfl rfl fun a F => ?_
  refine dv F (y_nc rfl rfl) rfl rfl rfl fun a F => ?_
  refine dv F (y_fa rfl rfl fi95_1) rfl rfl rfl fun a F => ?_
  refine dv F (y_ld rfl rfl (S.ld (i := 0) rfl rfl Try.isAgg87)) rfl rfl rfl fun a F => ?_
  refine dv F (y_cbs rfl rfl Try.underlying87 Try.underlying5 Try.underlying9 (S.ows (i := 1) rfl lenU8 (by decide))) rfl rfl rfl fun a F => ?_
  refine dcb F S rfl rfl Try.underlying9 Try.underlying87 Try.underlying5 (by rw [← bI_len, hmb]; omega) rfl rfl rfl fun a w A1 c1 F S => ?_
  rw [hmb] at F S
  refine dbs F S rfl rfl bs87 rfl rfl rfl fun a w b22 F S => ?_
  refine dap F S rfl rfl rfl (i := 5) rfl (S.fl (i := 6) rfl) rfl one1 Try.underlying87 (by kernel_rfl : AI Try.prog 5 1 1 = true) rfl (N := (buf ++ 128 :: List.replicate 0 0).length) (XS := (buf ++ 128 :: List.replicate 0 0).flatMap encU8) (by simp) (by simp [encU8]) (by simp; omega) (by simp; omega) rfl rfl rfl fun a w A2 c2 F S => ?_
  refine dv F (y_as rfl rfl) rfl rfl rfl fun a F => ?_
  refine dn ?_
  refine tn <| hK5 _ _ ?_
  refine sq fun K6 hK6 => ?_
  refine bl ?_
  refine lp (fun m a w => ∃ (z : Nat) (A3 : Option Addr) (c3 : Nat), m = zpad buf.length - z ∧ (z ≤ zpad buf.length) ∧ Fr 71 a [(0, .pointer (some ⟨hb, 0, none⟩)), (2, .pointer (some ⟨b2, 0, none⟩)), (3, .pointer (some ⟨b3, 0, none⟩)), (4, .slice A3 (buf ++ 128 :: List.replicate z 0).length c3)] ∧ St w0 w [bk b3 91 (s.l.flatMap encU32 ++ []), bk hb 95 (s.l.flatMap encU32 ++ [Value.slice A (buf).length c, Value.int .u64 N]), ow 5 1 (.slice A (buf).length c) (buf).length ((buf).flatMap encU8), mr, bk b2 32 (encD dig0), ow 5 1 (.slice A3 (buf ++ 128 :: List.replicate z 0).length c3) (buf ++ 128 :: List.replicate z 0).length ((buf ++ 128 :: List.replicate z 0).flatMap encU8)]) (zpad buf.length) ?_ ?_
  · exact ⟨0, _, _, rfl, Nat.zero_le _, F.sub _ ⟨rfl, rfl, rfl, rfl, trivial⟩, S.pick [4, 0, 1, 2, 3, 5] _ ⟨rfl, rfl, rfl, rfl, rfl, rfl, trivial⟩ rfl⟩
  · rintro m a w ⟨z, A3, c3, hm, hz, F, S⟩
    have hlen : (buf ++ 128 :: List.replicate z 0).length = buf.length + 1 + z := by simp; omega
    refine sq fun K7 hK7 => ?_
    refine sq fun K8 hK8 => ?_
    refine rg ?_
    refine dv F (y_mv rfl rfl) rfl rfl rfl fun a F => ?_
    refine dv F (y_ln rfl rfl Try.underlying87) rfl rfl rfl fun a F => ?_
    refine dv F (y_rem rfl rfl rfl (by omega)) rfl rfl rfl fun a F => ?_
    refine dv F (y_in rfl rfl rfl) rfl rfl rfl fun a F => ?_
    refine dn ?_
    refine tn <| hK8 _ _ ?_
    refine cb F rfl (fun h1 => ?_) (fun h1 => ?_)
    · have h2 : (buf.length + 1 + z) % 64 ≠ 56 := by
        intro e
        have h4 : ((buf ++ 128 :: List.replicate z 0).length : Int) % 64 = 56 := by omega
        rw [h4] at h1; cases h1
      have hz63 : zpad buf.length < 64 := Nat.mod_lt _ (by decide)
      refine wp_skip ?_
      refine tn <| hK7 _ _ ?_
      refine bl ?_
      refine rg ?_
      refine dv F (y_mv rfl rfl) rfl rfl rfl fun a F => ?_
      refine dbs F S rfl rfl bs87 rfl rfl rfl fun a w b29 F S => ?_
      refine dap F S rfl rfl rfl (i := 5) rfl (S.fl (i := 6) rfl) rfl one1 Try.underlying87 (by kernel_rfl : AI Try.prog 5 1 1 = true) rfl (N := (buf ++ 128 :: List.replicate (z + 1) 0).length) (XS := (buf ++ 128 :: List.replicate (z + 1) 0).flatMap encU8) (by simp; omega) (snoc0 _ _ z) (by simp; omega) (by simp; omega) rfl rfl rfl fun a w A4 c4 F S => ?_
      refine dv F (y_as rfl rfl) rfl rfl rfl fun a F => ?_
      refine dn ?_
      exact bn <| ln (by simp only [zpad] at *; omega) ⟨z + 1, _, _, rfl, by simp only [zpad] at *; omega, F.sub _ ⟨rfl, rfl, rfl, rfl, trivial⟩, S.pick [0, 1, 2, 3, 4, 5] _ ⟨rfl, rfl, rfl, rfl, rfl, rfl, trivial⟩ rfl⟩
    · have h2 : (buf.length + 1 + z) % 64 = 56 := by
        have h4 : ((buf ++ 128 :: List.replicate z 0).length : Int) % 64 = 56 := by simpa using h1
        omega
      refine wp_exit ?_
      refine tx <| lx <| bh <| tn <| hK6 _ _ ?_
      refine sq fun K9 hK9 => ?_
      refine sq fun K10 hK10 => ?_
      obtain rfl : z = zpad buf.length := by simp only [zpad] at *; omega
      have hz63 : zpad buf.length < 64 := Nat.mod_lt _ (by decide)
      clear hlen
      refine rg ?_
      refine dv F (y_as rfl rfl) rfl rfl rfl fun a F => ?_
      refine dn ?_
      refine tn <| hK10 _ _ ?_
      refine bl ?_
      rw [show buf ++ 128 :: List.replicate (zpad buf.length) 0 = buf ++ 128 :: List.replicate (zpad buf.length) 0 ++ (List.range 0).map (fun j => lb (IntKind.u64.wrap (8 * N)) (7 - j)) by simp] at F S
      refine lp (fun m a w => ∃ (k : Nat) (A3 : Option Addr) (c3 : Nat), m = 8 - k ∧ (k ≤ 8) ∧ Fr 71 a [(0, .pointer (some ⟨hb, 0, none⟩)), (2, .pointer (some ⟨b2, 0, none⟩)), (3, .pointer (some ⟨b3, 0, none⟩)), (4, .slice A3 (buf ++ 128 :: List.replicate (zpad buf.length) 0 ++ (List.range k).map (fun j => lb (IntKind.u64.wrap (8 * N)) (7 - j))).length c3), (5, .int .i64 (56 - 8 * (k : Int)))] ∧ St w0 w [bk b3 91 (s.l.flatMap encU32 ++ []), bk hb 95 (s.l.flatMap encU32 ++ [Value.slice A (buf).length c, Value.int .u64 N]), ow 5 1 (.slice A (buf).length c) (buf).length ((buf).flatMap encU8), mr, bk b2 32 (encD dig0), ow 5 1 (.slice A3 (buf ++ 128 :: List.replicate (zpad buf.length) 0 ++ (List.range k).map (fun j => lb (IntKind.u64.wrap (8 * N)) (7 - j))).length c3) (buf ++ 128 :: List.replicate (zpad buf.length) 0 ++ (List.range k).map (fun j => lb (IntKind.u64.wrap (8 * N)) (7 - j))).length ((buf ++ 128 :: List.replicate (zpad buf.length) 0 ++ (List.range k).map (fun j => lb (IntKind.u64.wrap (8 * N)) (7 - j))).flatMap encU8)]) (8) ?_ ?_
      · exact ⟨0, _, _, rfl, Nat.zero_le _, F.sub _ ⟨rfl, rfl, rfl, rfl, rfl, trivial⟩, S.pick [0, 1, 2, 3, 4, 5] _ ⟨rfl, rfl, rfl, rfl, rfl, rfl, trivial⟩ rfl⟩
      · rintro m a w ⟨k, A3, c3, hm, hk, F, S⟩
        refine sq fun K11 hK11 => ?_
        refine sq fun K12 hK12 => ?_
        refine rg ?_
        refine dv F (y_mv rfl rfl) rfl rfl rfl fun a F => ?_
        refine dv F (y_ge rfl rfl rfl) rfl rfl rfl fun a F => ?_
        refine dn ?_
        refine tn <| hK12 _ _ ?_
        refine cd F rfl (fun h3 => ?_) (fun h3 => ?_)
        · refine wp_skip ?_
          refine tn <| hK11 _ _ ?_
          refine sq fun K13 hK13 => ?_
          refine bl ?_
          refine rg ?_
          refine dv F (y_mv rfl rfl) rfl rfl rfl fun a F => ?_
          refine dv F (y_mv rfl rfl) rfl rfl rfl fun a F => ?_
          refine dv F (y_nc rfl rfl) rfl rfl rfl fun a F => ?_
          refine dv F (y_fa rfl rfl fi95_2) rfl rfl rfl fun a F => ?_
          refine dv F (y_ld rfl rfl (S.ld (i := 1) rfl rfl Try.isAgg93)) rfl rfl rfl fun a F => ?_
          refine dv F (y_wm rfl rfl rfl) rfl rfl rfl fun a F => ?_
          refine dv F (y_mv rfl rfl) rfl rfl rfl fun a F => ?_
          refine dv F (y_shr (m := 8 * (7 - k)) rfl rfl rfl (by omega)) rfl rfl rfl fun a F => ?_
          refine dv F (y_cvt rfl rfl ⟨_, Try.underlying93⟩ Try.underlying5) rfl rfl rfl fun a F => ?_
          refine dbs F S rfl rfl bs87 rfl rfl rfl fun a w b44 F S => ?_
          refine dap F S rfl rfl rfl (i := 5) rfl (S.fl (i := 6) rfl) rfl one1 Try.underlying87 (by kernel_rfl : AI Try.prog 5 1 1 = true) rfl (N := (buf ++ 128 :: List.replicate (zpad buf.length) 0 ++ (List.range (k + 1)).map (fun j => lb (IntKind.u64.wrap (8 * N)) (7 - j))).length) (XS := (buf ++ 128 :: List.replicate (zpad buf.length) 0 ++ (List.range (k + 1)).map (fun j => lb (IntKind.u64.wrap (8 * N)) (7 - j))).flatMap encU8) (by simp; omega) (by rw [List.range_succ]; simp [encU8, lb]) (by simp; omega) (by simp; omega) rfl rfl rfl fun a w A4 c4 F S => ?_
          refine dv F (y_as rfl rfl) rfl rfl rfl fun a F => ?_
          refine dn ?_
          refine bn <| tn <| hK13 _ _ ?_
          refine rg ?_
          refine dv F (y_mv rfl rfl) rfl rfl rfl fun a F => ?_
          refine dv F (y_sub rfl rfl rfl (by omega)) rfl rfl rfl fun a F => ?_
          refine dv F (y_as rfl rfl) rfl rfl rfl fun a F => ?_
          refine dn ?_
          rw [show (56 : Int) - 8 * (k : Int) - 8 = 56 - 8 * ((k + 1 : Nat) : Int) by omega] at F
          exact ln (by omega) ⟨k + 1, _, _, rfl, by omega, F.sub _ ⟨rfl, rfl, rfl, rfl, rfl, trivial⟩, S.pick [0, 1, 2, 3, 4, 5] _ ⟨rfl, rfl, rfl, rfl, rfl, rfl, trivial⟩ rfl⟩
        · refine wp_exit ?_
          refine tx <| lx <| bh <| tn <| hK9 _ _ ?_
          refine sq fun K14 hK14 => ?_
          refine bl ?_
          obtain rfl : k = 8 := by omega
          have hTm := tailOf_mod buf N
          have hTr := tailOf_range N hr
          refine lp (fun m a w => ∃ (k : Nat) (A3 : Option Addr) (c3 : Nat), m = (tailOf buf N).length / 64 - k ∧ (64 * k ≤ (tailOf buf N).length) ∧ Fr 71 a [(0, .pointer (some ⟨hb, 0, none⟩)), (2, .pointer (some ⟨b2, 0, none⟩)), (3, .pointer (some ⟨b3, 0, none⟩)), (4, .slice A3 ((tailOf buf N).drop (64 * k)).length c3)] ∧ St w0 w [bk b3 91 ((absorb s (tailOf buf N) k).l.flatMap encU32 ++ []), bk hb 95 (s.l.flatMap encU32 ++ [Value.slice A (buf).length c, Value.int .u64 N]), ow 5 1 (.slice A (buf).length c) (buf).length ((buf).flatMap encU8), mr, bk b2 32 (encD dig0), ow 5 1 (.slice A3 (((tailOf buf N).drop (64 * k))).length c3) (((tailOf buf N).drop (64 * k))).length ((((tailOf buf N).drop (64 * k))).flatMap encU8)]) ((tailOf buf N).length / 64) ?_ ?_
          · exact ⟨0, _, _, rfl, Nat.zero_le _, F.sub _ ⟨rfl, rfl, rfl, rfl, trivial⟩, S.pick [0, 1, 2, 3, 4, 5] _ ⟨rfl, rfl, rfl, rfl, rfl, rfl, trivial⟩ rfl⟩
          · rintro m a w ⟨k, A3, c3, hm, hk, F, S⟩
            have hdl : (((tailOf buf N).drop (64 * k))).length = (tailOf buf N).length - 64 * k := List.length_drop ..
            obtain ⟨_, _, hv_, _, hcP, _⟩ := S.ok (i := 5) rfl
            cases hv_
            refine sq fun K15 hK15 => ?_
            refine sq fun K16 hK16 => ?_
            refine rg ?_
            refine dv F (y_mv rfl rfl) rfl rfl rfl fun a F => ?_
            refine dv F (y_ln rfl rfl Try.underlying87) rfl rfl rfl fun a F => ?_
            refine dv F (y_gt rfl rfl rfl) rfl rfl rfl fun a F => ?_
            refine dn ?_
            refine tn <| hK16 _ _ ?_
            refine cd F rfl (fun h4 => ?_) (fun h4 => ?_)
            · refine wp_skip ?_
              refine tn <| hK15 _ _ ?_
              refine sq fun K17 hK17 => ?_
              refine bl ?_
              have hq : ((((tailOf buf N).drop (64 * k)).take 64)).length = 64 := by rw [List.length_take, hdl]; omega
              refine rg ?_
              refine dv F (y_mv rfl rfl) rfl rfl rfl fun a F => ?_
              refine dv F (y_slh (m := ((((tailOf buf N).drop (64 * k)).take 64)).length) rfl rfl rfl Try.underlying87 Try.sizeOf5 (by rw [hq]; rfl) (by omega)) rfl rfl rfl fun a F => ?_
              refine dc F (c_f rfl rfl rfl Try.call43) rfl rfl rfl (f43_c (absorb s (tailOf buf N) k) (((tailOf buf N).drop (64 * k)).take 64) S.pack (fun w h => (ow_sl (h 4 _ rfl) lenU8 (by decide)).take 64) hq (fun b hb => hTr b (List.mem_of_mem_drop (List.mem_of_mem_take hb)))) fun a v w' hr F => ?_
              obtain _ := hr
              replace S := Go.Eng.St.unpack hr S
              refine dn ?_
              refine bn <| tn <| hK17 _ _ ?_
              refine rg ?_
              refine dv F (y_mv rfl rfl) rfl rfl rfl fun a F => ?_
              refine dv F (y_sll (lo := 64) (N := ((tailOf buf N).drop (64 * (k + 1))).length) rfl rfl rfl Try.underlying87 Try.sizeOf5 rfl (by rw [List.length_drop, List.length_drop]; omega) (by omega) (by omega)) rfl rfl rfl fun a F => ?_
              refine dv F (y_as rfl rfl) rfl rfl rfl fun a F => ?_
              refine dn ?_
              have hcd : 64 ≤ (((tailOf buf N).drop (64 * k))).length := by omega
              have hk1 : 64 * (k + 1) ≤ (tailOf buf N).length := le_step64 hdl hcd
              replace S := ow_drop S (i := 5) (m := 64) rfl hcd
              rw [show (((tailOf buf N).drop (64 * k))).length - 64 = ((tailOf buf N).drop (64 * (k + 1))).length by rw [hdl, List.length_drop]; omega, show ((((tailOf buf N).drop (64 * k))).flatMap encU8).drop (64 * 1) = ((tailOf buf N).drop (64 * (k + 1))).flatMap encU8 by rw [flatU8, flatU8, ← List.map_drop, List.drop_drop, Nat.mul_add]] at S
              exact ln (by omega) ⟨k + 1, _, _, rfl, hk1, F.sub _ ⟨rfl, rfl, rfl, rfl, trivial⟩, S.pick [0, 1, 2, 3, 4, 5] _ ⟨rfl, rfl, rfl, rfl, rfl, rfl, trivial⟩ rfl⟩
            · refine wp_exit ?_
              refine tx <| lx <| bh <| tn <| hK14 _ _ ?_
              refine sq fun K18 hK18 => ?_
              obtain ⟨t, ht⟩ : ∃ t, t = absorb s (tailOf buf N) k := ⟨_, rfl⟩
              rw [← ht] at S
              have hkk : k = (tailOf buf N).length / 64 := by omega
              refine rg ?_
              refine dal F S rfl Try.zeroValue32 rfl rfl rfl rfl fun a w b6 F S => ?_
              refine dn ?_
              refine tn <| hK18 _ _ ?_
              refine sq fun K19 hK19 => ?_
              refine sq fun K20 hK20 => ?_
              refine rg ?_
              refine dv F (y_mv rfl rfl) rfl rfl rfl fun a F => ?_
              refine dn ?_
              refine tn <| hK20 _ _ ?_
              refine bl ?_
              refine lp (fun m a w => ∃ i : Nat, m = 32 - i ∧ (i ≤ 32) ∧ Fr 71 a [(0, .pointer (some ⟨hb, 0, none⟩)), (2, .pointer (some ⟨b2, 0, none⟩)), (3, .pointer (some ⟨b3, 0, none⟩)), (6, .pointer (some ⟨b6, 0, none⟩)), (54, .int .i64 (i : Int))] ∧ St w0 w [bk b3 91 (t.l.flatMap encU32 ++ []), bk hb 95 (s.l.flatMap encU32 ++ [Value.slice A (buf).length c, Value.int .u64 N]), ow 5 1 (.slice A (buf).length c) (buf).length ((buf).flatMap encU8), mr, bk b2 32 (encD dig0), bk b6 32 ((ob8 t i).flatMap encU8)]) (32) ?_ ?_
              · exact ⟨0, rfl, Nat.zero_le _, F.sub _ ⟨rfl, rfl, rfl, rfl, rfl, trivial⟩, S.pick [0, 1, 2, 3, 4, 6] _ ⟨rfl, rfl, rfl, rfl, rfl, rfl, trivial⟩ rfl⟩
              · rintro m a w ⟨i, hm, hi, F, S⟩
                refine sq fun K21 hK21 => ?_
                refine rg ?_
                refine dv F (y_lt rfl rfl rfl) rfl rfl rfl fun a F => ?_
                refine dn ?_
                refine tn <| hK21 _ _ ?_
                refine sq fun K22 hK22 => ?_
                refine cd F rfl (fun h5 => ?_) (fun h5 => ?_)
                · refine wp_skip ?_
                  refine tn <| hK22 _ _ ?_
                  refine sq fun K23 hK23 => ?_
                  refine bl ?_
                  refine sq fun K24 hK24 => ?_
                  refine rg ?_
                  refine dv F (y_mv rfl rfl) rfl rfl rfl fun a F => ?_
                  refine dv F (y_as rfl rfl) rfl rfl rfl fun a F => ?_
                  refine dn ?_
                  refine tn <| hK24 _ _ ?_
                  have hi2 : i < 32 := by omega
                  refine rg ?_
                  refine dv F (y_mv rfl rfl) rfl rfl rfl fun a F => ?_
                  refine dv F (y_mv rfl rfl) rfl rfl rfl fun a F => ?_
                  refine dv F (y_quo rfl rfl rfl (by omega)) rfl rfl rfl fun a F => ?_
                  refine dv F (y_ip rfl rfl rfl Try.underlying91 Try.sizeOf85 (i / 4) (by omega) (by omega)) rfl rfl rfl fun a F => ?_
                  refine dv F (y_ld rfl rfl (arrUR (xs := t.l) S (i := 0) rfl Try.isAgg85 (j := i / 4) (show i / 4 < 8 by omega))) rfl rfl rfl fun a F => ?_
                  refine dv F (y_mv rfl rfl) rfl rfl rfl fun a F => ?_
                  refine dv F (y_rem rfl rfl rfl (by omega)) rfl rfl rfl fun a F => ?_
                  refine dv F (y_mul rfl rfl rfl (by omega)) rfl rfl rfl fun a F => ?_
                  refine dv F (y_sub rfl rfl rfl (by omega)) rfl rfl rfl fun a F => ?_
                  refine dv F (y_shr (m := 24 - 8 * (i % 4)) rfl rfl rfl (by omega)) rfl rfl rfl fun a F => ?_
                  refine dv F (y_cvt rfl rfl ⟨_, Try.underlying85⟩ Try.underlying5) rfl rfl rfl fun a F => ?_
                  refine dv F (y_ip rfl rfl rfl Try.underlying32 Try.sizeOf5 i rfl hi2) rfl rfl rfl fun a F => ?_
                  refine dst F S rfl rfl rfl Try.sizeOf5 (i := 5) rfl rfl (by rw [flat_len lenU8, ob8_len t hi]; omega) one1 rfl rfl fun a w F S => ?_
                  rw [setO (by rw [ob8_len t hi]; exact hi2), ob8_succ t hi2] at S
                  refine dn ?_
                  refine bn <| tn <| hK23 _ _ ?_
                  refine rg ?_
                  refine dv F (y_add rfl rfl rfl (by omega)) rfl rfl rfl fun a F => ?_
                  refine dv F (y_mv rfl rfl) rfl rfl rfl fun a F => ?_
                  refine dn ?_
                  exact ln (by omega) ⟨i + 1, rfl, by omega, F.sub _ ⟨rfl, rfl, rfl, rfl, rfl, trivial⟩, S.pick [0, 1, 2, 3, 4, 5] _ ⟨rfl, rfl, rfl, rfl, rfl, rfl, trivial⟩ rfl⟩
                · refine wp_exit ?_
                  refine tx <| lx <| bh <| tn <| hK19 _ _ ?_
                  refine sq fun K25 hK25 => ?_
                  obtain rfl : i = 32 := by omega
                  have hO32 : ((ob8 t 32).flatMap encU8).length = 32 := by rw [flat_len lenU8, ob8_len t (by omega)]
                  refine rg ?_
                  refine dv F (y_ld rfl rfl (S.lda (i := 5) rfl Try.isAgg32 Try.sizeOf32 hO32)) rfl rfl rfl fun a F => ?_
                  refine dsw F S rfl rfl rfl Try.sizeOf32 (i := 4) rfl rfl hO32 rfl (allflat one_U8 _) rfl rfl fun a w F S => ?_
                  refine dn ?_
                  refine tn <| hK25 _ _ ?_
                  refine wp_ret ?_
                  refine ?_
                  exact rc1 F rfl rfl (S.lda (i := 4) rfl Try.isAgg32 Try.sizeOf32 hO32) ⟨by rw [show ob8 t 32 = outB t by simp [ob8, outB_len, List.take_of_length_le], ht, hkk, ← flatU8]; rfl, S.pick [1, 2, 3] _ ⟨rfl, rfl, rfl, trivial⟩ rfl⟩

end Go.Proofs.Ytpnhinbhhpeklaa
