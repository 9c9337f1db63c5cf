/- Walks of layers 2 and 27: sums. -/
import Derived.Test.YtpnhinbhhpeklaaD21
set_option linter.unusedVariables false
set_option linter.unusedSimpArgs false
namespace Go.Proofs.Ytpnhinbhhpeklaa
open Go.RowKit Go.Eng DirtyPlain
theorem fi37_2 : FieldIs Try.prog 37 2 2 := fieldIs (z := 31) Try.underlying37 rfl rfl rfl Try.sizeOf32
theorem fi54_0 : FieldIs Try.prog 54 0 0 := fieldIs (z := 0) Try.underlying54 rfl rfl rfl Try.sizeOf9
theorem fi54_1 : FieldIs Try.prog 54 1 1 := fieldIs (z := 0) Try.underlying54 rfl rfl rfl Try.sizeOf4
theorem fi54_2 : FieldIs Try.prog 54 2 2 := fieldIs (z := 0) Try.underlying54 rfl rfl rfl Try.sizeOf9
open Sha
structure Kn where
  path : ByteArray
  is : Bool
  data : ByteArray
def encK (k : Kn) : List Value := [.string k.path, .bool k.is, .string k.data]
def rd0 : Rd := ⟨⟨#[]⟩, false, dig0⟩
def cat (ps : List ByteArray) : List Int := ps.flatMap bI
theorem cat_one (p : ByteArray) : cat [p] = bI p := by simp [cat]
theorem cat_succ {ps : List ByteArray} {i : Nat} (h : i < ps.length) : cat (ps.take (i + 1)) = cat (ps.take i) ++ bI ps[i] := by
  simp only [cat]
  rw [List.take_succ_eq_append_getElem h, List.flatMap_append]; simp
theorem cat_le {ps : List ByteArray} {i : Nat} (h : i < ps.length) {n : Nat} (hs : (cat ps).length ≤ n) : (cat (ps.take i)).length + ps[i].size ≤ n ∧ n ≤ n := by
  have e : cat ps = cat (ps.take (i + 1)) ++ cat (ps.drop (i + 1)) := by simp only [cat]; rw [← List.flatMap_append, List.take_append_drop]
  rw [e, cat_succ h] at hs
  simp only [List.length_append, bI_len] at hs
  omega
theorem cat_u64 {X : List Int} {p : ByteArray} {n : Nat} (h : X.length + p.size ≤ 1000000) (_ : n ≤ n) : IntKind.u64.wrap ((X.length : Int) + IntKind.u64.wrap (p.size : Int)) = ((X ++ bI p).length : Int) := by
  rw [IntWalk.u64_in (p.size : Int) (by omega), IntWalk.u64_in _ (by omega), List.length_append, bI_len]; omega
def sAt (X : List Int) : S8 := absorb S0 X (X.length / 64)
def bAt (X : List Int) : List Int := X.drop (64 * (X.length / 64))
theorem sAt_nil : sAt [] = S0 := by simp [sAt, absorb]
theorem bAt_nil : bAt [] = [] := by simp [bAt]
theorem bAt_len (X : List Int) : (bAt X).length < 64 := by rw [bAt, List.length_drop]; omega
theorem bAt_full (X : List Int) : (bAt X).length = X.length - 64 * (X.length / 64) := by rw [bAt, List.length_drop]
theorem absorb_take (X : List Int) {q : Nat} (h : 64 * q ≤ X.length) : absorb S0 X q = absorb S0 (X.take (64 * q)) q := by
  have := absorb_append S0 (X.take (64 * q)) (X.drop (64 * q)) q (by rw [List.length_take]; omega) 0
  rw [List.take_append_drop] at this
  exact this
theorem absorb_more (X Y : List Int) (r : Nat) : absorb S0 (X ++ Y) (X.length / 64 + r) = absorb (sAt X) (bAt X ++ Y) r := by
  have e : X ++ Y = X.take (64 * (X.length / 64)) ++ (bAt X ++ Y) := by rw [bAt, ← List.append_assoc, List.take_append_drop]
  rw [e, absorb_append S0 _ _ _ (by rw [List.length_take]; omega), sAt, absorb_take X (q := X.length / 64) (by omega)]
theorem div_more (X Y : List Int) : (X ++ Y).length / 64 = X.length / 64 + (bAt X ++ Y).length / 64 := by
  rw [List.length_append, List.length_append, bAt_full]; omega
theorem sAt_app (X Y : List Int) : sAt (X ++ Y) = absorb (sAt X) (bAt X ++ Y) ((bAt X ++ Y).length / 64) := by
  rw [← absorb_more, sAt, div_more]
theorem bAt_app (X Y : List Int) : bAt (X ++ Y) = (bAt X ++ Y).drop (64 * ((bAt X ++ Y).length / 64)) := by
  have e : X ++ Y = X.take (64 * (X.length / 64)) ++ (bAt X ++ Y) := by rw [bAt, ← List.append_assoc, List.take_append_drop]
  have h1 := div_more X Y
  rw [bAt, h1]
  conv => lhs; rw [e]
  rw [List.drop_append, List.drop_eq_nil_of_le (by rw [List.length_take]; omega), List.nil_append]
  congr 1
  rw [List.length_take]; omega
theorem cat_range (ps : List ByteArray) : ∀ b ∈ cat ps, 0 ≤ b ∧ b < 256 := by
  intro b hb
  obtain ⟨p, _, h⟩ := List.mem_flatMap.1 hb
  exact bI_range p b h
theorem bAt_range (ps : List ByteArray) : ∀ b ∈ bAt (cat ps), 0 ≤ b ∧ b < 256 := fun b hb => cat_range ps b (List.mem_of_mem_drop hb)
theorem digest_len (X : List Int) : (digest X).length = 32 := outB_len _
def dgst (X : List Int) : Dig := ⟨digest X, digest_len X⟩
theorem zpad_mod (a b : Nat) (h : a % 64 = b % 64) : zpad a = zpad b := by simp only [zpad]; omega
theorem tail_eq {X : List Int} (h : X.length ≤ 1000000) : tailOf (bAt X) (X.length : Int) = bAt X ++ (128 :: List.replicate (zpad X.length) 0 ++ (List.range 8).map fun j => lb (nbits X.length) (7 - j)) := by
  rw [tailOf, zpad_mod (bAt X).length X.length (by rw [bAt_full]; omega), nbits, IntWalk.u64_in (X.length : Int) (by omega), Int.mul_comm 8, List.append_assoc, List.cons_append]
theorem digest_end {X : List Int} (h : X.length ≤ 1000000) : (Value.agg ((outB (absorb (sAt X) (tailOf (bAt X) (X.length : Int)) ((tailOf (bAt X) (X.length : Int)).length / 64))).map (Value.int .u8)).toArray) = .agg (encD (dgst X)).toArray := by
  show _ = Value.agg ((outB (absorb S0 (padded X) ((padded X).length / 64))).map (Value.int .u8)).toArray
  have key : ∀ Y, outB (absorb (sAt X) (bAt X ++ Y) ((bAt X ++ Y).length / 64)) = outB (absorb S0 (X ++ Y) ((X ++ Y).length / 64)) := fun Y => by rw [div_more X Y, absorb_more X Y]
  rw [tail_eq h, key, padded, List.append_assoc]
def sumRd (k : Kn) : Rd := ⟨k.path, k.is, if k.is = true then dgst (bI k.data) else dig0⟩
theorem bdK2 {p : ByteArray} {b : Bool} (w : World) : (Instr.build 37 [(0, .string p), (1, .bool b)].toArray).run Try.prog w = .ok (.agg (encRd ⟨p, b, dig0⟩).toArray) w := by kernel_rfl
theorem bdK1 {p : ByteArray} (w : World) : (Instr.build 37 [(0, .string p)].toArray).run Try.prog w = .ok (.agg (encRd ⟨p, false, dig0⟩).toArray) w := by kernel_rfl
theorem bdK3 {p : ByteArray} {b : Bool} {d : Dig} (w : World) : (Instr.build 37 [(0, .string p), (1, .bool b), (2, .agg (encD d).toArray)].toArray).run Try.prog w = .ok (.agg (encRd ⟨p, b, d⟩).toArray) w :=
  match d with
  | ⟨[a0, a1, a2, a3, a4, a5, a6, a7, a8, a9, a10, a11, a12, a13, a14, a15, a16, a17, a18, a19, a20, a21, a22, a23, a24, a25, a26, a27, a28, a29, a30, a31], _⟩ => by kernel_rfl
theorem bsS1 {p : ByteArray} (w : World) : (Instr.buildSlice 45 1 [(0, .string p)].toArray).run Try.prog w = .ok (.slice (some ⟨w.heap.size, 0, none⟩) 1 1) (w.alloc (.cells (encS p).toArray 9)) := by kernel_rfl
theorem putl_app (a b c : List Value) (h : b.length = c.length) : putl (a ++ b) a.length c = a ++ c := by
  rcases putl_whole c a b with h1 | h1
  · rw [h1, List.drop_eq_nil_of_le (by omega), List.append_nil]
  · omega
theorem putl_sum (r : Rd) (d : Dig) : putl (cellsOf (.agg (encRd r).toArray)) (0 + 2) (cellsOf (.agg (encD d).toArray)) = encRd ⟨r.path, r.is, d⟩ := by
  have := putl_app [.string r.path, .bool r.is] (encD r.sum) (encD d) (by rw [len32, len32])
  simpa [encRd, cellsOf] using this
theorem f31_d (sg : ByteArray) (hs : sg.size ≤ 1000000) (w0 : World) : Calls Try.prog 31 [.string sg].toArray w0 (Ret fun v w' => v = .agg (encD (dgst (bI sg))).toArray ∧ Below w0.heap.size w0 w') := f31_c sg hs w0
section
variable {w : World} {l : List (Nat × Value)} {o : Oper}
theorem y_eq37 {s : Nat} {x y : Operand} {p q : Rd} (ho : o.op = .binOp .eql 37 x y s) (hx : evl l x = some (.agg (encRd p).toArray)) (hy : evl l y = some (.agg (encRd q).toArray)) : Yl Try.prog o l w (.bool (decide (p = q))) w := fun n a F => by
  simp only [execOp, ho, F.ev hx, F.ev hy, Sem.run_bind, Sem.run_pure]
  rw [run_eqGuard_agg w _ _ _ _ _ _ Try.eqGuardType37, Result.andThen_ok, run_eql_struct, eqRd p q 9997]
  rfl
end
set_option maxRecDepth 4000
set_option maxHeartbeats 1000000 in
theorem f30_c {A : Option Addr} {c : Nat} (ps : List ByteArray) (w0 : World) (hA : Sl w0 1 encS A ps) (hs : (cat ps).length ≤ 1000000) (hpn : ps.length ≤ 1000000) :
    Calls Try.prog 30 [.slice A ps.length c].toArray w0 (Ret fun v w' => v = .agg (encD (dgst (cat ps))).toArray ∧ Below w0.heap.size w0 w') := by
  refine ent Try.func30 Try.ntmps30 rfl rfl ?_
  intro a F
  have S := St.refl w0
  refine sq fun K1 hK1 => ?_
  refine rg ?_
  refine dal F S rfl Try.zeroValue32 rfl rfl rfl rfl fun a w b2 F S => ?_
  refine dn ?_
  refine tn <| hK1 _ _ ?_
  refine sq fun K2 hK2 => ?_
  refine rg ?_
  refine dc F (c_f rfl rfl rfl Try.call37) rfl rfl rfl (f37_c _) fun a v w' hr F => ?_
  obtain ⟨⟨b6, rfl, hb1, hlo1⟩, hb2⟩ := hr
  replace S := S.callRow hb2 hb1 hlo1
  rw [← S0_l] at S
  replace S := ow_nil S 5 1
  refine dv F (y_as rfl rfl) rfl rfl rfl fun a F => ?_
  refine dn ?_
  refine tn <| hK2 _ _ ?_
  refine sq fun K3 hK3 => ?_
  refine sq fun K4 hK4 => ?_
  refine rg ?_
  refine dv F (y_mv rfl rfl) rfl rfl rfl fun a F => ?_
  refine dv F (y_ln rfl rfl Try.underlying45) rfl rfl rfl fun a F => ?_
  refine dv F (y_mv rfl rfl) rfl rfl rfl fun a F => ?_
  refine dn ?_
  refine tn <| hK4 _ _ ?_
  refine bl ?_
  replace S : St w0 w' [bk b2 32 (encD dig0), bk b6 95 ((sAt (cat (ps.take 0))).l.flatMap encU32 ++ [Value.slice none (bAt (cat (ps.take 0))).length 0, Value.int .u64 ((cat (ps.take 0)).length : Int)]), ow 5 1 (.slice none (bAt (cat (ps.take 0))).length 0) (bAt (cat (ps.take 0))).length ((bAt (cat (ps.take 0))).flatMap encU8)] := by rw [show cat (ps.take 0) = [] from rfl, sAt_nil, bAt_nil]; exact S
  refine lp (fun m a w => ∃ (i : Nat) (A3 : Option Addr) (c3 : Nat), m = ps.length - i ∧ (i ≤ ps.length) ∧ Fr 19 a [(2, .pointer (some ⟨b2, 0, none⟩)), (3, .pointer (some ⟨b6, 0, none⟩)), (7, .slice A ps.length c), (8, .int .i64 (ps.length : Int)), (9, .int .i64 (i : Int))] ∧ St w0 w [bk b6 95 ((sAt (cat (ps.take i))).l.flatMap encU32 ++ [Value.slice A3 (bAt (cat (ps.take i))).length c3, Value.int .u64 ((cat (ps.take i)).length : Int)]), ow 5 1 (.slice A3 (bAt (cat (ps.take i))).length c3) (bAt (cat (ps.take i))).length ((bAt (cat (ps.take i))).flatMap encU8), bk b2 32 (encD dig0)]) (ps.length) ?_ ?_
  · exact ⟨0, _, _, rfl, Nat.zero_le _, F.sub _ ⟨rfl, rfl, rfl, rfl, rfl, trivial⟩, S.pick [1, 2, 0] _ ⟨rfl, rfl, rfl, trivial⟩ rfl⟩
  · rintro m a w ⟨i, A3, c3, hm, hi, F, S⟩
    refine sq fun K5 hK5 => ?_
    refine rg ?_
    refine dv F (y_lt rfl rfl rfl) rfl rfl rfl fun a F => ?_
    refine dn ?_
    refine tn <| hK5 _ _ ?_
    refine sq fun K6 hK6 => ?_
    refine cd F rfl (fun h1 => ?_) (fun h1 => ?_)
    · refine wp_skip ?_
      refine tn <| hK6 _ _ ?_
      refine sq fun K7 hK7 => ?_
      refine bl ?_
      refine sq fun K8 hK8 => ?_
      have hlt : i < ps.length := by omega
      obtain ⟨ab, ao, rfl, hab, hcell⟩ := (hA.st S).at_ hlt
      have hle := cat_le hlt hs
      refine rg ?_
      refine dv F (y_ia rfl rfl rfl rfl Try.underlying45 Try.sizeOf9 i rfl hlt) rfl rfl rfl fun a F => ?_
      refine dv F (y_ld rfl rfl (ld1 Try.isAgg9 (hcell 0 _ rfl))) rfl rfl rfl fun a F => ?_
      refine dv F (y_as rfl rfl) rfl rfl rfl fun a F => ?_
      refine dn ?_
      refine tn <| hK8 _ _ ?_
      refine rg ?_
      refine dv F (y_mv rfl rfl) rfl rfl rfl fun a F => ?_
      refine dv F (y_mv rfl rfl) rfl rfl rfl fun a F => ?_
      refine dc F (c_f rfl rfl rfl Try.call38) rfl rfl rfl (f38_c (sAt (cat (ps.take i))) (bAt (cat (ps.take i))) ps[i] S (bAt_range _) (by have := bAt_len (cat (ps.take i)); omega) (by omega)) fun a v w' hr F => ?_
      obtain ⟨A4, c4, S4⟩ := hr
      rw [← sAt_app, ← bAt_app, cat_u64 hle.1 hle.2, ← cat_succ hlt] at S4
      replace S := S4
      refine dn ?_
      refine bn <| tn <| hK7 _ _ ?_
      refine rg ?_
      refine dv F (y_add rfl rfl rfl (by omega)) rfl rfl rfl fun a F => ?_
      refine dv F (y_mv rfl rfl) rfl rfl rfl fun a F => ?_
      refine dn ?_
      exact ln (by omega) ⟨i + 1, _, _, rfl, by omega, F.sub _ ⟨rfl, rfl, rfl, rfl, rfl, trivial⟩, S.pick [0, 1, 2] _ ⟨rfl, rfl, rfl, trivial⟩ rfl⟩
    · refine wp_exit ?_
      refine tx <| lx <| bh <| tn <| hK3 _ _ ?_
      refine sq fun K9 hK9 => ?_
      obtain rfl : i = ps.length := by omega
      rw [List.take_length] at S
      refine rg ?_
      refine dv F (y_mv rfl rfl) rfl rfl rfl fun a F => ?_
      refine dc F (c_f rfl rfl rfl Try.call39) rfl rfl rfl (f39_c (sAt (cat ps)) (bAt (cat ps)) S (bAt_range _) (bAt_len _)) fun a v w' hr F => ?_
      obtain ⟨rfl, S4⟩ := hr
      replace S := S4
      rw [digest_end hs] at F
      refine dsw F S rfl rfl rfl Try.sizeOf32 (i := 2) rfl rfl (len32 _) rfl (one32 _) rfl rfl fun a w F S => ?_
      refine dn ?_
      refine tn <| hK9 _ _ ?_
      refine wp_ret ?_
      refine ?_
      exact rc1 F rfl rfl (S.lda (i := 2) rfl Try.isAgg32 Try.sizeOf32 (len32 _)) ⟨by simp [cellsOf], S.bel⟩

theorem f18_c (k : Kn) (w0 : World) (hs : k.data.size ≤ 1000000) :
    Calls Try.prog 18 [.agg (encK k).toArray].toArray w0 (Ret fun v w' => v = .agg (encRd (sumRd k)).toArray ∧ Below w0.heap.size w0 w') := by
  refine ent Try.func18 Try.ntmps18 rfl rfl ?_
  intro a F
  have S := St.refl w0
  refine sq fun K1 hK1 => ?_
  refine rg ?_
  refine dbx F S rfl rfl rfl rfl rfl rfl fun a w b1 F S => ?_
  refine dal F S rfl Try.zeroValue37 rfl rfl rfl rfl fun a w b2 F S => ?_
  refine dn ?_
  refine tn <| hK1 _ _ ?_
  refine sq fun K2 hK2 => ?_
  refine rg ?_
  refine dv F (y_fa rfl rfl fi54_0) rfl rfl rfl fun a F => ?_
  refine dv F (y_ld rfl rfl (S.ld (i := 0) rfl rfl Try.isAgg9)) rfl rfl rfl fun a F => ?_
  refine dv F (y_fa rfl rfl fi54_1) rfl rfl rfl fun a F => ?_
  refine dv F (y_ld rfl rfl (S.ld (i := 0) rfl rfl Try.isAgg4)) rfl rfl rfl fun a F => ?_
  refine dv F (y_bd rfl rfl (bdK2)) rfl rfl rfl fun a F => ?_
  refine dal F S rfl Try.zeroValue37 rfl rfl rfl rfl fun a w b3 F S => ?_
  refine dsw F S rfl rfl rfl Try.sizeOf37 (i := 2) rfl rfl (len37 _) rfl (one37 _) rfl rfl fun a w F S => ?_
  refine dn ?_
  refine tn <| hK2 _ _ ?_
  refine sq fun K3 hK3 => ?_
  refine sq fun K4 hK4 => ?_
  refine rg ?_
  refine dv F (y_fa rfl rfl fi54_1) rfl rfl rfl fun a F => ?_
  refine dv F (y_ld rfl rfl (S.ld (i := 0) rfl rfl Try.isAgg4)) rfl rfl rfl fun a F => ?_
  refine dn ?_
  refine tn <| hK4 _ _ ?_
  refine cb F rfl (fun h1 => ?_) (fun h1 => ?_)
  · refine rg ?_
    refine dv F (y_fa rfl rfl fi54_2) rfl rfl rfl fun a F => ?_
    refine dv F (y_ld rfl rfl (S.ld (i := 0) rfl rfl Try.isAgg9)) rfl rfl rfl fun a F => ?_
    refine dbs F S rfl rfl bsS1 rfl rfl rfl fun a w b13 F S => ?_
    refine dc F (c_f rfl rfl rfl Try.call30) rfl rfl rfl (f30_c [k.data] _ (S.sl (i := 3) (xs := [k.data]) rfl lenS) (by rw [cat_one, bI_len]; exact hs) (show 1 ≤ 1000000 by decide)) fun a v w' hr F => ?_
    obtain ⟨rfl, hb⟩ := hr
    replace S := S.call hb
    refine dv F (y_fa rfl rfl fi37_2) rfl rfl rfl fun a F => ?_
    refine dst F S rfl rfl rfl Try.sizeOf32 (i := 2) rfl (len32 _) (by simp [cellsOf, len37]) (one32 _) rfl rfl fun a w F S => ?_
    rw [putl_sum] at S
    refine dn ?_
    refine tn <| hK3 _ _ ?_
    refine sq fun K5 hK5 => ?_
    refine rg ?_
    refine dv F (y_ld rfl rfl (S.lda (i := 2) rfl Try.isAgg37 Try.sizeOf37 (len37 _))) rfl rfl rfl fun a F => ?_
    refine dsw F S rfl rfl rfl Try.sizeOf37 (i := 1) rfl rfl (len37 _) rfl (one37 _) rfl rfl fun a w F S => ?_
    refine dn ?_
    refine tn <| hK5 _ _ ?_
    refine wp_ret ?_
    refine ?_
    exact rc1 F rfl rfl (S.lda (i := 1) rfl Try.isAgg37 Try.sizeOf37 (len37 _)) ⟨by rw [sumRd, if_pos h1, h1]; simp [cellsOf, cat_one], S.bel⟩
  · refine wp_skip ?_
    refine tn <| hK3 _ _ ?_
    refine sq fun K6 hK6 => ?_
    refine rg ?_
    refine dv F (y_ld rfl rfl (S.lda (i := 2) rfl Try.isAgg37 Try.sizeOf37 (len37 _))) rfl rfl rfl fun a F => ?_
    refine dsw F S rfl rfl rfl Try.sizeOf37 (i := 1) rfl rfl (len37 _) rfl (one37 _) rfl rfl fun a w F S => ?_
    refine dn ?_
    refine tn <| hK6 _ _ ?_
    refine wp_ret ?_
    refine ?_
    exact rc1 F rfl rfl (S.lda (i := 1) rfl Try.isAgg37 Try.sizeOf37 (len37 _)) ⟨by rw [sumRd, if_neg (by simp [h1])]; simp [cellsOf], S.bel⟩

theorem f19_c (k : Kn) (w0 : World) (hs : k.data.size ≤ 1000000) :
    Calls Try.prog 19 [.agg (encK k).toArray].toArray w0 (Ret fun v w' => v = .agg (encRd (sumRd k)).toArray ∧ Below w0.heap.size w0 w') := by
  refine ent Try.func19 Try.ntmps19 rfl rfl ?_
  intro a F
  have S := St.refl w0
  refine sq fun K1 hK1 => ?_
  refine rg ?_
  refine dbx F S rfl rfl rfl rfl rfl rfl fun a w b1 F S => ?_
  refine dal F S rfl Try.zeroValue37 rfl rfl rfl rfl fun a w b2 F S => ?_
  refine dn ?_
  refine tn <| hK1 _ _ ?_
  refine sq fun K2 hK2 => ?_
  refine sq fun K3 hK3 => ?_
  refine rg ?_
  refine dv F (y_fa rfl rfl fi54_1) rfl rfl rfl fun a F => ?_
  refine dv F (y_ld rfl rfl (S.ld (i := 0) rfl rfl Try.isAgg4)) rfl rfl rfl fun a F => ?_
  refine dv F (y_nt rfl rfl) rfl rfl rfl fun a F => ?_
  refine dn ?_
  refine tn <| hK3 _ _ ?_
  refine cb F rfl (fun h1 => ?_) (fun h1 => ?_)
  · refine sq fun K4 hK4 => ?_
    refine rg ?_
    refine dv F (y_fa rfl rfl fi54_0) rfl rfl rfl fun a F => ?_
    refine dv F (y_ld rfl rfl (S.ld (i := 0) rfl rfl Try.isAgg9)) rfl rfl rfl fun a F => ?_
    refine dv F (y_bd rfl rfl (bdK1)) rfl rfl rfl fun a F => ?_
    refine dsw F S rfl rfl rfl Try.sizeOf37 (i := 1) rfl rfl (len37 _) rfl (one37 _) rfl rfl fun a w F S => ?_
    refine dn ?_
    refine tn <| hK4 _ _ ?_
    refine wp_ret ?_
    refine tr <| ?_
    exact rc1 F rfl rfl (S.lda (i := 1) rfl Try.isAgg37 Try.sizeOf37 (len37 _)) ⟨by rw [sumRd, if_neg (by simpa using h1), show k.is = false by simpa using h1]; simp [cellsOf], S.bel⟩
  · refine wp_skip ?_
    refine tn <| hK2 _ _ ?_
    refine sq fun K5 hK5 => ?_
    refine rp [.p, .p, .p, .p, HK.v ((.agg (encD (dgst (bI k.data))).toArray)), .p] 6 [[], [0], [], [2], [2, 3], [0, 1, 2, 3, 4]] [(0, _), (1, _), (2, _), (3, _), (4, _), (5, _)] F ⟨rfl, rfl, rfl, rfl, rfl, rfl, trivial⟩ Try.mixed (by kernel_rfl) rfl (.inr ⟨by decide, by kernel_rfl, by kernel_rfl⟩) (by kernel_rfl) ⟨?_, ?_, ?_, ?_, ?_, ?_, trivial⟩ fun a w1 J => ?_
    · intro a w1 hB F hA
      have S0 := S
      replace S := S.call hB
      exact pv F (fun w2 hB2 => have S := S.call hB2; y_fa rfl rfl fi54_0) rfl rfl rfl (by decide)
    · intro a w1 hB F hA
      have S0 := S
      replace S := S.call hB
      replace F := F.eP (hA 0 (by decide)) rfl (d := 9) rfl rfl (y_fa rfl rfl fi54_0)
      exact pv F (fun w2 hB2 => have S := S.call hB2; y_ld rfl rfl (S.ld (i := 0) rfl rfl Try.isAgg9)) rfl rfl rfl (by decide)
    · intro a w1 hB F hA
      have S0 := S
      replace S := S.call hB
      exact pv F (fun w2 hB2 => have S := S.call hB2; y_fa rfl rfl fi54_2) rfl rfl rfl (by decide)
    · intro a w1 hB F hA
      have S0 := S
      replace S := S.call hB
      replace F := F.eP (hA 2 (by decide)) rfl (d := 11) rfl rfl (y_fa rfl rfl fi54_2)
      exact pv F (fun w2 hB2 => have S := S.call hB2; y_ld rfl rfl (S.ld (i := 0) rfl rfl Try.isAgg9)) rfl rfl rfl (by decide)
    · intro a w1 hB F hA
      have S0 := S
      replace S := S.call hB
      replace F := F.eP (hA 2 (by decide)) rfl (d := 11) rfl rfl (y_fa rfl rfl fi54_2)
      replace F := F.eP (hA 3 (by decide)) rfl (d := 12) rfl rfl (y_ld rfl rfl (S.ld (i := 0) rfl rfl Try.isAgg9))
      refine pcv F (c_f rfl rfl rfl Try.call31) rfl rfl ?_
      exact f31_d k.data hs _
    · intro a w1 hB F hA
      have S0 := S
      replace S := S.call hB
      replace F := F.eP (hA 0 (by decide)) rfl (d := 9) rfl rfl (y_fa rfl rfl fi54_0)
      replace F := F.eP (hA 1 (by decide)) rfl (d := 10) rfl rfl (y_ld rfl rfl (S.ld (i := 0) rfl rfl Try.isAgg9))
      replace F := F.eP (hA 2 (by decide)) rfl (d := 11) rfl rfl (y_fa rfl rfl fi54_2)
      replace F := F.eP (hA 3 (by decide)) rfl (d := 12) rfl rfl (y_ld rfl rfl (S.ld (i := 0) rfl rfl Try.isAgg9))
      replace F := F.eV (P := Try.prog) (hA 4 (by decide)) rfl (d := 13) rfl rfl
      exact pv F (fun w2 hB2 => have S := S.call hB2; y_bd rfl rfl (bdK3)) rfl rfl rfl (by decide)
    have F := J.fr
    have E := EX.start J S
    have hle := S.bel.size
    replace S := S.call J.bel
    replace F := F.eP (J.at 0 rfl) rfl (d := 9) rfl rfl (y_fa rfl rfl fi54_0)
    replace F := F.eP (J.at 1 rfl) rfl (d := 10) rfl rfl (y_ld rfl rfl (S.ld (i := 0) rfl rfl Try.isAgg9))
    replace F := F.eP (J.at 2 rfl) rfl (d := 11) rfl rfl (y_fa rfl rfl fi54_2)
    replace F := F.eP (J.at 3 rfl) rfl (d := 12) rfl rfl (y_ld rfl rfl (S.ld (i := 0) rfl rfl Try.isAgg9))
    replace F := F.eV (P := Try.prog) (J.at 4 rfl) rfl (d := 13) rfl rfl
    replace F := F.eP (J.at 5 rfl) rfl (d := 14) rfl rfl (y_bd rfl rfl (bdK3))
    replace S := E.st
    clear E J
    refine dsw F S rfl rfl rfl Try.sizeOf37 (i := 1) rfl rfl (len37 _) rfl (one37 _) rfl rfl fun a w F S => ?_
    refine dn ?_
    refine tn <| hK5 _ _ ?_
    refine wp_ret ?_
    refine ?_
    exact rc1 F rfl rfl (S.lda (i := 1) rfl Try.isAgg37 Try.sizeOf37 (len37 _)) ⟨by rw [sumRd, if_pos (by simpa using h1), show k.is = true by simpa using h1]; simp [cellsOf], S.bel⟩

theorem f8_c (k m : Kn) (w0 : World) :
    Calls Try.prog 8 [.agg (encK k).toArray, .agg (encK m).toArray].toArray w0 (Ret fun v w' => v = .bool true ∧ Below w0.heap.size w0 w') := by
  refine ent Try.func8 Try.ntmps8 rfl rfl ?_
  intro a F
  have S := St.refl w0
  refine sq fun K1 hK1 => ?_
  refine rg ?_
  refine dbx F S rfl rfl rfl rfl rfl rfl fun a w b2 F S => ?_
  refine dbx F S rfl rfl rfl rfl rfl rfl fun a w b3 F S => ?_
  refine dv F (y_as rfl rfl) rfl rfl rfl fun a F => ?_
  refine dn ?_
  refine tn <| hK1 _ _ ?_
  refine sq fun K2 hK2 => ?_
  refine sq fun K3 hK3 => ?_
  refine rg ?_
  refine dc F (c_f rfl rfl rfl Try.call9) rfl rfl rfl (f9_c _) fun a v w' hr F => ?_
  obtain ⟨rfl, hb⟩ := hr
  replace S := S.call hb
  refine dv F (y_nt rfl rfl) rfl rfl rfl fun a F => ?_
  refine dn ?_
  refine tn <| hK3 _ _ ?_
  refine cf F rfl rfl ?_
  refine wp_skip ?_
  refine tn <| hK2 _ _ ?_
  refine sq fun K4 hK4 => ?_
  refine sq fun K5 hK5 => ?_
  rcases Nat.lt_or_ge 500 k.data.size with hn | hn
  · refine rg ?_
    refine dv F (y_fa rfl rfl fi54_2) rfl rfl rfl fun a F => ?_
    refine dv F (y_ld rfl rfl (S.ld (i := 0) rfl rfl Try.isAgg9)) rfl rfl rfl fun a F => ?_
    refine dv F (y_ls rfl rfl Try.underlying9) rfl rfl rfl fun a F => ?_
    refine dv F (y_gt rfl rfl rfl) rfl rfl rfl fun a F => ?_
    refine dv F (y_mv rfl rfl) rfl rfl rfl fun a F => ?_
    refine gs F rfl rfl rfl (decide_eq_true (by omega)) rfl rfl fun a F => ?_
    refine gs F rfl rfl rfl (decide_eq_true (by omega)) rfl rfl fun a F => ?_
    refine gs F rfl rfl rfl (decide_eq_true (by omega)) rfl rfl fun a F => ?_
    refine gs F rfl rfl rfl (decide_eq_true (by omega)) rfl rfl fun a F => ?_
    refine dv F (y_pkt (decide_eq_true (by omega)) rfl rfl rfl) rfl rfl rfl fun a F => ?_
    refine dn ?_
    refine tn <| hK5 _ _ ?_
    refine ct F rfl rfl ?_
    refine sq fun K6 hK6 => ?_
    refine rg ?_
    refine dv F (y_as rfl rfl) rfl rfl rfl fun a F => ?_
    refine dn ?_
    refine tn <| hK6 _ _ ?_
    refine wp_ret ?_
    refine tr <| ?_
    exact rt1 F rfl rfl ⟨rfl, S.bel⟩
  · refine rg ?_
    refine dv F (y_fa rfl rfl fi54_2) rfl rfl rfl fun a F => ?_
    refine dv F (y_ld rfl rfl (S.ld (i := 0) rfl rfl Try.isAgg9)) rfl rfl rfl fun a F => ?_
    refine dv F (y_ls rfl rfl Try.underlying9) rfl rfl rfl fun a F => ?_
    refine dv F (y_gt rfl rfl rfl) rfl rfl rfl fun a F => ?_
    refine dv F (y_mv rfl rfl) rfl rfl rfl fun a F => ?_
    refine gv F rfl rfl rfl (decide_eq_false (by omega)) (y_fa rfl rfl fi54_2) rfl rfl fun a F => ?_
    refine gv F rfl rfl rfl (decide_eq_false (by omega)) (y_ld rfl rfl (S.ld (i := 1) rfl rfl Try.isAgg9)) rfl rfl fun a F => ?_
    refine gv F rfl rfl rfl (decide_eq_false (by omega)) (y_ls rfl rfl Try.underlying9) rfl rfl fun a F => ?_
    refine gv F rfl rfl rfl (decide_eq_false (by omega)) (y_gt rfl rfl rfl) rfl rfl fun a F => ?_
    refine dv F (y_pkf (decide_eq_false (by omega)) rfl rfl rfl) rfl rfl rfl fun a F => ?_
    refine dn ?_
    refine tn <| hK5 _ _ ?_
    refine cd F rfl (fun h2 => ?_) (fun h2 => ?_)
    · refine sq fun K7 hK7 => ?_
      refine rg ?_
      refine dv F (y_as rfl rfl) rfl rfl rfl fun a F => ?_
      refine dn ?_
      refine tn <| hK7 _ _ ?_
      refine wp_ret ?_
      refine tr <| ?_
      exact rt1 F rfl rfl ⟨rfl, S.bel⟩
    · refine wp_skip ?_
      refine tn <| hK4 _ _ ?_
      refine sq fun K8 hK8 => ?_
      refine rp [.p, HK.v ((.agg (encRd (sumRd k)).toArray)), .p, HK.v ((.agg (encRd (sumRd m)).toArray)), .b 37 (mkP) [] (fun _ => (encRd rd0)), .b 37 (mkP) [] (fun _ => (encRd rd0))] 6 [[], [0], [], [0, 1, 2], [], []] [(0, _), (1, _), (2, _), (3, _), (4, _), (7, _), (8, _), (9, _), (10, _), (11, _), (12, _), (13, _), (14, _), (15, _), (16, _), (17, _), (18, _)] F ⟨rfl, rfl, rfl, rfl, rfl, rfl, rfl, rfl, rfl, rfl, rfl, rfl, rfl, rfl, rfl, rfl, rfl, trivial⟩ Try.mixed (by kernel_rfl) rfl (.inr ⟨by decide, by kernel_rfl, by kernel_rfl⟩) (by kernel_rfl) ⟨?_, ?_, ?_, ?_, ?_, ?_, trivial⟩ fun a w1 J => ?_
      · intro a w1 hB F hA
        have S0 := S
        replace S := S.call hB
        exact pv F (fun w2 hB2 => have S := S.call hB2; y_ld rfl rfl (S.lda (i := 0) rfl Try.isAgg54 Try.sizeOf54 rfl)) rfl rfl rfl (by decide)
      · intro a w1 hB F hA
        have S0 := S
        replace S := S.call hB
        replace F := F.eP (hA 0 (by decide)) rfl (d := 19) rfl rfl (y_ld rfl rfl (S.lda (i := 0) rfl Try.isAgg54 Try.sizeOf54 rfl))
        refine pcv F (c_f rfl rfl rfl Try.call18) rfl rfl ?_
        exact f18_c k _ (by omega)
      · intro a w1 hB F hA
        have S0 := S
        replace S := S.call hB
        exact pv F (fun w2 hB2 => have S := S.call hB2; y_ld rfl rfl (S.lda (i := 1) rfl Try.isAgg54 Try.sizeOf54 rfl)) rfl rfl rfl (by decide)
      · intro a w1 hB F hA
        have S0 := S
        replace S := S.call hB
        replace F := F.eP (hA 0 (by decide)) rfl (d := 19) rfl rfl (y_ld rfl rfl (S.lda (i := 0) rfl Try.isAgg54 Try.sizeOf54 rfl))
        replace F := F.eV (P := Try.prog) (hA 1 (by decide)) rfl (d := 20) rfl rfl
        replace F := F.eP (hA 2 (by decide)) rfl (d := 21) rfl rfl (y_ld rfl rfl (S.lda (i := 1) rfl Try.isAgg54 Try.sizeOf54 rfl))
        refine pcv F (c_f rfl rfl rfl Try.call18) rfl rfl ?_
        exact f18_c m _ (by omega)
      · intro a w1 hB F hA
        have S0 := S
        replace S := S.call hB
        exact pb F rfl (y_al rfl Try.zeroValue37 rfl) (fun _ => rfl) rfl rfl rfl
      · intro a w1 hB F hA
        have S0 := S
        replace S := S.call hB
        exact pb F rfl (y_al rfl Try.zeroValue37 rfl) (fun _ => rfl) rfl rfl rfl
      have F := J.fr
      have E := EX.start J S
      have hle := S.bel.size
      replace S := S.call J.bel
      replace F := F.eP (J.at 0 rfl) rfl (d := 19) rfl rfl (y_ld rfl rfl (S.lda (i := 0) rfl Try.isAgg54 Try.sizeOf54 rfl))
      replace F := F.eV (P := Try.prog) (J.at 1 rfl) rfl (d := 20) rfl rfl
      replace F := F.eP (J.at 2 rfl) rfl (d := 21) rfl rfl (y_ld rfl rfl (S.lda (i := 1) rfl Try.isAgg54 Try.sizeOf54 rfl))
      replace F := F.eV (P := Try.prog) (J.at 3 rfl) rfl (d := 22) rfl rfl
      obtain ⟨b5, F, hb5, ho5⟩ := F.eB (P := Try.prog) (e := 37) (mk := mkP) (xs := []) (cs := fun _ => (encRd rd0)) (J.at 4 rfl) rfl (d := 5) rfl rfl rfl
      have E := EX.row J hle E 4 rfl rfl (d := 5) (e := 37) (cs := (encRd rd0)) rfl hb5 ho5
      obtain ⟨b6, F, hb6, ho6⟩ := F.eB (P := Try.prog) (e := 37) (mk := mkP) (xs := []) (cs := fun _ => (encRd rd0)) (J.at 5 rfl) rfl (d := 6) rfl rfl rfl
      have E := EX.row J hle E 5 rfl rfl (d := 6) (e := 37) (cs := (encRd rd0)) rfl hb6 ho6
      replace S := E.st
      clear E J
      refine dsw F S rfl rfl rfl Try.sizeOf37 (i := 2) rfl rfl (len37 _) (len37 _) (one37 _) rfl rfl fun a w F S => ?_
      refine dsw F S rfl rfl rfl Try.sizeOf37 (i := 3) rfl rfl (len37 _) (len37 _) (one37 _) rfl rfl fun a w F S => ?_
      refine dn ?_
      refine tn <| hK8 _ _ ?_
      refine sq fun K9 hK9 => ?_
      refine sq fun K10 hK10 => ?_
      refine rq (C := fun w => St _ w _) Try.mixed (by kernel_rfl) (S.drewN 1) ?_
      refine qv F (fun w S => y_ld rfl rfl (S.lda (i := 2) rfl Try.isAgg37 Try.sizeOf37 (len37 _))) rfl rfl rfl fun a F => ?_
      refine qv F (fun w S => y_ld rfl rfl (S.lda (i := 0) rfl Try.isAgg54 Try.sizeOf54 rfl)) rfl rfl rfl fun a F => ?_
      refine qc F (.agg (encRd (sumRd k)).toArray) (fun w S => (c_f rfl rfl rfl Try.call19)) rfl rfl rfl (fun w S => (f19_c k _ (by omega)).mono (Ret.mono fun v w' h => ⟨h.1, S.call h.2⟩)) fun a F => ?_
      refine qv F (fun w S => y_ne37 rfl rfl rfl) rfl rfl rfl fun a F => ?_
      refine qv F (fun w S => y_mv rfl rfl) rfl rfl rfl fun a F => ?_
      refine qgv F rfl rfl rfl (by simp) (fun w S => y_ld rfl rfl (S.lda (i := 3) rfl Try.isAgg37 Try.sizeOf37 (len37 _))) rfl rfl fun a F => ?_
      refine qgv F rfl rfl rfl (by simp) (fun w S => y_ld rfl rfl (S.lda (i := 1) rfl Try.isAgg54 Try.sizeOf54 rfl)) rfl rfl fun a F => ?_
      refine qgc F rfl rfl rfl (by simp) (.agg (encRd (sumRd m)).toArray) (fun w S => (c_f rfl rfl rfl Try.call19)) rfl rfl (fun w S => (f19_c m _ (by omega)).mono (Ret.mono fun v w' h => ⟨h.1, S.call h.2⟩)) fun a F => ?_
      refine qgv F rfl rfl rfl (by simp) (fun w S => y_ne37 rfl rfl rfl) rfl rfl fun a F => ?_
      refine qv F (fun w S => y_pkf (by simp) rfl rfl rfl) rfl rfl rfl fun a F => ?_
      refine qn fun w S => ?_
      refine tn <| hK10 _ _ ?_
      refine cf F rfl (by simp) ?_
      refine wp_skip ?_
      refine tn <| hK9 _ _ ?_
      refine sq fun K11 hK11 => ?_
      refine rg ?_
      refine dv F (y_fa rfl rfl fi54_1) rfl rfl rfl fun a F => ?_
      refine dv F (y_ld rfl rfl (S.ld (i := 0) rfl rfl Try.isAgg4)) rfl rfl rfl fun a F => ?_
      refine dv F (y_mv rfl rfl) rfl rfl rfl fun a F => ?_
      rcases (show k.is = true ∨ k.is = false by cases k.is <;> simp) with hk | hk
      · refine gs F rfl rfl rfl hk rfl rfl fun a F => ?_
        refine gs F rfl rfl rfl hk rfl rfl fun a F => ?_
        refine dv F (y_pkt hk rfl rfl rfl) rfl rfl rfl fun a F => ?_
        refine dv F (y_mv rfl rfl) rfl rfl rfl fun a F => ?_
        refine gs F rfl rfl rfl rfl rfl rfl fun a F => ?_
        refine gs F rfl rfl rfl rfl rfl rfl fun a F => ?_
        refine gs F rfl rfl rfl rfl rfl rfl fun a F => ?_
        refine gs F rfl rfl rfl rfl rfl rfl fun a F => ?_
        refine gs F rfl rfl rfl rfl rfl rfl fun a F => ?_
        refine dv F (y_pkt rfl rfl rfl rfl) rfl rfl rfl fun a F => ?_
        refine dv F (y_mv rfl rfl) rfl rfl rfl fun a F => ?_
        refine gs F rfl rfl rfl rfl rfl rfl fun a F => ?_
        refine gs F rfl rfl rfl rfl rfl rfl fun a F => ?_
        refine gs F rfl rfl rfl rfl rfl rfl fun a F => ?_
        refine dv F (y_pkt rfl rfl rfl rfl) rfl rfl rfl fun a F => ?_
        refine dv F (y_as rfl rfl) rfl rfl rfl fun a F => ?_
        refine dn ?_
        refine tn <| hK11 _ _ ?_
        refine wp_ret ?_
        refine ?_
        exact rt1 F rfl rfl ⟨by simp [hk], S.bel⟩
      · refine gv F rfl rfl rfl hk (y_fa rfl rfl fi54_1) rfl rfl fun a F => ?_
        refine gv F rfl rfl rfl hk (y_ld rfl rfl (S.ld (i := 1) rfl rfl Try.isAgg4)) rfl rfl fun a F => ?_
        refine dv F (y_pkf hk rfl rfl rfl) rfl rfl rfl fun a F => ?_
        refine dv F (y_mv rfl rfl) rfl rfl rfl fun a F => ?_
        rcases (show m.is = true ∨ m.is = false by cases m.is <;> simp) with hm | hm
        · refine gs F rfl rfl rfl hm rfl rfl fun a F => ?_
          refine gs F rfl rfl rfl hm rfl rfl fun a F => ?_
          refine gs F rfl rfl rfl hm rfl rfl fun a F => ?_
          refine gs F rfl rfl rfl hm rfl rfl fun a F => ?_
          refine gs F rfl rfl rfl hm rfl rfl fun a F => ?_
          refine dv F (y_pkt hm rfl rfl rfl) rfl rfl rfl fun a F => ?_
          refine dv F (y_mv rfl rfl) rfl rfl rfl fun a F => ?_
          refine gs F rfl rfl rfl rfl rfl rfl fun a F => ?_
          refine gs F rfl rfl rfl rfl rfl rfl fun a F => ?_
          refine gs F rfl rfl rfl rfl rfl rfl fun a F => ?_
          refine dv F (y_pkt rfl rfl rfl rfl) rfl rfl rfl fun a F => ?_
          refine dv F (y_as rfl rfl) rfl rfl rfl fun a F => ?_
          refine dn ?_
          refine tn <| hK11 _ _ ?_
          refine wp_ret ?_
          refine ?_
          exact rt1 F rfl rfl ⟨by simp [hm], S.bel⟩
        · refine gv F rfl rfl rfl hm (y_fa rfl rfl fi54_0) rfl rfl fun a F => ?_
          refine gv F rfl rfl rfl hm (y_ld rfl rfl (S.ld (i := 0) rfl rfl Try.isAgg9)) rfl rfl fun a F => ?_
          refine gv F rfl rfl rfl hm (y_fa rfl rfl fi54_0) rfl rfl fun a F => ?_
          refine gv F rfl rfl rfl hm (y_ld rfl rfl (S.ld (i := 1) rfl rfl Try.isAgg9)) rfl rfl fun a F => ?_
          refine gv F rfl rfl rfl hm (y_sn rfl rfl rfl) rfl rfl fun a F => ?_
          refine dv F (y_pkf hm rfl rfl rfl) rfl rfl rfl fun a F => ?_
          refine dv F (y_mv rfl rfl) rfl rfl rfl fun a F => ?_
          rcases Decidable.em (k.path = m.path) with hp | hp
          · refine gv F rfl rfl rfl (by simp [hp]) (y_ld rfl rfl (S.lda (i := 2) rfl Try.isAgg37 Try.sizeOf37 (len37 _))) rfl rfl fun a F => ?_
            refine gv F rfl rfl rfl (by simp [hp]) (y_ld rfl rfl (S.lda (i := 3) rfl Try.isAgg37 Try.sizeOf37 (len37 _))) rfl rfl fun a F => ?_
            refine gv F rfl rfl rfl (by simp [hp]) (y_eq37 rfl rfl rfl) rfl rfl fun a F => ?_
            refine dv F (y_pkf (by simp [hp]) rfl rfl rfl) rfl rfl rfl fun a F => ?_
            refine dv F (y_as rfl rfl) rfl rfl rfl fun a F => ?_
            refine dn ?_
            refine tn <| hK11 _ _ ?_
            refine wp_ret ?_
            refine ?_
            exact rt1 F rfl rfl ⟨by rw [show sumRd k = sumRd m by simp [sumRd, hk, hm, hp]]; simp, S.bel⟩
          · refine gs F rfl rfl rfl (by simp [hp]) rfl rfl fun a F => ?_
            refine gs F rfl rfl rfl (by simp [hp]) rfl rfl fun a F => ?_
            refine gs F rfl rfl rfl (by simp [hp]) rfl rfl fun a F => ?_
            refine dv F (y_pkt (by simp [hp]) rfl rfl rfl) rfl rfl rfl fun a F => ?_
            refine dv F (y_as rfl rfl) rfl rfl rfl fun a F => ?_
            refine dn ?_
            refine tn <| hK11 _ _ ?_
            refine wp_ret ?_
            refine ?_
            exact rt1 F rfl rfl ⟨by simp [hp], S.bel⟩

end Go.Proofs.Ytpnhinbhhpeklaa
