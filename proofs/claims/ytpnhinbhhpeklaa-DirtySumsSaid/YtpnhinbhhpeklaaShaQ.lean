/- sha256: the schedule, the rounds, a block. -/
import Derived.Test.YtpnhinbhhpeklaaShaP
set_option linter.unusedVariables false
set_option linter.unusedSimpArgs false
namespace Sha
open Go Go.Eng

structure S8 where
  (a b c d e f g h : Int)
def S8.l (s : S8) : List Int := [s.a, s.b, s.c, s.d, s.e, s.f, s.g, s.h]
def big0 (a : Int) : Int := xorI .u32 (xorI .u32 (rot a 2) (rot a 13)) (rot a 22)
def big1 (e : Int) : Int := xorI .u32 (xorI .u32 (rot e 6) (rot e 11)) (rot e 25)
def ch (e f g : Int) : Int := xorI .u32 (andI .u32 e f) (andI .u32 (xorI .u32 4294967295 e) g)
def maj (a b c : Int) : Int := xorI .u32 (xorI .u32 (andI .u32 a b) (andI .u32 a c)) (andI .u32 b c)
def t1 (s : S8) (k w : Int) : Int := add (add (add (add s.h (big1 s.e)) (ch s.e s.f s.g)) k) w
def t2 (s : S8) : Int := add (big0 s.a) (maj s.a s.b s.c)
def rnd (s : S8) (k w : Int) : S8 := ⟨add (t1 s k w) (t2 s), s.a, s.b, s.c, add s.d (t1 s k w), s.e, s.f, s.g⟩
def rnds (W : List Int) (s : S8) : Nat → S8
  | 0 => s
  | n + 1 => rnd (rnds W s n) (K.getD n 0) (W.getD n 0)
def fin (s t : S8) : S8 := ⟨add s.a t.a, add s.b t.b, add s.c t.c, add s.d t.d, add s.e t.e, add s.f t.f, add s.g t.g, add s.h t.h⟩
def blk (s : S8) (W : List Int) : S8 := fin s (rnds W s 64)

def nx (w : List Int) : Int := add (add (add (w.getD (w.length - 16) 0) (s0 (w.getD (w.length - 15) 0))) (w.getD (w.length - 7) 0)) (s1 (w.getD (w.length - 2) 0))
def sch (w : List Int) : Nat → List Int
  | 0 => w
  | n + 1 => sch w n ++ [nx (sch w n)]
def wordAt (bs : List Int) (i : Nat) : Int := word (bs.getD (4 * i) 0) (bs.getD (4 * i + 1) 0) (bs.getD (4 * i + 2) 0) (bs.getD (4 * i + 3) 0)
def words (bs : List Int) : List Int := (List.range 16).map (wordAt bs)
/-- the first k words of the schedule -/
def wpre (bs : List Int) (k : Nat) : List Int := if k ≤ 16 then (List.range k).map (wordAt bs) else sch (words bs) (k - 16)
theorem wpre_lo (bs : List Int) {k : Nat} (h : k < 16) : wpre bs (k + 1) = wpre bs k ++ [wordAt bs k] := by
  rw [wpre, wpre, if_pos (by omega), if_pos (by omega), List.range_succ, List.map_append]; rfl
theorem wpre_hi (bs : List Int) {k : Nat} (h : 16 ≤ k) : wpre bs (k + 1) = wpre bs k ++ [nx (wpre bs k)] := by
  have e : wpre bs k = sch (words bs) (k - 16) := by
    rw [wpre]
    split
    · have : k = 16 := by omega
      subst this; rfl
    · rfl
  rw [e, wpre, if_neg (by omega), show k + 1 - 16 = (k - 16) + 1 by omega]; rfl
theorem wpre_len (bs : List Int) : ∀ k, (wpre bs k).length = k
  | 0 => by simp [wpre]
  | k + 1 => by
    rcases Nat.lt_or_ge k 16 with h | h
    · rw [wpre_lo bs h, List.length_append, wpre_len bs k]; rfl
    · rw [wpre_hi bs h, List.length_append, wpre_len bs k]; rfl
theorem nx_at (w : List Int) (h : 16 ≤ w.length) : nx w = add (add (add (w[w.length - 16]'(by omega)) (s0 (w[w.length - 15]'(by omega)))) (w[w.length - 7]'(by omega))) (s1 (w[w.length - 2]'(by omega))) := by
  have g : ∀ j (hj : j < w.length), w.getD j 0 = w[j] := fun j hj => by simp [hj]
  rw [nx, g _ (by omega), g _ (by omega), g _ (by omega), g _ (by omega)]

/-! a word gathered byte by byte -/
def gat (w b : Int) : Int := orI .u32 (shlI .u32 w 8) (IntKind.u32.wrap b)
theorem orI_add {a b : Int} {n : Nat} (ha : 0 ≤ a) (hb : 0 ≤ b ∧ b < 2 ^ n) (h : a * 2 ^ n + b < 4294967296) : orI .u32 (a * 2 ^ n) b = a * 2 ^ n + b := by
  obtain ⟨x, rfl⟩ := Int.eq_ofNat_of_zero_le ha
  obtain ⟨y, rfl⟩ := Int.eq_ofNat_of_zero_le hb.1
  have hp : ((2 ^ n : Nat) : Int) = (2 : Int) ^ n := by rw [Int.natCast_pow]; rfl
  have e0 : ((x * 2 ^ n : Nat) : Int) = (x : Int) * 2 ^ n := by rw [Int.natCast_mul, hp]
  have hy : y < 2 ^ n := by have := hb.2; omega
  have hx : x * 2 ^ n + y < 4294967296 := by omega
  have e1 : BitVec.ofInt 32 ((x : Int) * 2 ^ n) = BitVec.ofNat 32 (x * 2 ^ n) := by
    rw [← e0, BitVec.ofInt_natCast]
  have e2 : BitVec.ofInt 32 (y : Int) = BitVec.ofNat 32 y := BitVec.ofInt_natCast ..
  show IntKind.u32.wrap (((BitVec.ofInt 32 ((x : Int) * 2 ^ n) ||| BitVec.ofInt 32 (y : Int)).toNat : Nat) : Int) = _
  rw [e1, e2, BitVec.toNat_or, BitVec.toNat_ofNat, BitVec.toNat_ofNat, Nat.mod_eq_of_lt (by omega), Nat.mod_eq_of_lt (by omega)]
  have e3 : x * 2 ^ n ||| y = x * 2 ^ n + y := by
    rw [Nat.mul_comm, ← Nat.two_pow_add_eq_or_of_lt hy]
  rw [e3, IntWalk.u32_in _ (by omega)]
  omega
theorem shlI_mul {a : Int} {n : Nat} (hn : n ≤ 32) (ha : 0 ≤ a) (h : a * 2 ^ n < 4294967296) : shlI .u32 a n = a * 2 ^ n := by
  have : 0 ≤ a * 2 ^ n := Int.mul_nonneg ha (Int.pow_nonneg (by decide))
  rw [shlI, Nat.min_eq_left (by exact hn)]
  exact IntWalk.u32_in _ (by omega)
theorem gat_word {a b c d : Int} (ha : 0 ≤ a ∧ a < 256) (hb : 0 ≤ b ∧ b < 256) (hc : 0 ≤ c ∧ c < 256) (hd : 0 ≤ d ∧ d < 256) : gat (gat (gat (gat 0 a) b) c) d = word a b c d := by
  have wr : ∀ x : Int, 0 ≤ x ∧ x < 256 → IntKind.u32.wrap x = x := fun x h => IntWalk.u32_in _ (by omega)
  have g : ∀ w x : Int, 0 ≤ w → w < 16777216 → 0 ≤ x ∧ x < 256 → gat w x = w * 256 + x := fun w x h0 h1 hx => by
    rw [gat, wr x hx, shlI_mul (by decide) h0 (by omega)]
    have := orI_add (n := 8) h0 (by simpa using hx) (by omega)
    simpa using this
  have o : ∀ (x y : Int) (n : Nat), 0 ≤ x → 0 ≤ y ∧ y < 2 ^ n → x * 2 ^ n + y < 4294967296 → orI .u32 (x * 2 ^ n) y = x * 2 ^ n + y := fun x y n h1 h2 h3 => orI_add h1 h2 h3
  rw [g 0 a (by omega) (by omega) ha, g _ b (by omega) (by omega) hb, g _ c (by omega) (by omega) hc, g _ d (by omega) (by omega) hd]
  rw [word, wr a ha, wr b hb, wr c hc, wr d hd, shlI_mul (by decide) ha.1 (by omega), shlI_mul (by decide) hb.1 (by omega), shlI_mul (by decide) hc.1 (by omega)]
  have h1 := o a (b * 2 ^ 16) 24 ha.1 (by omega) (by omega)
  rw [h1]
  have h2 := o (a * 256 + b) (c * 2 ^ 8) 16 (by omega) (by omega) (by omega)
  rw [show a * 2 ^ 24 + b * 2 ^ 16 = (a * 256 + b) * 2 ^ 16 by omega, h2]
  have h3 := o ((a * 256 + b) * 256 + c) d 8 (by omega) (by omega) (by omega)
  rw [show (a * 256 + b) * 2 ^ 16 + c * 2 ^ 8 = ((a * 256 + b) * 256 + c) * 2 ^ 8 by omega, h3]
  omega
end Sha
