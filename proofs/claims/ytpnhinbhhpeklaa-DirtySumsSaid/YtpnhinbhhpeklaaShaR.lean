/- sha256: the blocks of a message, the digest. -/
import Derived.Test.YtpnhinbhhpeklaaShaQ
set_option linter.unusedVariables false
set_option linter.unusedSimpArgs false
namespace Sha
open Go Go.Eng
/-- k blocks of 64 taken into s -/
def absorb (s : S8) (bs : List Int) : Nat → S8
  | 0 => s
  | k + 1 => blk (absorb s bs k) (wpre ((bs.drop (64 * k)).take 64) 64)
def outB (s : S8) : List Int := (List.range 32).map fun i => IntKind.u8.wrap (shrI .u32 (s.l.getD (i / 4) 0) (24 - 8 * (i % 4)))
theorem absorb_append (s : S8) (a b : List Int) (q : Nat) (ha : a.length = 64 * q) : ∀ r, absorb s (a ++ b) (q + r) = absorb (absorb s a q) b r
  | 0 => by
    have : ∀ k, k ≤ q → absorb s (a ++ b) k = absorb s a k := by
      intro k
      induction k with
      | zero => intro _; rfl
      | succ k ih =>
        intro hk
        rw [absorb, absorb, ih (by omega), List.drop_append_of_le_length (by omega), List.take_append_of_le_length (by rw [List.length_drop]; omega)]
    exact this q (Nat.le_refl _)
  | r + 1 => by
    rw [← Nat.add_assoc, absorb, absorb_append s a b q ha r, absorb]
    congr 3
    rw [show 64 * (q + r) = a.length + 64 * r by omega, List.drop_append, List.drop_eq_nil_of_le (by omega), List.nil_append, Nat.add_sub_cancel_left]
end Sha
