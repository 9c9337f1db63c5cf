/- sha256 over whole numbers, as both programs reckon it. -/
import Derived.Test.YtpnhinbhhpeklaaIOp
set_option linter.unusedVariables false
set_option linter.unusedSimpArgs false
namespace Sha
open Go Go.Eng

/-- the greatest r with r^k ≤ n, below 2^36 -/
def root (k n : Nat) : Nat := (List.range 36).foldl (fun r i => if (r + 2 ^ (35 - i)) ^ k ≤ n then r + 2 ^ (35 - i) else r) 0
def primes : List Nat := (List.range 312).filter fun n => decide (2 ≤ n) && (List.range n).all fun d => decide (d < 2) || decide (n % d ≠ 0)
/-- the constants: the first bits behind the point of the cube roots of the first 64 primes -/
def K : List Int := primes.map fun p => ((root 3 (p * 2 ^ 96) % 2 ^ 32 : Nat) : Int)
/-- .. and of the square roots of the first 8 -/
def H0 : List Int := (primes.take 8).map fun p => ((root 2 (p * 2 ^ 64) % 2 ^ 32 : Nat) : Int)

def rot (x : Int) (n : Nat) : Int := orI .u32 (shrI .u32 x n) (shlI .u32 x (32 - n))
theorem orI_comm (k : IntKind) (x y : Int) : orI k x y = orI k y x := by rw [orI, orI, BitVec.or_comm]
def add (a b : Int) : Int := IntKind.u32.wrap (a + b)
def s0 (x : Int) : Int := xorI .u32 (xorI .u32 (rot x 7) (rot x 18)) (shrI .u32 x 3)
def s1 (x : Int) : Int := xorI .u32 (xorI .u32 (rot x 17) (rot x 19)) (shrI .u32 x 10)
def word (a b c d : Int) : Int := orI .u32 (orI .u32 (orI .u32 (shlI .u32 (IntKind.u32.wrap a) 24) (shlI .u32 (IntKind.u32.wrap b) 16)) (shlI .u32 (IntKind.u32.wrap c) 8)) (IntKind.u32.wrap d)
end Sha
