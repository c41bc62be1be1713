/- The reference: does a sign of so many bytes begin so? -/
import Derived.Test.YtlpocahflolmpaaU3
namespace Go.Proofs.Ytlpocahflolmpaa
set_option linter.unusedVariables false
set_option linter.unusedSimpArgs false
open Go.RowKit

/-- behind some bytes of a sign: k bytes more -/
def bl (least most : Int) : Nat → Int → List Int → Bool
  | 0, n, _ => decide (least ≤ n) && decide (n < most) && isB n
  | k + 1, n, [] => anyB n (64 ^ (k + 1)) least most
  | k + 1, n, x :: t => if x - 128 < 0 ∨ 63 < x - 128 then false else bl least most k (64 * n + (x - 128)) t
def begG (head room least most : Int) (k : Nat) : List Int → Bool
  | [] => false
  | a :: t => if a - head < 0 ∨ room ≤ a - head then false else bl least most k (a - head) t
/-- does a sign of so many bytes begin so? -/
def begT (size : Int) (l : List Int) : Bool :=
  if size = 1 then begG 0 128 0 128 0 l else if size = 2 then begG 192 32 128 2048 1 l else if size = 3 then begG 224 16 2048 65536 2 l else begG 240 8 65536 1114112 3 l

end Go.Proofs.Ytlpocahflolmpaa
