/-
  No cell of these rows narrows 'for every input' (looked for: loops, veiled, ifaces, maps, wideKeys, modest, calm, conditions, laid).
  DERIVED. THE GIVEN ROWS OF THIS SEAT. 6 by the template 'for every input the law returns true; each argument reads behind the call as it read before'; 0 by the template 'total and deterministic' (their statements: YtlpocahflolmpaaTotals.lean).
  GIVEN WITH THE SEED: the statements are not yours to turn. If you find one false, say at which input.
  Laid BY PROGRAM, IN A SANDBOX (cutbox-rows.mjs): the forced cells as the released guide's own fill.sh prints them over the translation 5f0da7345df5c52d… (all of the seat's roots in one cut). By AI agents, Wed Nov 11 2026. No macro, syntax, notation, axiom, sorry.
-/
import Derived.Test.YtlpocahflolmpaaChecked
import GoSem.Claim
import GoSem.ClaimJoined
import GoSem.ClaimMapViews
import Derived.JoinedTies
import Derived.KernelRfl
namespace Go.Proofs.Ytlpocahflolmpaa
/- THE CELL 'sum', in the pinned program and in every row, IS THE sha256 OF THE DUMP (.gsa) THAT YtlpocahflolmpaaProg.lean LOADS. Nothing in Lean hashes anything: it is a label: what it is worth is what the hold of that sum in a sandbox is worth. -/
noncomputable def Try.pinned : Pinned := { name := "ytlpocahflolmpaa", sum := "5f0da7345df5c52d09171b18eacd3178b7130c29ea1934cb0369fd32c1464179", checked := Try.checked }
namespace Rows
def none {H : Type} : Left H := { results := [], args := [] }

/-- 'dobbylaw01.LebPuts': WHATEVER THE INPUT: true; the input reads as it did. -/
def lebPutsSpec : ChangeSpec := { name := "lebPuts", fn := fun _ => fun
  | [d1, d2] => { results := [.lit (.bool true)], args := [d1, d2] }
  | _ => none }
def lebPutsRow : OpenClaim := { program := "ytlpocahflolmpaa", sum := "5f0da7345df5c52d09171b18eacd3178b7130c29ea1934cb0369fd32c1464179", func := "dobby/dobbylaw01.LebPuts", spec := "lebPuts", unfollowed := true, recurses := true, apart := false }
def LebPutsSaid : Prop := lebPutsRow.holds Try.pinned (OpenSpec.ofChange lebPutsSpec)

/-- ITS FALSE NEIGHBOUR: 'it returns false'. Refute it at one input. -/
def lebPutsWrong : ChangeSpec := { name := "lebPuts", fn := fun _ => fun
  | [d1, d2] => { results := [.lit (.bool false)], args := [d1, d2] }
  | _ => none }
def LebPutsWrongFalsely : Prop := lebPutsRow.holds Try.pinned (OpenSpec.ofChange lebPutsWrong)

/-- 'dobbylaw01.LebTakes': WHATEVER THE INPUT: true; the input reads as it did. -/
def lebTakesSpec : ChangeSpec := { name := "lebTakes", fn := fun _ => fun
  | [d1, d2] => { results := [.lit (.bool true)], args := [d1, d2] }
  | _ => none }
def lebTakesRow : OpenClaim := { program := "ytlpocahflolmpaa", sum := "5f0da7345df5c52d09171b18eacd3178b7130c29ea1934cb0369fd32c1464179", func := "dobby/dobbylaw01.LebTakes", spec := "lebTakes", unfollowed := true, recurses := true, apart := false }
def LebTakesSaid : Prop := lebTakesRow.holds Try.pinned (OpenSpec.ofChange lebTakesSpec)

/-- ITS FALSE NEIGHBOUR: 'it returns false'. Refute it at one input. -/
def lebTakesWrong : ChangeSpec := { name := "lebTakes", fn := fun _ => fun
  | [d1, d2] => { results := [.lit (.bool false)], args := [d1, d2] }
  | _ => none }
def LebTakesWrongFalsely : Prop := lebTakesRow.holds Try.pinned (OpenSpec.ofChange lebTakesWrong)

/-- 'dobbylaw01.LebSmall': WHATEVER THE INPUT: true; the input reads as it did. -/
def lebSmallSpec : ChangeSpec := { name := "lebSmall", fn := fun _ => fun
  | [d1, d2, d3] => { results := [.lit (.bool true)], args := [d1, d2, d3] }
  | _ => none }
def lebSmallRow : OpenClaim := { program := "ytlpocahflolmpaa", sum := "5f0da7345df5c52d09171b18eacd3178b7130c29ea1934cb0369fd32c1464179", func := "dobby/dobbylaw01.LebSmall", spec := "lebSmall", unfollowed := true, recurses := true, apart := false }
def LebSmallSaid : Prop := lebSmallRow.holds Try.pinned (OpenSpec.ofChange lebSmallSpec)

/-- ITS FALSE NEIGHBOUR: 'it returns false'. Refute it at one input. -/
def lebSmallWrong : ChangeSpec := { name := "lebSmall", fn := fun _ => fun
  | [d1, d2, d3] => { results := [.lit (.bool false)], args := [d1, d2, d3] }
  | _ => none }
def LebSmallWrongFalsely : Prop := lebSmallRow.holds Try.pinned (OpenSpec.ofChange lebSmallWrong)

/-- 'dobbylaw01.LebBack': WHATEVER THE INPUT: true; the input reads as it did. -/
def lebBackSpec : ChangeSpec := { name := "lebBack", fn := fun _ => fun
  | [d1, d2, d3] => { results := [.lit (.bool true)], args := [d1, d2, d3] }
  | _ => none }
def lebBackRow : OpenClaim := { program := "ytlpocahflolmpaa", sum := "5f0da7345df5c52d09171b18eacd3178b7130c29ea1934cb0369fd32c1464179", func := "dobby/dobbylaw01.LebBack", spec := "lebBack", unfollowed := true, recurses := true, apart := false }
def LebBackSaid : Prop := lebBackRow.holds Try.pinned (OpenSpec.ofChange lebBackSpec)

/-- ITS FALSE NEIGHBOUR: 'it returns false'. Refute it at one input. -/
def lebBackWrong : ChangeSpec := { name := "lebBack", fn := fun _ => fun
  | [d1, d2, d3] => { results := [.lit (.bool false)], args := [d1, d2, d3] }
  | _ => none }
def LebBackWrongFalsely : Prop := lebBackRow.holds Try.pinned (OpenSpec.ofChange lebBackWrong)

/-- 'dobbylaw03.UtfNeeds': WHATEVER THE INPUT: true; the input reads as it did. -/
def utfNeedsSpec : ChangeSpec := { name := "utfNeeds", fn := fun _ => fun
  | [d] => { results := [.lit (.bool true)], args := [d] }
  | _ => none }
def utfNeedsRow : OpenClaim := { program := "ytlpocahflolmpaa", sum := "5f0da7345df5c52d09171b18eacd3178b7130c29ea1934cb0369fd32c1464179", func := "dobby/dobbylaw03.UtfNeeds", spec := "utfNeeds", apart := false }
def UtfNeedsSaid : Prop := utfNeedsRow.holds Try.pinned (OpenSpec.ofChange utfNeedsSpec)

/-- ITS FALSE NEIGHBOUR: 'it returns false'. Refute it at one input. -/
def utfNeedsWrong : ChangeSpec := { name := "utfNeeds", fn := fun _ => fun
  | [d] => { results := [.lit (.bool false)], args := [d] }
  | _ => none }
def UtfNeedsWrongFalsely : Prop := utfNeedsRow.holds Try.pinned (OpenSpec.ofChange utfNeedsWrong)

/-- 'dobbylaw03.UtfSigns': WHATEVER THE INPUT: true; the input reads as it did. -/
def utfSignsSpec : ChangeSpec := { name := "utfSigns", fn := fun _ => fun
  | [d] => { results := [.lit (.bool true)], args := [d] }
  | _ => none }
def utfSignsRow : OpenClaim := { program := "ytlpocahflolmpaa", sum := "5f0da7345df5c52d09171b18eacd3178b7130c29ea1934cb0369fd32c1464179", func := "dobby/dobbylaw03.UtfSigns", spec := "utfSigns", apart := false }
def UtfSignsSaid : Prop := utfSignsRow.holds Try.pinned (OpenSpec.ofChange utfSignsSpec)

/-- ITS FALSE NEIGHBOUR: 'it returns false'. Refute it at one input. -/
def utfSignsWrong : ChangeSpec := { name := "utfSigns", fn := fun _ => fun
  | [d] => { results := [.lit (.bool false)], args := [d] }
  | _ => none }
def UtfSignsWrongFalsely : Prop := utfSignsRow.holds Try.pinned (OpenSpec.ofChange utfSignsWrong)

/- THE SECOND FORM. 'bulk': how many values and letters a reading holds, each counted each time it is reached (what is shared counts as often as it is met; a slice's spare places count too). A statement '..UptoSaid' is the law's where the arguments, and the package variables that the reading takes, are together of bulk at most 1048576: NARROWER than '..Said'. Prove '..Said' where nothing that the law and all that it calls make is longer than what came in: it says more and counts as full. Else prove '..UptoSaid'. A law counts once. -/
mutual
def uptoBulk {H : Type} : DataW H → Nat
  | .lit (.string bytes) => bytes.length + 1
  | .lit _ => 1
  | .nil => 1
  | .ptr d => uptoBulk d + 1
  | .slice elems spare => uptoBulkAll elems + uptoBulkAll spare + 1
  | .agg parts => uptoBulkAll parts + 1
  | .iface _ d => uptoBulk d + 1
  | .map entries => uptoBulkEntries entries + 1
  | .held _ => 1
def uptoBulkAll {H : Type} : List (DataW H) → Nat
  | [] => 0
  | d :: r => uptoBulk d + uptoBulkAll r
def uptoBulkEntries {H : Type} : List (Lit × DataW H) → Nat
  | [] => 0
  | x :: r => uptoBulkEntry x + uptoBulkEntries r
def uptoBulkEntry {H : Type} : Lit × DataW H → Nat
  | (.string bytes, d) => bytes.length + uptoBulk d + 1
  | (_, d) => uptoBulk d + 1
 end
def uptoSmall : (H : Type) → List (DataW H) → Bool := fun _ ds => decide (uptoBulkAll ds ≤ 1048576)
def OpenSpec.upto (s : _root_.Go.ChangeSpec) : _root_.Go.OpenSpec := { _root_.Go.OpenSpec.ofChange s with cond := some uptoSmall }

/-- 'dobbylaw01.LebPuts', WHERE WHAT IT READS IS OF BULK AT MOST 1048576: true; the input reads as it did. -/
def lebPutsUptoRow : OpenClaim := { program := "ytlpocahflolmpaa", sum := "5f0da7345df5c52d09171b18eacd3178b7130c29ea1934cb0369fd32c1464179", func := "dobby/dobbylaw01.LebPuts", spec := "lebPuts", unfollowed := true, recurses := true, apart := false, narrowed := true }
def LebPutsUptoSaid : Prop := lebPutsUptoRow.holds Try.pinned (OpenSpec.upto lebPutsSpec)

/-- 'dobbylaw01.LebTakes', WHERE WHAT IT READS IS OF BULK AT MOST 1048576: true; the input reads as it did. -/
def lebTakesUptoRow : OpenClaim := { program := "ytlpocahflolmpaa", sum := "5f0da7345df5c52d09171b18eacd3178b7130c29ea1934cb0369fd32c1464179", func := "dobby/dobbylaw01.LebTakes", spec := "lebTakes", unfollowed := true, recurses := true, apart := false, narrowed := true }
def LebTakesUptoSaid : Prop := lebTakesUptoRow.holds Try.pinned (OpenSpec.upto lebTakesSpec)

/-- 'dobbylaw01.LebSmall', WHERE WHAT IT READS IS OF BULK AT MOST 1048576: true; the input reads as it did. -/
def lebSmallUptoRow : OpenClaim := { program := "ytlpocahflolmpaa", sum := "5f0da7345df5c52d09171b18eacd3178b7130c29ea1934cb0369fd32c1464179", func := "dobby/dobbylaw01.LebSmall", spec := "lebSmall", unfollowed := true, recurses := true, apart := false, narrowed := true }
def LebSmallUptoSaid : Prop := lebSmallUptoRow.holds Try.pinned (OpenSpec.upto lebSmallSpec)

/-- 'dobbylaw01.LebBack', WHERE WHAT IT READS IS OF BULK AT MOST 1048576: true; the input reads as it did. -/
def lebBackUptoRow : OpenClaim := { program := "ytlpocahflolmpaa", sum := "5f0da7345df5c52d09171b18eacd3178b7130c29ea1934cb0369fd32c1464179", func := "dobby/dobbylaw01.LebBack", spec := "lebBack", unfollowed := true, recurses := true, apart := false, narrowed := true }
def LebBackUptoSaid : Prop := lebBackUptoRow.holds Try.pinned (OpenSpec.upto lebBackSpec)

/-- 'dobbylaw03.UtfNeeds', WHERE WHAT IT READS IS OF BULK AT MOST 1048576: true; the input reads as it did. -/
def utfNeedsUptoRow : OpenClaim := { program := "ytlpocahflolmpaa", sum := "5f0da7345df5c52d09171b18eacd3178b7130c29ea1934cb0369fd32c1464179", func := "dobby/dobbylaw03.UtfNeeds", spec := "utfNeeds", apart := false, narrowed := true }
def UtfNeedsUptoSaid : Prop := utfNeedsUptoRow.holds Try.pinned (OpenSpec.upto utfNeedsSpec)

/-- 'dobbylaw03.UtfSigns', WHERE WHAT IT READS IS OF BULK AT MOST 1048576: true; the input reads as it did. -/
def utfSignsUptoRow : OpenClaim := { program := "ytlpocahflolmpaa", sum := "5f0da7345df5c52d09171b18eacd3178b7130c29ea1934cb0369fd32c1464179", func := "dobby/dobbylaw03.UtfSigns", spec := "utfSigns", apart := false, narrowed := true }
def UtfSignsUptoSaid : Prop := utfSignsUptoRow.holds Try.pinned (OpenSpec.upto utfSignsSpec)

end Rows
end Go.Proofs.Ytlpocahflolmpaa
