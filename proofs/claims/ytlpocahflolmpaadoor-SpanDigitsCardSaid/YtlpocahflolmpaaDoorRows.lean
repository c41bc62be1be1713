/-
  NARROWER THAN 'FOR EVERY INPUT', by the rows' own cells (each row's printed sentence says how): SpanCounts: laid · SpanFits: laid · SpanDigits: laid · SpanSizes: laid · SpanAdds: laid.
  DERIVED. THE GIVEN ROWS OF THIS SEAT. 5 by the template 'for every input the law returns true; each argument reads behind the call as it read before'; 0 by the template 'total and deterministic' (their statements: YtlpocahflolmpaaDoorTotals.lean).
  GIVEN WITH THE SEED: the statements are not yours to turn. If you find one false, say at which input.
  Laid BY PROGRAM, IN A SANDBOX (cutbox-rows.mjs): the forced cells as the released guide's own fill.sh prints them over the translation 633701e15f806289… (all of the seat's roots in one cut). By AI agents, Wed Nov 11 2026. No macro, syntax, notation, axiom, sorry.
-/
import Derived.Test.YtlpocahflolmpaaDoorChecked
import GoSem.Claim
import GoSem.ClaimJoined
import GoSem.ClaimMapViews
import Derived.JoinedTies
import Derived.KernelRfl
namespace Go.Proofs.YtlpocahflolmpaaDoor
/- THE CELL 'sum', in the pinned program and in every row, IS THE sha256 OF THE DUMP (.gsa) THAT YtlpocahflolmpaaDoorProg.lean LOADS. Nothing in Lean hashes anything: it is a label: what it is worth is what the hold of that sum in a sandbox is worth. -/
noncomputable def Tryd.pinned : Pinned := { name := "ytlpocahflolmpaadoor", sum := "633701e15f806289f0f112a511ab28c115f886b391ea2307ade5a638db98adc9", checked := Tryd.checked }
namespace Rows
def none {H : Type} : Left H := { results := [], args := [] }

/- WHAT THE LISTED PACKAGE-LEVEL VARIABLES READ AS WHEN THE CALL BEGINS. Each datum BY PROGRAM (the guide's laid-datum.mjs) off the statement by which the dump's own 'gosem.cut.vars' lays the variable. In a bare row this is a premise. The card (YtlpocahflolmpaaDoorCards.lean) ties it to the program's text. -/
def laid_dobby_span_none {H : Type} : DataW H := .agg [.lit (.int .u64 1), .lit (.int .u64 0)]

/-- 'dobbylaw02.SpanCounts': WHATEVER THE INPUT: true; the input reads as it did. -/
def spanCountsSpec : ChangeSpec := { name := "spanCounts", fn := fun _ => fun
  | [d1, d2, d3] => { results := [.lit (.bool true)], args := [d1, d2, d3] }
  | _ => none }
def spanCountsRow : OpenClaim := { program := "ytlpocahflolmpaadoor", sum := "633701e15f806289f0f112a511ab28c115f886b391ea2307ade5a638db98adc9", func := "dobby/dobbylaw02.SpanCounts", spec := "spanCounts", named := ["dobby/span.none"], apart := false, laid := [("dobby/span.none", laid_dobby_span_none)] }
def SpanCountsSaid : Prop := spanCountsRow.holds Tryd.pinned (OpenSpec.ofChange spanCountsSpec)

/-- ITS FALSE NEIGHBOUR: 'it returns false'. Refute it at one input. -/
def spanCountsWrong : ChangeSpec := { name := "spanCounts", fn := fun _ => fun
  | [d1, d2, d3] => { results := [.lit (.bool false)], args := [d1, d2, d3] }
  | _ => none }
def SpanCountsWrongFalsely : Prop := spanCountsRow.holds Tryd.pinned (OpenSpec.ofChange spanCountsWrong)

/-- 'dobbylaw02.SpanFits': WHATEVER THE INPUT: true; the input reads as it did. -/
def spanFitsSpec : ChangeSpec := { name := "spanFits", fn := fun _ => fun
  | [d1, d2, d3] => { results := [.lit (.bool true)], args := [d1, d2, d3] }
  | _ => none }
def spanFitsRow : OpenClaim := { program := "ytlpocahflolmpaadoor", sum := "633701e15f806289f0f112a511ab28c115f886b391ea2307ade5a638db98adc9", func := "dobby/dobbylaw02.SpanFits", spec := "spanFits", named := ["dobby/span.none"], apart := false, laid := [("dobby/span.none", laid_dobby_span_none)] }
def SpanFitsSaid : Prop := spanFitsRow.holds Tryd.pinned (OpenSpec.ofChange spanFitsSpec)

/-- ITS FALSE NEIGHBOUR: 'it returns false'. Refute it at one input. -/
def spanFitsWrong : ChangeSpec := { name := "spanFits", fn := fun _ => fun
  | [d1, d2, d3] => { results := [.lit (.bool false)], args := [d1, d2, d3] }
  | _ => none }
def SpanFitsWrongFalsely : Prop := spanFitsRow.holds Tryd.pinned (OpenSpec.ofChange spanFitsWrong)

/-- 'dobbylaw02.SpanDigits': WHATEVER THE INPUT: true; the input reads as it did. -/
def spanDigitsSpec : ChangeSpec := { name := "spanDigits", fn := fun _ => fun
  | [d1, d2] => { results := [.lit (.bool true)], args := [d1, d2] }
  | _ => none }
def spanDigitsRow : OpenClaim := { program := "ytlpocahflolmpaadoor", sum := "633701e15f806289f0f112a511ab28c115f886b391ea2307ade5a638db98adc9", func := "dobby/dobbylaw02.SpanDigits", spec := "spanDigits", named := ["dobby/span.none"], apart := false, laid := [("dobby/span.none", laid_dobby_span_none)] }
def SpanDigitsSaid : Prop := spanDigitsRow.holds Tryd.pinned (OpenSpec.ofChange spanDigitsSpec)

/-- ITS FALSE NEIGHBOUR: 'it returns false'. Refute it at one input. -/
def spanDigitsWrong : ChangeSpec := { name := "spanDigits", fn := fun _ => fun
  | [d1, d2] => { results := [.lit (.bool false)], args := [d1, d2] }
  | _ => none }
def SpanDigitsWrongFalsely : Prop := spanDigitsRow.holds Tryd.pinned (OpenSpec.ofChange spanDigitsWrong)

/-- 'dobbylaw02.SpanSizes': WHATEVER THE INPUT: true; the input reads as it did. -/
def spanSizesSpec : ChangeSpec := { name := "spanSizes", fn := fun _ => fun
  | [d1, d2, d3] => { results := [.lit (.bool true)], args := [d1, d2, d3] }
  | _ => none }
def spanSizesRow : OpenClaim := { program := "ytlpocahflolmpaadoor", sum := "633701e15f806289f0f112a511ab28c115f886b391ea2307ade5a638db98adc9", func := "dobby/dobbylaw02.SpanSizes", spec := "spanSizes", named := ["dobby/span.none"], apart := false, laid := [("dobby/span.none", laid_dobby_span_none)] }
def SpanSizesSaid : Prop := spanSizesRow.holds Tryd.pinned (OpenSpec.ofChange spanSizesSpec)

/-- ITS FALSE NEIGHBOUR: 'it returns false'. Refute it at one input. -/
def spanSizesWrong : ChangeSpec := { name := "spanSizes", fn := fun _ => fun
  | [d1, d2, d3] => { results := [.lit (.bool false)], args := [d1, d2, d3] }
  | _ => none }
def SpanSizesWrongFalsely : Prop := spanSizesRow.holds Tryd.pinned (OpenSpec.ofChange spanSizesWrong)

/-- 'dobbylaw02.SpanAdds': WHATEVER THE INPUT: true; the input reads as it did. -/
def spanAddsSpec : ChangeSpec := { name := "spanAdds", fn := fun _ => fun
  | [d1, d2, d3] => { results := [.lit (.bool true)], args := [d1, d2, d3] }
  | _ => none }
def spanAddsRow : OpenClaim := { program := "ytlpocahflolmpaadoor", sum := "633701e15f806289f0f112a511ab28c115f886b391ea2307ade5a638db98adc9", func := "dobby/dobbylaw02.SpanAdds", spec := "spanAdds", named := ["dobby/span.none"], apart := false, laid := [("dobby/span.none", laid_dobby_span_none)] }
def SpanAddsSaid : Prop := spanAddsRow.holds Tryd.pinned (OpenSpec.ofChange spanAddsSpec)

/-- ITS FALSE NEIGHBOUR: 'it returns false'. Refute it at one input. -/
def spanAddsWrong : ChangeSpec := { name := "spanAdds", fn := fun _ => fun
  | [d1, d2, d3] => { results := [.lit (.bool false)], args := [d1, d2, d3] }
  | _ => none }
def SpanAddsWrongFalsely : Prop := spanAddsRow.holds Tryd.pinned (OpenSpec.ofChange spanAddsWrong)

/- THE SECOND FORM. 'bulk': how many values and letters a reading holds, each counted each time it is reached (what is shared counts as often as it is met; a slice's spare places count too). A statement '..UptoSaid' is the law's where the arguments, and the package variables that the reading takes, are together of bulk at most 1048576: NARROWER than '..Said'. Prove '..Said' where nothing that the law and all that it calls make is longer than what came in: it says more and counts as full. Else prove '..UptoSaid'. A law counts once. -/
mutual
def uptoBulk {H : Type} : DataW H → Nat
  | .lit (.string bytes) => bytes.length + 1
  | .lit _ => 1
  | .nil => 1
  | .ptr d => uptoBulk d + 1
  | .slice elems spare => uptoBulkAll elems + uptoBulkAll spare + 1
  | .agg parts => uptoBulkAll parts + 1
  | .iface _ d => uptoBulk d + 1
  | .map entries => uptoBulkEntries entries + 1
  | .held _ => 1
def uptoBulkAll {H : Type} : List (DataW H) → Nat
  | [] => 0
  | d :: r => uptoBulk d + uptoBulkAll r
def uptoBulkEntries {H : Type} : List (Lit × DataW H) → Nat
  | [] => 0
  | x :: r => uptoBulkEntry x + uptoBulkEntries r
def uptoBulkEntry {H : Type} : Lit × DataW H → Nat
  | (.string bytes, d) => bytes.length + uptoBulk d + 1
  | (_, d) => uptoBulk d + 1
 end
def uptoSmall : (H : Type) → List (DataW H) → Bool := fun _ ds => decide (uptoBulkAll ds ≤ 1048576)
def OpenSpec.upto (s : _root_.Go.ChangeSpec) : _root_.Go.OpenSpec := { _root_.Go.OpenSpec.ofChange s with cond := some uptoSmall }

/-- 'dobbylaw02.SpanCounts', WHERE WHAT IT READS IS OF BULK AT MOST 1048576: true; the input reads as it did. -/
def spanCountsUptoRow : OpenClaim := { program := "ytlpocahflolmpaadoor", sum := "633701e15f806289f0f112a511ab28c115f886b391ea2307ade5a638db98adc9", func := "dobby/dobbylaw02.SpanCounts", spec := "spanCounts", named := ["dobby/span.none"], apart := false, laid := [("dobby/span.none", laid_dobby_span_none)], narrowed := true }
def SpanCountsUptoSaid : Prop := spanCountsUptoRow.holds Tryd.pinned (OpenSpec.upto spanCountsSpec)

/-- 'dobbylaw02.SpanFits', WHERE WHAT IT READS IS OF BULK AT MOST 1048576: true; the input reads as it did. -/
def spanFitsUptoRow : OpenClaim := { program := "ytlpocahflolmpaadoor", sum := "633701e15f806289f0f112a511ab28c115f886b391ea2307ade5a638db98adc9", func := "dobby/dobbylaw02.SpanFits", spec := "spanFits", named := ["dobby/span.none"], apart := false, laid := [("dobby/span.none", laid_dobby_span_none)], narrowed := true }
def SpanFitsUptoSaid : Prop := spanFitsUptoRow.holds Tryd.pinned (OpenSpec.upto spanFitsSpec)

/-- 'dobbylaw02.SpanDigits', WHERE WHAT IT READS IS OF BULK AT MOST 1048576: true; the input reads as it did. -/
def spanDigitsUptoRow : OpenClaim := { program := "ytlpocahflolmpaadoor", sum := "633701e15f806289f0f112a511ab28c115f886b391ea2307ade5a638db98adc9", func := "dobby/dobbylaw02.SpanDigits", spec := "spanDigits", named := ["dobby/span.none"], apart := false, laid := [("dobby/span.none", laid_dobby_span_none)], narrowed := true }
def SpanDigitsUptoSaid : Prop := spanDigitsUptoRow.holds Tryd.pinned (OpenSpec.upto spanDigitsSpec)

/-- 'dobbylaw02.SpanSizes', WHERE WHAT IT READS IS OF BULK AT MOST 1048576: true; the input reads as it did. -/
def spanSizesUptoRow : OpenClaim := { program := "ytlpocahflolmpaadoor", sum := "633701e15f806289f0f112a511ab28c115f886b391ea2307ade5a638db98adc9", func := "dobby/dobbylaw02.SpanSizes", spec := "spanSizes", named := ["dobby/span.none"], apart := false, laid := [("dobby/span.none", laid_dobby_span_none)], narrowed := true }
def SpanSizesUptoSaid : Prop := spanSizesUptoRow.holds Tryd.pinned (OpenSpec.upto spanSizesSpec)

/-- 'dobbylaw02.SpanAdds', WHERE WHAT IT READS IS OF BULK AT MOST 1048576: true; the input reads as it did. -/
def spanAddsUptoRow : OpenClaim := { program := "ytlpocahflolmpaadoor", sum := "633701e15f806289f0f112a511ab28c115f886b391ea2307ade5a638db98adc9", func := "dobby/dobbylaw02.SpanAdds", spec := "spanAdds", named := ["dobby/span.none"], apart := false, laid := [("dobby/span.none", laid_dobby_span_none)], narrowed := true }
def SpanAddsUptoSaid : Prop := spanAddsUptoRow.holds Tryd.pinned (OpenSpec.upto spanAddsSpec)

end Rows
end Go.Proofs.YtlpocahflolmpaaDoor
