/-
  NARROWER THAN 'FOR EVERY INPUT', by the rows' own cells (each row's printed sentence says how): NamesReads: laid.
  DERIVED. THE GIVEN ROWS OF THIS SEAT. 1 by the template 'for every input the law returns true; each argument reads behind the call as it read before'; 0 by the template 'total and deterministic' (their statements: YtiohiiekaofkbaaGreatDoorTotals.lean).
  GIVEN WITH THE SEED: the statements are not yours to turn. If you find one false, say at which input.
  Laid BY PROGRAM, IN A SANDBOX (cutbox-rows.mjs): the forced cells as the released guide's own fill.sh prints them over the translation 62da5658dc7a87aa… (all of the seat's roots in one cut). By AI agents, Wed Nov 11 2026. No macro, syntax, notation, axiom, sorry.
-/
import Derived.Test.YtiohiiekaofkbaaGreatDoorChecked
import GoSem.Claim
import GoSem.ClaimJoined
import GoSem.ClaimMapViews
import Derived.JoinedTies
import Derived.KernelRfl
namespace Go.Proofs.YtiohiiekaofkbaaGreatDoor
/- THE CELL 'sum', in the pinned program and in every row, IS THE sha256 OF THE DUMP (.gsa) THAT YtiohiiekaofkbaaGreatDoorProg.lean LOADS. Nothing in Lean hashes anything: it is a label: what it is worth is what the hold of that sum in a sandbox is worth. -/
noncomputable def Tryz.pinned : Pinned := { name := "ytiohiiekaofkbaagreatdoor", sum := "62da5658dc7a87aabdd55c2c1400cd6c36f9b8e0c8749854dd902d2e92820635", checked := Tryz.checked }
namespace Rows
def none {H : Type} : Left H := { results := [], args := [] }

/- WHAT THE LISTED PACKAGE-LEVEL VARIABLES READ AS WHEN THE CALL BEGINS. Each datum BY PROGRAM (the guide's laid-datum.mjs) off the statement by which the dump's own 'gosem.cut.vars' lays the variable. In a bare row this is a premise. The card (YtiohiiekaofkbaaGreatDoorCards.lean) ties it to the program's text. -/
def laid_dobby_span_none {H : Type} : DataW H := .agg [.lit (.int .u64 1), .lit (.int .u64 0)]
def laid_dobby_names_none {H : Type} : DataW H := .agg [.lit (.int .i64 0), .lit (.int .i64 0)]
def laid_dobby_names_any2 {H : Type} : DataW H := .agg [.lit (.int .i64 2), .lit (.int .i64 1099511627776)]
def laid_dobby_names_some {H : Type} : DataW H := .agg [.lit (.int .i64 1), .lit (.int .i64 1099511627776)]

/-- 'dobbylaw14.NamesReads': WHATEVER THE INPUT: true; the input reads as it did. -/
def namesReadsSpec : ChangeSpec := { name := "namesReads", fn := fun _ => fun
  | [d1, d2] => { results := [.lit (.bool true)], args := [d1, d2] }
  | _ => none }
def namesReadsRow : OpenClaim := { program := "ytiohiiekaofkbaagreatdoor", sum := "62da5658dc7a87aabdd55c2c1400cd6c36f9b8e0c8749854dd902d2e92820635", func := "dobby/dobbylaw14.NamesReads", spec := "namesReads", unfollowed := true, recurses := true, named := ["dobby/names.some", "dobby/span.none", "dobby/names.none", "dobby/names.any2"], apart := false, laid := [("dobby/span.none", laid_dobby_span_none), ("dobby/names.none", laid_dobby_names_none), ("dobby/names.any2", laid_dobby_names_any2), ("dobby/names.some", laid_dobby_names_some)] }
def NamesReadsSaid : Prop := namesReadsRow.holds Tryz.pinned (OpenSpec.ofChange namesReadsSpec)

/-- ITS FALSE NEIGHBOUR: 'it returns false'. Refute it at one input. -/
def namesReadsWrong : ChangeSpec := { name := "namesReads", fn := fun _ => fun
  | [d1, d2] => { results := [.lit (.bool false)], args := [d1, d2] }
  | _ => none }
def NamesReadsWrongFalsely : Prop := namesReadsRow.holds Tryz.pinned (OpenSpec.ofChange namesReadsWrong)

/- THE SECOND FORM. 'bulk': how many values and letters a reading holds, each counted each time it is reached (what is shared counts as often as it is met; a slice's spare places count too). A statement '..UptoSaid' is the law's where the arguments, and the package variables that the reading takes, are together of bulk at most 1048576: NARROWER than '..Said'. Prove '..Said' where nothing that the law and all that it calls make is longer than what came in: it says more and counts as full. Else prove '..UptoSaid'. A law counts once. -/
mutual
def uptoBulk {H : Type} : DataW H → Nat
  | .lit (.string bytes) => bytes.length + 1
  | .lit _ => 1
  | .nil => 1
  | .ptr d => uptoBulk d + 1
  | .slice elems spare => uptoBulkAll elems + uptoBulkAll spare + 1
  | .agg parts => uptoBulkAll parts + 1
  | .iface _ d => uptoBulk d + 1
  | .map entries => uptoBulkEntries entries + 1
  | .held _ => 1
def uptoBulkAll {H : Type} : List (DataW H) → Nat
  | [] => 0
  | d :: r => uptoBulk d + uptoBulkAll r
def uptoBulkEntries {H : Type} : List (Lit × DataW H) → Nat
  | [] => 0
  | x :: r => uptoBulkEntry x + uptoBulkEntries r
def uptoBulkEntry {H : Type} : Lit × DataW H → Nat
  | (.string bytes, d) => bytes.length + uptoBulk d + 1
  | (_, d) => uptoBulk d + 1
 end
def uptoSmall : (H : Type) → List (DataW H) → Bool := fun _ ds => decide (uptoBulkAll ds ≤ 1048576)
def OpenSpec.upto (s : _root_.Go.ChangeSpec) : _root_.Go.OpenSpec := { _root_.Go.OpenSpec.ofChange s with cond := some uptoSmall }

/-- 'dobbylaw14.NamesReads', WHERE WHAT IT READS IS OF BULK AT MOST 1048576: true; the input reads as it did. -/
def namesReadsUptoRow : OpenClaim := { program := "ytiohiiekaofkbaagreatdoor", sum := "62da5658dc7a87aabdd55c2c1400cd6c36f9b8e0c8749854dd902d2e92820635", func := "dobby/dobbylaw14.NamesReads", spec := "namesReads", unfollowed := true, recurses := true, named := ["dobby/names.some", "dobby/span.none", "dobby/names.none", "dobby/names.any2"], apart := false, laid := [("dobby/span.none", laid_dobby_span_none), ("dobby/names.none", laid_dobby_names_none), ("dobby/names.any2", laid_dobby_names_any2), ("dobby/names.some", laid_dobby_names_some)], narrowed := true }
def NamesReadsUptoSaid : Prop := namesReadsUptoRow.holds Tryz.pinned (OpenSpec.upto namesReadsSpec)

end Rows
end Go.Proofs.YtiohiiekaofkbaaGreatDoor
