/-
  NARROWER THAN 'FOR EVERY INPUT', by the rows' own cells (each row's printed sentence says how): NamesBack: laid · WtypePuts: laid · WtypeBack: laid · CursorPlaces: laid.
  DERIVED. THE GIVEN ROWS OF THIS SEAT. 4 by the template 'for every input the law returns true; each argument reads behind the call as it read before'; 0 by the template 'total and deterministic' (their statements: YtiohiiekaofkbaaDoorTotals.lean).
  GIVEN WITH THE SEED: the statements are not yours to turn. If you find one false, say at which input.
  Laid BY PROGRAM, IN A SANDBOX (cutbox-rows.mjs): the forced cells as the released guide's own fill.sh prints them over the translation ca114b4d994f46d7… (all of the seat's roots in one cut). By AI agents, Wed Nov 11 2026. No macro, syntax, notation, axiom, sorry.
-/
import Derived.Test.YtiohiiekaofkbaaDoorChecked
import GoSem.Claim
import GoSem.ClaimJoined
import GoSem.ClaimMapViews
import Derived.JoinedTies
import Derived.KernelRfl
namespace Go.Proofs.YtiohiiekaofkbaaDoor
/- THE CELL 'sum', in the pinned program and in every row, IS THE sha256 OF THE DUMP (.gsa) THAT YtiohiiekaofkbaaDoorProg.lean LOADS. Nothing in Lean hashes anything: it is a label: what it is worth is what the hold of that sum in a sandbox is worth. -/
noncomputable def Tryd.pinned : Pinned := { name := "ytiohiiekaofkbaadoor", sum := "ca114b4d994f46d78fe9c25b52ef034d2cd762d0c2b90173d9e4ad153887718b", checked := Tryd.checked }
namespace Rows
def none {H : Type} : Left H := { results := [], args := [] }

/- WHAT THE LISTED PACKAGE-LEVEL VARIABLES READ AS WHEN THE CALL BEGINS. Each datum BY PROGRAM (the guide's laid-datum.mjs) off the statement by which the dump's own 'gosem.cut.vars' lays the variable. In a bare row this is a premise. The card (YtiohiiekaofkbaaDoorCards.lean) ties it to the program's text. -/
def laid_dobby_span_none {H : Type} : DataW H := .agg [.lit (.int .u64 1), .lit (.int .u64 0)]
def laid_dobby_names_none {H : Type} : DataW H := .agg [.lit (.int .i64 0), .lit (.int .i64 0)]
def laid_dobby_names_any2 {H : Type} : DataW H := .agg [.lit (.int .i64 2), .lit (.int .i64 1099511627776)]
def laid_dobby_names_some {H : Type} : DataW H := .agg [.lit (.int .i64 1), .lit (.int .i64 1099511627776)]
def laid_dobby_wtype_number {H : Type} : DataW H := .agg [.lit (.int .i64 1), .lit (.int .i64 5)]
def laid_dobby_wtype_one {H : Type} : DataW H := .agg [.lit (.int .i64 1), .lit (.int .i64 1)]
def laid_dobby_wtype_some {H : Type} : DataW H := .agg [.lit (.int .i64 1), .lit (.int .i64 1099511627776)]

/-- 'dobbylaw14.NamesBack': WHATEVER THE INPUT: true; the input reads as it did. -/
def namesBackSpec : ChangeSpec := { name := "namesBack", fn := fun _ => fun
  | [d1, d2, d3] => { results := [.lit (.bool true)], args := [d1, d2, d3] }
  | _ => none }
def namesBackRow : OpenClaim := { program := "ytiohiiekaofkbaadoor", sum := "ca114b4d994f46d78fe9c25b52ef034d2cd762d0c2b90173d9e4ad153887718b", func := "dobby/dobbylaw14.NamesBack", spec := "namesBack", unfollowed := true, recurses := true, named := ["dobby/names.some", "dobby/span.none", "dobby/names.none", "dobby/names.any2"], apart := false, laid := [("dobby/span.none", laid_dobby_span_none), ("dobby/names.none", laid_dobby_names_none), ("dobby/names.any2", laid_dobby_names_any2), ("dobby/names.some", laid_dobby_names_some)] }
def NamesBackSaid : Prop := namesBackRow.holds Tryd.pinned (OpenSpec.ofChange namesBackSpec)

/-- ITS FALSE NEIGHBOUR: 'it returns false'. Refute it at one input. -/
def namesBackWrong : ChangeSpec := { name := "namesBack", fn := fun _ => fun
  | [d1, d2, d3] => { results := [.lit (.bool false)], args := [d1, d2, d3] }
  | _ => none }
def NamesBackWrongFalsely : Prop := namesBackRow.holds Tryd.pinned (OpenSpec.ofChange namesBackWrong)

/-- 'dobbylaw05.WtypePuts': WHATEVER THE INPUT: true; the input reads as it did. -/
def wtypePutsSpec : ChangeSpec := { name := "wtypePuts", fn := fun _ => fun
  | [d1, d2] => { results := [.lit (.bool true)], args := [d1, d2] }
  | _ => none }
def wtypePutsRow : OpenClaim := { program := "ytiohiiekaofkbaadoor", sum := "ca114b4d994f46d78fe9c25b52ef034d2cd762d0c2b90173d9e4ad153887718b", func := "dobby/dobbylaw05.WtypePuts", spec := "wtypePuts", unfollowed := true, recurses := true, named := ["dobby/wtype.number"], apart := false, laid := [("dobby/wtype.number", laid_dobby_wtype_number)] }
def WtypePutsSaid : Prop := wtypePutsRow.holds Tryd.pinned (OpenSpec.ofChange wtypePutsSpec)

/-- ITS FALSE NEIGHBOUR: 'it returns false'. Refute it at one input. -/
def wtypePutsWrong : ChangeSpec := { name := "wtypePuts", fn := fun _ => fun
  | [d1, d2] => { results := [.lit (.bool false)], args := [d1, d2] }
  | _ => none }
def WtypePutsWrongFalsely : Prop := wtypePutsRow.holds Tryd.pinned (OpenSpec.ofChange wtypePutsWrong)

/-- 'dobbylaw05.WtypeBack': WHATEVER THE INPUT: true; the input reads as it did. -/
def wtypeBackSpec : ChangeSpec := { name := "wtypeBack", fn := fun _ => fun
  | [d1, d2] => { results := [.lit (.bool true)], args := [d1, d2] }
  | _ => none }
def wtypeBackRow : OpenClaim := { program := "ytiohiiekaofkbaadoor", sum := "ca114b4d994f46d78fe9c25b52ef034d2cd762d0c2b90173d9e4ad153887718b", func := "dobby/dobbylaw05.WtypeBack", spec := "wtypeBack", unfollowed := true, recurses := true, named := ["dobby/wtype.some", "dobby/wtype.one", "dobby/span.none", "dobby/wtype.number"], apart := false, laid := [("dobby/span.none", laid_dobby_span_none), ("dobby/wtype.number", laid_dobby_wtype_number), ("dobby/wtype.one", laid_dobby_wtype_one), ("dobby/wtype.some", laid_dobby_wtype_some)] }
def WtypeBackSaid : Prop := wtypeBackRow.holds Tryd.pinned (OpenSpec.ofChange wtypeBackSpec)

/-- ITS FALSE NEIGHBOUR: 'it returns false'. Refute it at one input. -/
def wtypeBackWrong : ChangeSpec := { name := "wtypeBack", fn := fun _ => fun
  | [d1, d2] => { results := [.lit (.bool false)], args := [d1, d2] }
  | _ => none }
def WtypeBackWrongFalsely : Prop := wtypeBackRow.holds Tryd.pinned (OpenSpec.ofChange wtypeBackWrong)

/-- 'dobbylaw04.CursorPlaces': WHATEVER THE INPUT: true; the input reads as it did. -/
def cursorPlacesSpec : ChangeSpec := { name := "cursorPlaces", fn := fun _ => fun
  | [d1, d2, d3] => { results := [.lit (.bool true)], args := [d1, d2, d3] }
  | _ => none }
def cursorPlacesRow : OpenClaim := { program := "ytiohiiekaofkbaadoor", sum := "ca114b4d994f46d78fe9c25b52ef034d2cd762d0c2b90173d9e4ad153887718b", func := "dobby/dobbylaw04.CursorPlaces", spec := "cursorPlaces", unfollowed := true, recurses := true, named := ["dobby/span.none"], apart := false, laid := [("dobby/span.none", laid_dobby_span_none)] }
def CursorPlacesSaid : Prop := cursorPlacesRow.holds Tryd.pinned (OpenSpec.ofChange cursorPlacesSpec)

/-- ITS FALSE NEIGHBOUR: 'it returns false'. Refute it at one input. -/
def cursorPlacesWrong : ChangeSpec := { name := "cursorPlaces", fn := fun _ => fun
  | [d1, d2, d3] => { results := [.lit (.bool false)], args := [d1, d2, d3] }
  | _ => none }
def CursorPlacesWrongFalsely : Prop := cursorPlacesRow.holds Tryd.pinned (OpenSpec.ofChange cursorPlacesWrong)

/- THE SECOND FORM. 'bulk': how many values and letters a reading holds, each counted each time it is reached (what is shared counts as often as it is met; a slice's spare places count too). A statement '..UptoSaid' is the law's where the arguments, and the package variables that the reading takes, are together of bulk at most 1048576: NARROWER than '..Said'. Prove '..Said' where nothing that the law and all that it calls make is longer than what came in: it says more and counts as full. Else prove '..UptoSaid'. A law counts once. -/
mutual
def uptoBulk {H : Type} : DataW H → Nat
  | .lit (.string bytes) => bytes.length + 1
  | .lit _ => 1
  | .nil => 1
  | .ptr d => uptoBulk d + 1
  | .slice elems spare => uptoBulkAll elems + uptoBulkAll spare + 1
  | .agg parts => uptoBulkAll parts + 1
  | .iface _ d => uptoBulk d + 1
  | .map entries => uptoBulkEntries entries + 1
  | .held _ => 1
def uptoBulkAll {H : Type} : List (DataW H) → Nat
  | [] => 0
  | d :: r => uptoBulk d + uptoBulkAll r
def uptoBulkEntries {H : Type} : List (Lit × DataW H) → Nat
  | [] => 0
  | x :: r => uptoBulkEntry x + uptoBulkEntries r
def uptoBulkEntry {H : Type} : Lit × DataW H → Nat
  | (.string bytes, d) => bytes.length + uptoBulk d + 1
  | (_, d) => uptoBulk d + 1
 end
def uptoSmall : (H : Type) → List (DataW H) → Bool := fun _ ds => decide (uptoBulkAll ds ≤ 1048576)
def OpenSpec.upto (s : _root_.Go.ChangeSpec) : _root_.Go.OpenSpec := { _root_.Go.OpenSpec.ofChange s with cond := some uptoSmall }

/-- 'dobbylaw14.NamesBack', WHERE WHAT IT READS IS OF BULK AT MOST 1048576: true; the input reads as it did. -/
def namesBackUptoRow : OpenClaim := { program := "ytiohiiekaofkbaadoor", sum := "ca114b4d994f46d78fe9c25b52ef034d2cd762d0c2b90173d9e4ad153887718b", func := "dobby/dobbylaw14.NamesBack", spec := "namesBack", unfollowed := true, recurses := true, named := ["dobby/names.some", "dobby/span.none", "dobby/names.none", "dobby/names.any2"], apart := false, laid := [("dobby/span.none", laid_dobby_span_none), ("dobby/names.none", laid_dobby_names_none), ("dobby/names.any2", laid_dobby_names_any2), ("dobby/names.some", laid_dobby_names_some)], narrowed := true }
def NamesBackUptoSaid : Prop := namesBackUptoRow.holds Tryd.pinned (OpenSpec.upto namesBackSpec)

/-- 'dobbylaw05.WtypePuts', WHERE WHAT IT READS IS OF BULK AT MOST 1048576: true; the input reads as it did. -/
def wtypePutsUptoRow : OpenClaim := { program := "ytiohiiekaofkbaadoor", sum := "ca114b4d994f46d78fe9c25b52ef034d2cd762d0c2b90173d9e4ad153887718b", func := "dobby/dobbylaw05.WtypePuts", spec := "wtypePuts", unfollowed := true, recurses := true, named := ["dobby/wtype.number"], apart := false, laid := [("dobby/wtype.number", laid_dobby_wtype_number)], narrowed := true }
def WtypePutsUptoSaid : Prop := wtypePutsUptoRow.holds Tryd.pinned (OpenSpec.upto wtypePutsSpec)

/-- 'dobbylaw05.WtypeBack', WHERE WHAT IT READS IS OF BULK AT MOST 1048576: true; the input reads as it did. -/
def wtypeBackUptoRow : OpenClaim := { program := "ytiohiiekaofkbaadoor", sum := "ca114b4d994f46d78fe9c25b52ef034d2cd762d0c2b90173d9e4ad153887718b", func := "dobby/dobbylaw05.WtypeBack", spec := "wtypeBack", unfollowed := true, recurses := true, named := ["dobby/wtype.some", "dobby/wtype.one", "dobby/span.none", "dobby/wtype.number"], apart := false, laid := [("dobby/span.none", laid_dobby_span_none), ("dobby/wtype.number", laid_dobby_wtype_number), ("dobby/wtype.one", laid_dobby_wtype_one), ("dobby/wtype.some", laid_dobby_wtype_some)], narrowed := true }
def WtypeBackUptoSaid : Prop := wtypeBackUptoRow.holds Tryd.pinned (OpenSpec.upto wtypeBackSpec)

/-- 'dobbylaw04.CursorPlaces', WHERE WHAT IT READS IS OF BULK AT MOST 1048576: true; the input reads as it did. -/
def cursorPlacesUptoRow : OpenClaim := { program := "ytiohiiekaofkbaadoor", sum := "ca114b4d994f46d78fe9c25b52ef034d2cd762d0c2b90173d9e4ad153887718b", func := "dobby/dobbylaw04.CursorPlaces", spec := "cursorPlaces", unfollowed := true, recurses := true, named := ["dobby/span.none"], apart := false, laid := [("dobby/span.none", laid_dobby_span_none)], narrowed := true }
def CursorPlacesUptoSaid : Prop := cursorPlacesUptoRow.holds Tryd.pinned (OpenSpec.upto cursorPlacesSpec)

end Rows
end Go.Proofs.YtiohiiekaofkbaaDoor
