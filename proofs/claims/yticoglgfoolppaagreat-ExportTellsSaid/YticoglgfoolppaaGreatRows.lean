/-
  No cell of these rows narrows 'for every input' (looked for: loops, veiled, ifaces, maps, wideKeys, modest, calm, conditions, laid).
  DERIVED. THE GIVEN ROWS OF THIS SEAT. 5 by the template 'for every input the law returns true; each argument reads behind the call as it read before'; 0 by the template 'total and deterministic' (their statements: YticoglgfoolppaaGreatTotals.lean).
  GIVEN WITH THE SEED: the statements are not yours to turn. If you find one false, say at which input.
  Laid BY PROGRAM, IN A SANDBOX (cutbox-rows.mjs): the forced cells as the released guide's own fill.sh prints them over the translation 89da051af153ccd6… (all of the seat's roots in one cut). By AI agents, Wed Nov 11 2026. No macro, syntax, notation, axiom, sorry.
-/
import Derived.Test.YticoglgfoolppaaGreatChecked
import GoSem.Claim
import GoSem.ClaimJoined
import GoSem.ClaimMapViews
import Derived.JoinedTies
import Derived.KernelRfl
namespace Go.Proofs.YticoglgfoolppaaGreat
/- THE CELL 'sum', in the pinned program and in every row, IS THE sha256 OF THE DUMP (.gsa) THAT YticoglgfoolppaaGreatProg.lean LOADS. Nothing in Lean hashes anything: it is a label: what it is worth is what the hold of that sum in a sandbox is worth. -/
noncomputable def Tryz.pinned : Pinned := { name := "yticoglgfoolppaagreat", sum := "89da051af153ccd61274e5f3b6a7169e246f1b64a7aec2682d6c6880ef3b8764", checked := Tryz.checked }
namespace Rows
def none {H : Type} : Left H := { results := [], args := [] }

/-- 'mementolaw23.ExportWhich': WHATEVER THE INPUT: true; the input reads as it did. -/
def exportWhichSpec : ChangeSpec := { name := "exportWhich", fn := fun _ => fun
  | [d1, d2, d3] => { results := [.lit (.bool true)], args := [d1, d2, d3] }
  | _ => none }
def exportWhichRow : OpenClaim := { program := "yticoglgfoolppaagreat", sum := "89da051af153ccd61274e5f3b6a7169e246f1b64a7aec2682d6c6880ef3b8764", func := "memento/mementolaw23.ExportWhich", spec := "exportWhich", unfollowed := true, recurses := true, plainKeys := false, apart := false }
def ExportWhichSaid : Prop := exportWhichRow.holds Tryz.pinned (OpenSpec.ofChange exportWhichSpec)

/-- ITS FALSE NEIGHBOUR: 'it returns false'. Refute it at one input. -/
def exportWhichWrong : ChangeSpec := { name := "exportWhich", fn := fun _ => fun
  | [d1, d2, d3] => { results := [.lit (.bool false)], args := [d1, d2, d3] }
  | _ => none }
def ExportWhichWrongFalsely : Prop := exportWhichRow.holds Tryz.pinned (OpenSpec.ofChange exportWhichWrong)

/-- 'mementolaw23.ExportTells': WHATEVER THE INPUT: true; the input reads as it did. -/
def exportTellsSpec : ChangeSpec := { name := "exportTells", fn := fun _ => fun
  | [d1, d2, d3, d4, d5, d6, d7, d8] => { results := [.lit (.bool true)], args := [d1, d2, d3, d4, d5, d6, d7, d8] }
  | _ => none }
def exportTellsRow : OpenClaim := { program := "yticoglgfoolppaagreat", sum := "89da051af153ccd61274e5f3b6a7169e246f1b64a7aec2682d6c6880ef3b8764", func := "memento/mementolaw23.ExportTells", spec := "exportTells", unfollowed := true, recurses := true, plainKeys := false, apart := false }
def ExportTellsSaid : Prop := exportTellsRow.holds Tryz.pinned (OpenSpec.ofChange exportTellsSpec)

/-- ITS FALSE NEIGHBOUR: 'it returns false'. Refute it at one input. -/
def exportTellsWrong : ChangeSpec := { name := "exportTells", fn := fun _ => fun
  | [d1, d2, d3, d4, d5, d6, d7, d8] => { results := [.lit (.bool false)], args := [d1, d2, d3, d4, d5, d6, d7, d8] }
  | _ => none }
def ExportTellsWrongFalsely : Prop := exportTellsRow.holds Tryz.pinned (OpenSpec.ofChange exportTellsWrong)

/-- 'mementolaw23.ExportStates': WHATEVER THE INPUT: true; the input reads as it did. -/
def exportStatesSpec : ChangeSpec := { name := "exportStates", fn := fun _ => fun
  | [d1, d2] => { results := [.lit (.bool true)], args := [d1, d2] }
  | _ => none }
def exportStatesRow : OpenClaim := { program := "yticoglgfoolppaagreat", sum := "89da051af153ccd61274e5f3b6a7169e246f1b64a7aec2682d6c6880ef3b8764", func := "memento/mementolaw23.ExportStates", spec := "exportStates", unfollowed := true, recurses := true, plainKeys := false, apart := false }
def ExportStatesSaid : Prop := exportStatesRow.holds Tryz.pinned (OpenSpec.ofChange exportStatesSpec)

/-- ITS FALSE NEIGHBOUR: 'it returns false'. Refute it at one input. -/
def exportStatesWrong : ChangeSpec := { name := "exportStates", fn := fun _ => fun
  | [d1, d2] => { results := [.lit (.bool false)], args := [d1, d2] }
  | _ => none }
def ExportStatesWrongFalsely : Prop := exportStatesRow.holds Tryz.pinned (OpenSpec.ofChange exportStatesWrong)

/-- 'mementolaw23.ExportErrors': WHATEVER THE INPUT: true; the input reads as it did. -/
def exportErrorsSpec : ChangeSpec := { name := "exportErrors", fn := fun _ => fun
  | [d1, d2, d3, d4] => { results := [.lit (.bool true)], args := [d1, d2, d3, d4] }
  | _ => none }
def exportErrorsRow : OpenClaim := { program := "yticoglgfoolppaagreat", sum := "89da051af153ccd61274e5f3b6a7169e246f1b64a7aec2682d6c6880ef3b8764", func := "memento/mementolaw23.ExportErrors", spec := "exportErrors", unfollowed := true, recurses := true, plainKeys := false, apart := false }
def ExportErrorsSaid : Prop := exportErrorsRow.holds Tryz.pinned (OpenSpec.ofChange exportErrorsSpec)

/-- ITS FALSE NEIGHBOUR: 'it returns false'. Refute it at one input. -/
def exportErrorsWrong : ChangeSpec := { name := "exportErrors", fn := fun _ => fun
  | [d1, d2, d3, d4] => { results := [.lit (.bool false)], args := [d1, d2, d3, d4] }
  | _ => none }
def ExportErrorsWrongFalsely : Prop := exportErrorsRow.holds Tryz.pinned (OpenSpec.ofChange exportErrorsWrong)

/-- 'mementolaw23.ExportNothing': WHATEVER THE INPUT: true; the input reads as it did. -/
def exportNothingSpec : ChangeSpec := { name := "exportNothing", fn := fun _ => fun
  | [d1, d2] => { results := [.lit (.bool true)], args := [d1, d2] }
  | _ => none }
def exportNothingRow : OpenClaim := { program := "yticoglgfoolppaagreat", sum := "89da051af153ccd61274e5f3b6a7169e246f1b64a7aec2682d6c6880ef3b8764", func := "memento/mementolaw23.ExportNothing", spec := "exportNothing", unfollowed := true, recurses := true, plainKeys := false, apart := false }
def ExportNothingSaid : Prop := exportNothingRow.holds Tryz.pinned (OpenSpec.ofChange exportNothingSpec)

/-- ITS FALSE NEIGHBOUR: 'it returns false'. Refute it at one input. -/
def exportNothingWrong : ChangeSpec := { name := "exportNothing", fn := fun _ => fun
  | [d1, d2] => { results := [.lit (.bool false)], args := [d1, d2] }
  | _ => none }
def ExportNothingWrongFalsely : Prop := exportNothingRow.holds Tryz.pinned (OpenSpec.ofChange exportNothingWrong)

/- THE SECOND FORM. 'bulk': how many values and letters a reading holds, each counted each time it is reached (what is shared counts as often as it is met; a slice's spare places count too). A statement '..UptoSaid' is the law's where the arguments, and the package variables that the reading takes, are together of bulk at most 1048576: NARROWER than '..Said'. Prove '..Said' where nothing that the law and all that it calls make is longer than what came in: it says more and counts as full. Else prove '..UptoSaid'. A law counts once. -/
mutual
def uptoBulk {H : Type} : DataW H → Nat
  | .lit (.string bytes) => bytes.length + 1
  | .lit _ => 1
  | .nil => 1
  | .ptr d => uptoBulk d + 1
  | .slice elems spare => uptoBulkAll elems + uptoBulkAll spare + 1
  | .agg parts => uptoBulkAll parts + 1
  | .iface _ d => uptoBulk d + 1
  | .map entries => uptoBulkEntries entries + 1
  | .held _ => 1
def uptoBulkAll {H : Type} : List (DataW H) → Nat
  | [] => 0
  | d :: r => uptoBulk d + uptoBulkAll r
def uptoBulkEntries {H : Type} : List (Lit × DataW H) → Nat
  | [] => 0
  | x :: r => uptoBulkEntry x + uptoBulkEntries r
def uptoBulkEntry {H : Type} : Lit × DataW H → Nat
  | (.string bytes, d) => bytes.length + uptoBulk d + 1
  | (_, d) => uptoBulk d + 1
 end
def uptoSmall : (H : Type) → List (DataW H) → Bool := fun _ ds => decide (uptoBulkAll ds ≤ 1048576)
def OpenSpec.upto (s : _root_.Go.ChangeSpec) : _root_.Go.OpenSpec := { _root_.Go.OpenSpec.ofChange s with cond := some uptoSmall }

/-- 'mementolaw23.ExportWhich', WHERE WHAT IT READS IS OF BULK AT MOST 1048576: true; the input reads as it did. -/
def exportWhichUptoRow : OpenClaim := { program := "yticoglgfoolppaagreat", sum := "89da051af153ccd61274e5f3b6a7169e246f1b64a7aec2682d6c6880ef3b8764", func := "memento/mementolaw23.ExportWhich", spec := "exportWhich", unfollowed := true, recurses := true, plainKeys := false, apart := false, narrowed := true }
def ExportWhichUptoSaid : Prop := exportWhichUptoRow.holds Tryz.pinned (OpenSpec.upto exportWhichSpec)

/-- 'mementolaw23.ExportTells', WHERE WHAT IT READS IS OF BULK AT MOST 1048576: true; the input reads as it did. -/
def exportTellsUptoRow : OpenClaim := { program := "yticoglgfoolppaagreat", sum := "89da051af153ccd61274e5f3b6a7169e246f1b64a7aec2682d6c6880ef3b8764", func := "memento/mementolaw23.ExportTells", spec := "exportTells", unfollowed := true, recurses := true, plainKeys := false, apart := false, narrowed := true }
def ExportTellsUptoSaid : Prop := exportTellsUptoRow.holds Tryz.pinned (OpenSpec.upto exportTellsSpec)

/-- 'mementolaw23.ExportStates', WHERE WHAT IT READS IS OF BULK AT MOST 1048576: true; the input reads as it did. -/
def exportStatesUptoRow : OpenClaim := { program := "yticoglgfoolppaagreat", sum := "89da051af153ccd61274e5f3b6a7169e246f1b64a7aec2682d6c6880ef3b8764", func := "memento/mementolaw23.ExportStates", spec := "exportStates", unfollowed := true, recurses := true, plainKeys := false, apart := false, narrowed := true }
def ExportStatesUptoSaid : Prop := exportStatesUptoRow.holds Tryz.pinned (OpenSpec.upto exportStatesSpec)

/-- 'mementolaw23.ExportErrors', WHERE WHAT IT READS IS OF BULK AT MOST 1048576: true; the input reads as it did. -/
def exportErrorsUptoRow : OpenClaim := { program := "yticoglgfoolppaagreat", sum := "89da051af153ccd61274e5f3b6a7169e246f1b64a7aec2682d6c6880ef3b8764", func := "memento/mementolaw23.ExportErrors", spec := "exportErrors", unfollowed := true, recurses := true, plainKeys := false, apart := false, narrowed := true }
def ExportErrorsUptoSaid : Prop := exportErrorsUptoRow.holds Tryz.pinned (OpenSpec.upto exportErrorsSpec)

/-- 'mementolaw23.ExportNothing', WHERE WHAT IT READS IS OF BULK AT MOST 1048576: true; the input reads as it did. -/
def exportNothingUptoRow : OpenClaim := { program := "yticoglgfoolppaagreat", sum := "89da051af153ccd61274e5f3b6a7169e246f1b64a7aec2682d6c6880ef3b8764", func := "memento/mementolaw23.ExportNothing", spec := "exportNothing", unfollowed := true, recurses := true, plainKeys := false, apart := false, narrowed := true }
def ExportNothingUptoSaid : Prop := exportNothingUptoRow.holds Tryz.pinned (OpenSpec.upto exportNothingSpec)

end Rows
end Go.Proofs.YticoglgfoolppaaGreat
