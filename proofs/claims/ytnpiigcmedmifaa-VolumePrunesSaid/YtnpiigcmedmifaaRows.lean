/-
  No cell of these rows narrows 'for every input' (looked for: loops, veiled, ifaces, maps, wideKeys, modest, calm, conditions, laid).
  DERIVED. THE GIVEN ROWS OF THIS SEAT. 8 by the template 'for every input the law returns true; each argument reads behind the call as it read before'; 0 by the template 'total and deterministic' (their statements: YtnpiigcmedmifaaTotals.lean).
  GIVEN WITH THE SEED: the statements are not yours to turn. If you find one false, say at which input.
  Laid BY PROGRAM, IN A SANDBOX (cutbox-rows.mjs): the forced cells as the released guide's own fill.sh prints them over the translation 050ae73461cedd69… (all of the seat's roots in one cut). By AI agents, Wed Nov 11 2026. No macro, syntax, notation, axiom, sorry.
-/
import Derived.Test.YtnpiigcmedmifaaChecked
import GoSem.Claim
import GoSem.ClaimJoined
import GoSem.ClaimMapViews
import Derived.JoinedTies
import Derived.KernelRfl
namespace Go.Proofs.Ytnpiigcmedmifaa
/- THE CELL 'sum', in the pinned program and in every row, IS THE sha256 OF THE DUMP (.gsa) THAT YtnpiigcmedmifaaProg.lean LOADS. Nothing in Lean hashes anything: it is a label: what it is worth is what the hold of that sum in a sandbox is worth. -/
noncomputable def Try.pinned : Pinned := { name := "ytnpiigcmedmifaa", sum := "050ae73461cedd69fb4034ae63cd1798962b12657930d5e61100787266b78e2c", checked := Try.checked }
namespace Rows
def none {H : Type} : Left H := { results := [], args := [] }

/-- 'mementolaw16.VolumePlays': WHATEVER THE INPUT: true; the input reads as it did. -/
def volumePlaysSpec : ChangeSpec := { name := "volumePlays", fn := fun _ => fun
  | [d1, d2, d3, d4] => { results := [.lit (.bool true)], args := [d1, d2, d3, d4] }
  | _ => none }
def volumePlaysRow : OpenClaim := { program := "ytnpiigcmedmifaa", sum := "050ae73461cedd69fb4034ae63cd1798962b12657930d5e61100787266b78e2c", func := "memento/mementolaw16.VolumePlays", spec := "volumePlays", unfollowed := true, recurses := true, apart := false }
def VolumePlaysSaid : Prop := volumePlaysRow.holds Try.pinned (OpenSpec.ofChange volumePlaysSpec)

/-- ITS FALSE NEIGHBOUR: 'it returns false'. Refute it at one input. -/
def volumePlaysWrong : ChangeSpec := { name := "volumePlays", fn := fun _ => fun
  | [d1, d2, d3, d4] => { results := [.lit (.bool false)], args := [d1, d2, d3, d4] }
  | _ => none }
def VolumePlaysWrongFalsely : Prop := volumePlaysRow.holds Try.pinned (OpenSpec.ofChange volumePlaysWrong)

/-- 'mementolaw16.VolumeRights': WHATEVER THE INPUT: true; the input reads as it did. -/
def volumeRightsSpec : ChangeSpec := { name := "volumeRights", fn := fun _ => fun
  | [d1, d2, d3, d4, d5] => { results := [.lit (.bool true)], args := [d1, d2, d3, d4, d5] }
  | _ => none }
def volumeRightsRow : OpenClaim := { program := "ytnpiigcmedmifaa", sum := "050ae73461cedd69fb4034ae63cd1798962b12657930d5e61100787266b78e2c", func := "memento/mementolaw16.VolumeRights", spec := "volumeRights", unfollowed := true, recurses := true, apart := false }
def VolumeRightsSaid : Prop := volumeRightsRow.holds Try.pinned (OpenSpec.ofChange volumeRightsSpec)

/-- ITS FALSE NEIGHBOUR: 'it returns false'. Refute it at one input. -/
def volumeRightsWrong : ChangeSpec := { name := "volumeRights", fn := fun _ => fun
  | [d1, d2, d3, d4, d5] => { results := [.lit (.bool false)], args := [d1, d2, d3, d4, d5] }
  | _ => none }
def VolumeRightsWrongFalsely : Prop := volumeRightsRow.holds Try.pinned (OpenSpec.ofChange volumeRightsWrong)

/-- 'mementolaw16.VolumePushes': WHATEVER THE INPUT: true; the input reads as it did. -/
def volumePushesSpec : ChangeSpec := { name := "volumePushes", fn := fun _ => fun
  | [d1, d2, d3, d4] => { results := [.lit (.bool true)], args := [d1, d2, d3, d4] }
  | _ => none }
def volumePushesRow : OpenClaim := { program := "ytnpiigcmedmifaa", sum := "050ae73461cedd69fb4034ae63cd1798962b12657930d5e61100787266b78e2c", func := "memento/mementolaw16.VolumePushes", spec := "volumePushes", unfollowed := true, recurses := true, apart := false }
def VolumePushesSaid : Prop := volumePushesRow.holds Try.pinned (OpenSpec.ofChange volumePushesSpec)

/-- ITS FALSE NEIGHBOUR: 'it returns false'. Refute it at one input. -/
def volumePushesWrong : ChangeSpec := { name := "volumePushes", fn := fun _ => fun
  | [d1, d2, d3, d4] => { results := [.lit (.bool false)], args := [d1, d2, d3, d4] }
  | _ => none }
def VolumePushesWrongFalsely : Prop := volumePushesRow.holds Try.pinned (OpenSpec.ofChange volumePushesWrong)

/-- 'mementolaw16.VolumePrunes': WHATEVER THE INPUT: true; the input reads as it did. -/
def volumePrunesSpec : ChangeSpec := { name := "volumePrunes", fn := fun _ => fun
  | [d1, d2, d3] => { results := [.lit (.bool true)], args := [d1, d2, d3] }
  | _ => none }
def volumePrunesRow : OpenClaim := { program := "ytnpiigcmedmifaa", sum := "050ae73461cedd69fb4034ae63cd1798962b12657930d5e61100787266b78e2c", func := "memento/mementolaw16.VolumePrunes", spec := "volumePrunes", unfollowed := true, recurses := true, apart := false }
def VolumePrunesSaid : Prop := volumePrunesRow.holds Try.pinned (OpenSpec.ofChange volumePrunesSpec)

/-- ITS FALSE NEIGHBOUR: 'it returns false'. Refute it at one input. -/
def volumePrunesWrong : ChangeSpec := { name := "volumePrunes", fn := fun _ => fun
  | [d1, d2, d3] => { results := [.lit (.bool false)], args := [d1, d2, d3] }
  | _ => none }
def VolumePrunesWrongFalsely : Prop := volumePrunesRow.holds Try.pinned (OpenSpec.ofChange volumePrunesWrong)

/-- 'mementolaw16.VolumePins': WHATEVER THE INPUT: true; the input reads as it did. -/
def volumePinsSpec : ChangeSpec := { name := "volumePins", fn := fun _ => fun
  | [d1, d2] => { results := [.lit (.bool true)], args := [d1, d2] }
  | _ => none }
def volumePinsRow : OpenClaim := { program := "ytnpiigcmedmifaa", sum := "050ae73461cedd69fb4034ae63cd1798962b12657930d5e61100787266b78e2c", func := "memento/mementolaw16.VolumePins", spec := "volumePins", unfollowed := true, recurses := true, apart := false }
def VolumePinsSaid : Prop := volumePinsRow.holds Try.pinned (OpenSpec.ofChange volumePinsSpec)

/-- ITS FALSE NEIGHBOUR: 'it returns false'. Refute it at one input. -/
def volumePinsWrong : ChangeSpec := { name := "volumePins", fn := fun _ => fun
  | [d1, d2] => { results := [.lit (.bool false)], args := [d1, d2] }
  | _ => none }
def VolumePinsWrongFalsely : Prop := volumePinsRow.holds Try.pinned (OpenSpec.ofChange volumePinsWrong)

/-- 'mementolaw16.VolumeImports': WHATEVER THE INPUT: true; the input reads as it did. -/
def volumeImportsSpec : ChangeSpec := { name := "volumeImports", fn := fun _ => fun
  | [d1, d2, d3] => { results := [.lit (.bool true)], args := [d1, d2, d3] }
  | _ => none }
def volumeImportsRow : OpenClaim := { program := "ytnpiigcmedmifaa", sum := "050ae73461cedd69fb4034ae63cd1798962b12657930d5e61100787266b78e2c", func := "memento/mementolaw16.VolumeImports", spec := "volumeImports", unfollowed := true, recurses := true, apart := false }
def VolumeImportsSaid : Prop := volumeImportsRow.holds Try.pinned (OpenSpec.ofChange volumeImportsSpec)

/-- ITS FALSE NEIGHBOUR: 'it returns false'. Refute it at one input. -/
def volumeImportsWrong : ChangeSpec := { name := "volumeImports", fn := fun _ => fun
  | [d1, d2, d3] => { results := [.lit (.bool false)], args := [d1, d2, d3] }
  | _ => none }
def VolumeImportsWrongFalsely : Prop := volumeImportsRow.holds Try.pinned (OpenSpec.ofChange volumeImportsWrong)

/-- 'mementolaw16.VolumeStates': WHATEVER THE INPUT: true; the input reads as it did. -/
def volumeStatesSpec : ChangeSpec := { name := "volumeStates", fn := fun _ => fun
  | [d1, d2] => { results := [.lit (.bool true)], args := [d1, d2] }
  | _ => none }
def volumeStatesRow : OpenClaim := { program := "ytnpiigcmedmifaa", sum := "050ae73461cedd69fb4034ae63cd1798962b12657930d5e61100787266b78e2c", func := "memento/mementolaw16.VolumeStates", spec := "volumeStates", unfollowed := true, recurses := true, apart := false }
def VolumeStatesSaid : Prop := volumeStatesRow.holds Try.pinned (OpenSpec.ofChange volumeStatesSpec)

/-- ITS FALSE NEIGHBOUR: 'it returns false'. Refute it at one input. -/
def volumeStatesWrong : ChangeSpec := { name := "volumeStates", fn := fun _ => fun
  | [d1, d2] => { results := [.lit (.bool false)], args := [d1, d2] }
  | _ => none }
def VolumeStatesWrongFalsely : Prop := volumeStatesRow.holds Try.pinned (OpenSpec.ofChange volumeStatesWrong)

/-- 'mementolaw16.VolumeForms': WHATEVER THE INPUT: true; the input reads as it did. -/
def volumeFormsSpec : ChangeSpec := { name := "volumeForms", fn := fun _ => fun
  | [d1, d2, d3, d4, d5] => { results := [.lit (.bool true)], args := [d1, d2, d3, d4, d5] }
  | _ => none }
def volumeFormsRow : OpenClaim := { program := "ytnpiigcmedmifaa", sum := "050ae73461cedd69fb4034ae63cd1798962b12657930d5e61100787266b78e2c", func := "memento/mementolaw16.VolumeForms", spec := "volumeForms", unfollowed := true, recurses := true, apart := false }
def VolumeFormsSaid : Prop := volumeFormsRow.holds Try.pinned (OpenSpec.ofChange volumeFormsSpec)

/-- ITS FALSE NEIGHBOUR: 'it returns false'. Refute it at one input. -/
def volumeFormsWrong : ChangeSpec := { name := "volumeForms", fn := fun _ => fun
  | [d1, d2, d3, d4, d5] => { results := [.lit (.bool false)], args := [d1, d2, d3, d4, d5] }
  | _ => none }
def VolumeFormsWrongFalsely : Prop := volumeFormsRow.holds Try.pinned (OpenSpec.ofChange volumeFormsWrong)

/- THE SECOND FORM. 'bulk': how many values and letters a reading holds, each counted each time it is reached (what is shared counts as often as it is met; a slice's spare places count too). A statement '..UptoSaid' is the law's where the arguments, and the package variables that the reading takes, are together of bulk at most 1048576: NARROWER than '..Said'. Prove '..Said' where nothing that the law and all that it calls make is longer than what came in: it says more and counts as full. Else prove '..UptoSaid'. A law counts once. -/
mutual
def uptoBulk {H : Type} : DataW H → Nat
  | .lit (.string bytes) => bytes.length + 1
  | .lit _ => 1
  | .nil => 1
  | .ptr d => uptoBulk d + 1
  | .slice elems spare => uptoBulkAll elems + uptoBulkAll spare + 1
  | .agg parts => uptoBulkAll parts + 1
  | .iface _ d => uptoBulk d + 1
  | .map entries => uptoBulkEntries entries + 1
  | .held _ => 1
def uptoBulkAll {H : Type} : List (DataW H) → Nat
  | [] => 0
  | d :: r => uptoBulk d + uptoBulkAll r
def uptoBulkEntries {H : Type} : List (Lit × DataW H) → Nat
  | [] => 0
  | x :: r => uptoBulkEntry x + uptoBulkEntries r
def uptoBulkEntry {H : Type} : Lit × DataW H → Nat
  | (.string bytes, d) => bytes.length + uptoBulk d + 1
  | (_, d) => uptoBulk d + 1
 end
def uptoSmall : (H : Type) → List (DataW H) → Bool := fun _ ds => decide (uptoBulkAll ds ≤ 1048576)
def OpenSpec.upto (s : _root_.Go.ChangeSpec) : _root_.Go.OpenSpec := { _root_.Go.OpenSpec.ofChange s with cond := some uptoSmall }

/-- 'mementolaw16.VolumePlays', WHERE WHAT IT READS IS OF BULK AT MOST 1048576: true; the input reads as it did. -/
def volumePlaysUptoRow : OpenClaim := { program := "ytnpiigcmedmifaa", sum := "050ae73461cedd69fb4034ae63cd1798962b12657930d5e61100787266b78e2c", func := "memento/mementolaw16.VolumePlays", spec := "volumePlays", unfollowed := true, recurses := true, apart := false, narrowed := true }
def VolumePlaysUptoSaid : Prop := volumePlaysUptoRow.holds Try.pinned (OpenSpec.upto volumePlaysSpec)

/-- 'mementolaw16.VolumeRights', WHERE WHAT IT READS IS OF BULK AT MOST 1048576: true; the input reads as it did. -/
def volumeRightsUptoRow : OpenClaim := { program := "ytnpiigcmedmifaa", sum := "050ae73461cedd69fb4034ae63cd1798962b12657930d5e61100787266b78e2c", func := "memento/mementolaw16.VolumeRights", spec := "volumeRights", unfollowed := true, recurses := true, apart := false, narrowed := true }
def VolumeRightsUptoSaid : Prop := volumeRightsUptoRow.holds Try.pinned (OpenSpec.upto volumeRightsSpec)

/-- 'mementolaw16.VolumePushes', WHERE WHAT IT READS IS OF BULK AT MOST 1048576: true; the input reads as it did. -/
def volumePushesUptoRow : OpenClaim := { program := "ytnpiigcmedmifaa", sum := "050ae73461cedd69fb4034ae63cd1798962b12657930d5e61100787266b78e2c", func := "memento/mementolaw16.VolumePushes", spec := "volumePushes", unfollowed := true, recurses := true, apart := false, narrowed := true }
def VolumePushesUptoSaid : Prop := volumePushesUptoRow.holds Try.pinned (OpenSpec.upto volumePushesSpec)

/-- 'mementolaw16.VolumePrunes', WHERE WHAT IT READS IS OF BULK AT MOST 1048576: true; the input reads as it did. -/
def volumePrunesUptoRow : OpenClaim := { program := "ytnpiigcmedmifaa", sum := "050ae73461cedd69fb4034ae63cd1798962b12657930d5e61100787266b78e2c", func := "memento/mementolaw16.VolumePrunes", spec := "volumePrunes", unfollowed := true, recurses := true, apart := false, narrowed := true }
def VolumePrunesUptoSaid : Prop := volumePrunesUptoRow.holds Try.pinned (OpenSpec.upto volumePrunesSpec)

/-- 'mementolaw16.VolumePins', WHERE WHAT IT READS IS OF BULK AT MOST 1048576: true; the input reads as it did. -/
def volumePinsUptoRow : OpenClaim := { program := "ytnpiigcmedmifaa", sum := "050ae73461cedd69fb4034ae63cd1798962b12657930d5e61100787266b78e2c", func := "memento/mementolaw16.VolumePins", spec := "volumePins", unfollowed := true, recurses := true, apart := false, narrowed := true }
def VolumePinsUptoSaid : Prop := volumePinsUptoRow.holds Try.pinned (OpenSpec.upto volumePinsSpec)

/-- 'mementolaw16.VolumeImports', WHERE WHAT IT READS IS OF BULK AT MOST 1048576: true; the input reads as it did. -/
def volumeImportsUptoRow : OpenClaim := { program := "ytnpiigcmedmifaa", sum := "050ae73461cedd69fb4034ae63cd1798962b12657930d5e61100787266b78e2c", func := "memento/mementolaw16.VolumeImports", spec := "volumeImports", unfollowed := true, recurses := true, apart := false, narrowed := true }
def VolumeImportsUptoSaid : Prop := volumeImportsUptoRow.holds Try.pinned (OpenSpec.upto volumeImportsSpec)

/-- 'mementolaw16.VolumeStates', WHERE WHAT IT READS IS OF BULK AT MOST 1048576: true; the input reads as it did. -/
def volumeStatesUptoRow : OpenClaim := { program := "ytnpiigcmedmifaa", sum := "050ae73461cedd69fb4034ae63cd1798962b12657930d5e61100787266b78e2c", func := "memento/mementolaw16.VolumeStates", spec := "volumeStates", unfollowed := true, recurses := true, apart := false, narrowed := true }
def VolumeStatesUptoSaid : Prop := volumeStatesUptoRow.holds Try.pinned (OpenSpec.upto volumeStatesSpec)

/-- 'mementolaw16.VolumeForms', WHERE WHAT IT READS IS OF BULK AT MOST 1048576: true; the input reads as it did. -/
def volumeFormsUptoRow : OpenClaim := { program := "ytnpiigcmedmifaa", sum := "050ae73461cedd69fb4034ae63cd1798962b12657930d5e61100787266b78e2c", func := "memento/mementolaw16.VolumeForms", spec := "volumeForms", unfollowed := true, recurses := true, apart := false, narrowed := true }
def VolumeFormsUptoSaid : Prop := volumeFormsUptoRow.holds Try.pinned (OpenSpec.upto volumeFormsSpec)

end Rows
end Go.Proofs.Ytnpiigcmedmifaa
