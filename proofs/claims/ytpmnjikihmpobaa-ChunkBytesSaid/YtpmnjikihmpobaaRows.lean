/-
  No cell of these rows narrows 'for every input' (looked for: loops, veiled, ifaces, maps, wideKeys, modest, calm, conditions, laid).
  DERIVED. THE GIVEN ROWS OF THIS SEAT. 6 by the template 'for every input the law returns true; each argument reads behind the call as it read before'; 0 by the template 'total and deterministic' (their statements: YtpmnjikihmpobaaTotals.lean).
  GIVEN WITH THE SEED: the statements are not yours to turn. If you find one false, say at which input.
  Laid BY PROGRAM, IN A SANDBOX (cutbox-rows.mjs): the forced cells as the released guide's own fill.sh prints them over the translation eeeefe39284bb189… (all of the seat's roots in one cut). By AI agents, Wed Nov 11 2026. No macro, syntax, notation, axiom, sorry.
-/
import Derived.Test.YtpmnjikihmpobaaChecked
import GoSem.Claim
import GoSem.ClaimJoined
import GoSem.ClaimMapViews
import Derived.JoinedTies
import Derived.KernelRfl
namespace Go.Proofs.Ytpmnjikihmpobaa
/- THE CELL 'sum', in the pinned program and in every row, IS THE sha256 OF THE DUMP (.gsa) THAT YtpmnjikihmpobaaProg.lean LOADS. Nothing in Lean hashes anything: it is a label: what it is worth is what the hold of that sum in a sandbox is worth. -/
noncomputable def Try.pinned : Pinned := { name := "ytpmnjikihmpobaa", sum := "eeeefe39284bb189336432aadbe245464a0c0eb9f64f17d35ddf3f90a50b572c", checked := Try.checked }
namespace Rows
def none {H : Type} : Left H := { results := [], args := [] }

/-- 'mementolaw14.ChunkPushes': WHATEVER THE INPUT: true; the input reads as it did. -/
def chunkPushesSpec : ChangeSpec := { name := "chunkPushes", fn := fun _ => fun
  | [d1, d2, d3, d4, d5, d6, d7] => { results := [.lit (.bool true)], args := [d1, d2, d3, d4, d5, d6, d7] }
  | _ => none }
def chunkPushesRow : OpenClaim := { program := "ytpmnjikihmpobaa", sum := "eeeefe39284bb189336432aadbe245464a0c0eb9f64f17d35ddf3f90a50b572c", func := "memento/mementolaw14.ChunkPushes", spec := "chunkPushes", unfollowed := true, recurses := true, apart := false }
def ChunkPushesSaid : Prop := chunkPushesRow.holds Try.pinned (OpenSpec.ofChange chunkPushesSpec)

/-- ITS FALSE NEIGHBOUR: 'it returns false'. Refute it at one input. -/
def chunkPushesWrong : ChangeSpec := { name := "chunkPushes", fn := fun _ => fun
  | [d1, d2, d3, d4, d5, d6, d7] => { results := [.lit (.bool false)], args := [d1, d2, d3, d4, d5, d6, d7] }
  | _ => none }
def ChunkPushesWrongFalsely : Prop := chunkPushesRow.holds Try.pinned (OpenSpec.ofChange chunkPushesWrong)

/-- 'mementolaw14.ChunkAnyOrder': WHATEVER THE INPUT: true; the input reads as it did. -/
def chunkAnyOrderSpec : ChangeSpec := { name := "chunkAnyOrder", fn := fun _ => fun
  | [d1, d2, d3] => { results := [.lit (.bool true)], args := [d1, d2, d3] }
  | _ => none }
def chunkAnyOrderRow : OpenClaim := { program := "ytpmnjikihmpobaa", sum := "eeeefe39284bb189336432aadbe245464a0c0eb9f64f17d35ddf3f90a50b572c", func := "memento/mementolaw14.ChunkAnyOrder", spec := "chunkAnyOrder", unfollowed := true, recurses := true, apart := false }
def ChunkAnyOrderSaid : Prop := chunkAnyOrderRow.holds Try.pinned (OpenSpec.ofChange chunkAnyOrderSpec)

/-- ITS FALSE NEIGHBOUR: 'it returns false'. Refute it at one input. -/
def chunkAnyOrderWrong : ChangeSpec := { name := "chunkAnyOrder", fn := fun _ => fun
  | [d1, d2, d3] => { results := [.lit (.bool false)], args := [d1, d2, d3] }
  | _ => none }
def ChunkAnyOrderWrongFalsely : Prop := chunkAnyOrderRow.holds Try.pinned (OpenSpec.ofChange chunkAnyOrderWrong)

/-- 'mementolaw14.ChunkStates': WHATEVER THE INPUT: true; the input reads as it did. -/
def chunkStatesSpec : ChangeSpec := { name := "chunkStates", fn := fun _ => fun
  | [d1, d2] => { results := [.lit (.bool true)], args := [d1, d2] }
  | _ => none }
def chunkStatesRow : OpenClaim := { program := "ytpmnjikihmpobaa", sum := "eeeefe39284bb189336432aadbe245464a0c0eb9f64f17d35ddf3f90a50b572c", func := "memento/mementolaw14.ChunkStates", spec := "chunkStates", unfollowed := true, recurses := true, apart := false }
def ChunkStatesSaid : Prop := chunkStatesRow.holds Try.pinned (OpenSpec.ofChange chunkStatesSpec)

/-- ITS FALSE NEIGHBOUR: 'it returns false'. Refute it at one input. -/
def chunkStatesWrong : ChangeSpec := { name := "chunkStates", fn := fun _ => fun
  | [d1, d2] => { results := [.lit (.bool false)], args := [d1, d2] }
  | _ => none }
def ChunkStatesWrongFalsely : Prop := chunkStatesRow.holds Try.pinned (OpenSpec.ofChange chunkStatesWrong)

/-- 'mementolaw14.ChunkLate': WHATEVER THE INPUT: true; the input reads as it did. -/
def chunkLateSpec : ChangeSpec := { name := "chunkLate", fn := fun _ => fun
  | [d1, d2, d3, d4] => { results := [.lit (.bool true)], args := [d1, d2, d3, d4] }
  | _ => none }
def chunkLateRow : OpenClaim := { program := "ytpmnjikihmpobaa", sum := "eeeefe39284bb189336432aadbe245464a0c0eb9f64f17d35ddf3f90a50b572c", func := "memento/mementolaw14.ChunkLate", spec := "chunkLate", unfollowed := true, recurses := true, apart := false }
def ChunkLateSaid : Prop := chunkLateRow.holds Try.pinned (OpenSpec.ofChange chunkLateSpec)

/-- ITS FALSE NEIGHBOUR: 'it returns false'. Refute it at one input. -/
def chunkLateWrong : ChangeSpec := { name := "chunkLate", fn := fun _ => fun
  | [d1, d2, d3, d4] => { results := [.lit (.bool false)], args := [d1, d2, d3, d4] }
  | _ => none }
def ChunkLateWrongFalsely : Prop := chunkLateRow.holds Try.pinned (OpenSpec.ofChange chunkLateWrong)

/-- 'mementolaw14.ChunkBytes': WHATEVER THE INPUT: true; the input reads as it did. -/
def chunkBytesSpec : ChangeSpec := { name := "chunkBytes", fn := fun _ => fun
  | [d1, d2, d3, d4, d5, d6] => { results := [.lit (.bool true)], args := [d1, d2, d3, d4, d5, d6] }
  | _ => none }
def chunkBytesRow : OpenClaim := { program := "ytpmnjikihmpobaa", sum := "eeeefe39284bb189336432aadbe245464a0c0eb9f64f17d35ddf3f90a50b572c", func := "memento/mementolaw14.ChunkBytes", spec := "chunkBytes", unfollowed := true, recurses := true, apart := false }
def ChunkBytesSaid : Prop := chunkBytesRow.holds Try.pinned (OpenSpec.ofChange chunkBytesSpec)

/-- ITS FALSE NEIGHBOUR: 'it returns false'. Refute it at one input. -/
def chunkBytesWrong : ChangeSpec := { name := "chunkBytes", fn := fun _ => fun
  | [d1, d2, d3, d4, d5, d6] => { results := [.lit (.bool false)], args := [d1, d2, d3, d4, d5, d6] }
  | _ => none }
def ChunkBytesWrongFalsely : Prop := chunkBytesRow.holds Try.pinned (OpenSpec.ofChange chunkBytesWrong)

/-- 'mementolaw14.ChunkChanges': WHATEVER THE INPUT: true; the input reads as it did. -/
def chunkChangesSpec : ChangeSpec := { name := "chunkChanges", fn := fun _ => fun
  | [d1, d2, d3, d4] => { results := [.lit (.bool true)], args := [d1, d2, d3, d4] }
  | _ => none }
def chunkChangesRow : OpenClaim := { program := "ytpmnjikihmpobaa", sum := "eeeefe39284bb189336432aadbe245464a0c0eb9f64f17d35ddf3f90a50b572c", func := "memento/mementolaw14.ChunkChanges", spec := "chunkChanges", unfollowed := true, recurses := true, apart := false }
def ChunkChangesSaid : Prop := chunkChangesRow.holds Try.pinned (OpenSpec.ofChange chunkChangesSpec)

/-- ITS FALSE NEIGHBOUR: 'it returns false'. Refute it at one input. -/
def chunkChangesWrong : ChangeSpec := { name := "chunkChanges", fn := fun _ => fun
  | [d1, d2, d3, d4] => { results := [.lit (.bool false)], args := [d1, d2, d3, d4] }
  | _ => none }
def ChunkChangesWrongFalsely : Prop := chunkChangesRow.holds Try.pinned (OpenSpec.ofChange chunkChangesWrong)

/- THE SECOND FORM. 'bulk': how many values and letters a reading holds, each counted each time it is reached (what is shared counts as often as it is met; a slice's spare places count too). A statement '..UptoSaid' is the law's where the arguments, and the package variables that the reading takes, are together of bulk at most 1048576: NARROWER than '..Said'. Prove '..Said' where nothing that the law and all that it calls make is longer than what came in: it says more and counts as full. Else prove '..UptoSaid'. A law counts once. -/
mutual
def uptoBulk {H : Type} : DataW H → Nat
  | .lit (.string bytes) => bytes.length + 1
  | .lit _ => 1
  | .nil => 1
  | .ptr d => uptoBulk d + 1
  | .slice elems spare => uptoBulkAll elems + uptoBulkAll spare + 1
  | .agg parts => uptoBulkAll parts + 1
  | .iface _ d => uptoBulk d + 1
  | .map entries => uptoBulkEntries entries + 1
  | .held _ => 1
def uptoBulkAll {H : Type} : List (DataW H) → Nat
  | [] => 0
  | d :: r => uptoBulk d + uptoBulkAll r
def uptoBulkEntries {H : Type} : List (Lit × DataW H) → Nat
  | [] => 0
  | x :: r => uptoBulkEntry x + uptoBulkEntries r
def uptoBulkEntry {H : Type} : Lit × DataW H → Nat
  | (.string bytes, d) => bytes.length + uptoBulk d + 1
  | (_, d) => uptoBulk d + 1
 end
def uptoSmall : (H : Type) → List (DataW H) → Bool := fun _ ds => decide (uptoBulkAll ds ≤ 1048576)
def OpenSpec.upto (s : _root_.Go.ChangeSpec) : _root_.Go.OpenSpec := { _root_.Go.OpenSpec.ofChange s with cond := some uptoSmall }

/-- 'mementolaw14.ChunkPushes', WHERE WHAT IT READS IS OF BULK AT MOST 1048576: true; the input reads as it did. -/
def chunkPushesUptoRow : OpenClaim := { program := "ytpmnjikihmpobaa", sum := "eeeefe39284bb189336432aadbe245464a0c0eb9f64f17d35ddf3f90a50b572c", func := "memento/mementolaw14.ChunkPushes", spec := "chunkPushes", unfollowed := true, recurses := true, apart := false, narrowed := true }
def ChunkPushesUptoSaid : Prop := chunkPushesUptoRow.holds Try.pinned (OpenSpec.upto chunkPushesSpec)

/-- 'mementolaw14.ChunkAnyOrder', WHERE WHAT IT READS IS OF BULK AT MOST 1048576: true; the input reads as it did. -/
def chunkAnyOrderUptoRow : OpenClaim := { program := "ytpmnjikihmpobaa", sum := "eeeefe39284bb189336432aadbe245464a0c0eb9f64f17d35ddf3f90a50b572c", func := "memento/mementolaw14.ChunkAnyOrder", spec := "chunkAnyOrder", unfollowed := true, recurses := true, apart := false, narrowed := true }
def ChunkAnyOrderUptoSaid : Prop := chunkAnyOrderUptoRow.holds Try.pinned (OpenSpec.upto chunkAnyOrderSpec)

/-- 'mementolaw14.ChunkStates', WHERE WHAT IT READS IS OF BULK AT MOST 1048576: true; the input reads as it did. -/
def chunkStatesUptoRow : OpenClaim := { program := "ytpmnjikihmpobaa", sum := "eeeefe39284bb189336432aadbe245464a0c0eb9f64f17d35ddf3f90a50b572c", func := "memento/mementolaw14.ChunkStates", spec := "chunkStates", unfollowed := true, recurses := true, apart := false, narrowed := true }
def ChunkStatesUptoSaid : Prop := chunkStatesUptoRow.holds Try.pinned (OpenSpec.upto chunkStatesSpec)

/-- 'mementolaw14.ChunkLate', WHERE WHAT IT READS IS OF BULK AT MOST 1048576: true; the input reads as it did. -/
def chunkLateUptoRow : OpenClaim := { program := "ytpmnjikihmpobaa", sum := "eeeefe39284bb189336432aadbe245464a0c0eb9f64f17d35ddf3f90a50b572c", func := "memento/mementolaw14.ChunkLate", spec := "chunkLate", unfollowed := true, recurses := true, apart := false, narrowed := true }
def ChunkLateUptoSaid : Prop := chunkLateUptoRow.holds Try.pinned (OpenSpec.upto chunkLateSpec)

/-- 'mementolaw14.ChunkBytes', WHERE WHAT IT READS IS OF BULK AT MOST 1048576: true; the input reads as it did. -/
def chunkBytesUptoRow : OpenClaim := { program := "ytpmnjikihmpobaa", sum := "eeeefe39284bb189336432aadbe245464a0c0eb9f64f17d35ddf3f90a50b572c", func := "memento/mementolaw14.ChunkBytes", spec := "chunkBytes", unfollowed := true, recurses := true, apart := false, narrowed := true }
def ChunkBytesUptoSaid : Prop := chunkBytesUptoRow.holds Try.pinned (OpenSpec.upto chunkBytesSpec)

/-- 'mementolaw14.ChunkChanges', WHERE WHAT IT READS IS OF BULK AT MOST 1048576: true; the input reads as it did. -/
def chunkChangesUptoRow : OpenClaim := { program := "ytpmnjikihmpobaa", sum := "eeeefe39284bb189336432aadbe245464a0c0eb9f64f17d35ddf3f90a50b572c", func := "memento/mementolaw14.ChunkChanges", spec := "chunkChanges", unfollowed := true, recurses := true, apart := false, narrowed := true }
def ChunkChangesUptoSaid : Prop := chunkChangesUptoRow.holds Try.pinned (OpenSpec.upto chunkChangesSpec)

end Rows
end Go.Proofs.Ytpmnjikihmpobaa
