/-
  No cell of these rows narrows 'for every input' (looked for: loops, veiled, ifaces, maps, wideKeys, modest, calm, conditions, laid).
  DERIVED. THE GIVEN ROWS OF THIS SEAT. 3 by the template 'for every input the law returns true; each argument reads behind the call as it read before'; 0 by the template 'total and deterministic' (their statements: YtamajedopofcoaaTotals.lean).
  GIVEN WITH THE SEED: the statements are not yours to turn. If you find one false, say at which input.
  Laid BY PROGRAM, IN A SANDBOX (cutbox-rows.mjs): the forced cells as the released guide's own fill.sh prints them over the translation 8b993efa5faa4584… (all of the seat's roots in one cut). By AI agents, Wed Nov 11 2026. No macro, syntax, notation, axiom, sorry.
-/
import Derived.Test.YtamajedopofcoaaChecked
import GoSem.Claim
import GoSem.ClaimJoined
import GoSem.ClaimMapViews
import Derived.JoinedTies
import Derived.KernelRfl
namespace Go.Proofs.Ytamajedopofcoaa
/- THE CELL 'sum', in the pinned program and in every row, IS THE sha256 OF THE DUMP (.gsa) THAT YtamajedopofcoaaProg.lean LOADS. Nothing in Lean hashes anything: it is a label: what it is worth is what the hold of that sum in a sandbox is worth. -/
noncomputable def Try.pinned : Pinned := { name := "ytamajedopofcoaa", sum := "8b993efa5faa458472e76d8af49f6e819f70844cfe7dcf24e6f703f345ea5a27", checked := Try.checked }
namespace Rows
def none {H : Type} : Left H := { results := [], args := [] }

/-- 'magnetolaw45.CalibratePages': WHATEVER THE INPUT: true; the input reads as it did. -/
def calibratePagesSpec : ChangeSpec := { name := "calibratePages", fn := fun _ => fun
  | [d1, d2, d3, d4, d5] => { results := [.lit (.bool true)], args := [d1, d2, d3, d4, d5] }
  | _ => none }
def calibratePagesRow : OpenClaim := { program := "ytamajedopofcoaa", sum := "8b993efa5faa458472e76d8af49f6e819f70844cfe7dcf24e6f703f345ea5a27", func := "magneto/magnetolaw45.CalibratePages", spec := "calibratePages", unfollowed := true, recurses := true, apart := false }
def CalibratePagesSaid : Prop := calibratePagesRow.holds Try.pinned (OpenSpec.ofChange calibratePagesSpec)

/-- ITS FALSE NEIGHBOUR: 'it returns false'. Refute it at one input. -/
def calibratePagesWrong : ChangeSpec := { name := "calibratePages", fn := fun _ => fun
  | [d1, d2, d3, d4, d5] => { results := [.lit (.bool false)], args := [d1, d2, d3, d4, d5] }
  | _ => none }
def CalibratePagesWrongFalsely : Prop := calibratePagesRow.holds Try.pinned (OpenSpec.ofChange calibratePagesWrong)

/-- 'magnetolaw45.CalibrateCommands': WHATEVER THE INPUT: true; the input reads as it did. -/
def calibrateCommandsSpec : ChangeSpec := { name := "calibrateCommands", fn := fun _ => fun
  | [d1, d2, d3] => { results := [.lit (.bool true)], args := [d1, d2, d3] }
  | _ => none }
def calibrateCommandsRow : OpenClaim := { program := "ytamajedopofcoaa", sum := "8b993efa5faa458472e76d8af49f6e819f70844cfe7dcf24e6f703f345ea5a27", func := "magneto/magnetolaw45.CalibrateCommands", spec := "calibrateCommands", unfollowed := true, recurses := true, apart := false }
def CalibrateCommandsSaid : Prop := calibrateCommandsRow.holds Try.pinned (OpenSpec.ofChange calibrateCommandsSpec)

/-- ITS FALSE NEIGHBOUR: 'it returns false'. Refute it at one input. -/
def calibrateCommandsWrong : ChangeSpec := { name := "calibrateCommands", fn := fun _ => fun
  | [d1, d2, d3] => { results := [.lit (.bool false)], args := [d1, d2, d3] }
  | _ => none }
def CalibrateCommandsWrongFalsely : Prop := calibrateCommandsRow.holds Try.pinned (OpenSpec.ofChange calibrateCommandsWrong)

/-- 'magnetolaw45.CalibrateConsistent': WHATEVER THE INPUT: true; the input reads as it did. -/
def calibrateConsistentSpec : ChangeSpec := { name := "calibrateConsistent", fn := fun _ => fun
  | [d1, d2, d3] => { results := [.lit (.bool true)], args := [d1, d2, d3] }
  | _ => none }
def calibrateConsistentRow : OpenClaim := { program := "ytamajedopofcoaa", sum := "8b993efa5faa458472e76d8af49f6e819f70844cfe7dcf24e6f703f345ea5a27", func := "magneto/magnetolaw45.CalibrateConsistent", spec := "calibrateConsistent", unfollowed := true, recurses := true, apart := false }
def CalibrateConsistentSaid : Prop := calibrateConsistentRow.holds Try.pinned (OpenSpec.ofChange calibrateConsistentSpec)

/-- ITS FALSE NEIGHBOUR: 'it returns false'. Refute it at one input. -/
def calibrateConsistentWrong : ChangeSpec := { name := "calibrateConsistent", fn := fun _ => fun
  | [d1, d2, d3] => { results := [.lit (.bool false)], args := [d1, d2, d3] }
  | _ => none }
def CalibrateConsistentWrongFalsely : Prop := calibrateConsistentRow.holds Try.pinned (OpenSpec.ofChange calibrateConsistentWrong)

/- THE SECOND FORM. 'bulk': how many values and letters a reading holds, each counted each time it is reached (what is shared counts as often as it is met; a slice's spare places count too). A statement '..UptoSaid' is the law's where the arguments, and the package variables that the reading takes, are together of bulk at most 1048576: NARROWER than '..Said'. Prove '..Said' where nothing that the law and all that it calls make is longer than what came in: it says more and counts as full. Else prove '..UptoSaid'. A law counts once. -/
mutual
def uptoBulk {H : Type} : DataW H → Nat
  | .lit (.string bytes) => bytes.length + 1
  | .lit _ => 1
  | .nil => 1
  | .ptr d => uptoBulk d + 1
  | .slice elems spare => uptoBulkAll elems + uptoBulkAll spare + 1
  | .agg parts => uptoBulkAll parts + 1
  | .iface _ d => uptoBulk d + 1
  | .map entries => uptoBulkEntries entries + 1
  | .held _ => 1
def uptoBulkAll {H : Type} : List (DataW H) → Nat
  | [] => 0
  | d :: r => uptoBulk d + uptoBulkAll r
def uptoBulkEntries {H : Type} : List (Lit × DataW H) → Nat
  | [] => 0
  | x :: r => uptoBulkEntry x + uptoBulkEntries r
def uptoBulkEntry {H : Type} : Lit × DataW H → Nat
  | (.string bytes, d) => bytes.length + uptoBulk d + 1
  | (_, d) => uptoBulk d + 1
 end
def uptoSmall : (H : Type) → List (DataW H) → Bool := fun _ ds => decide (uptoBulkAll ds ≤ 1048576)
def OpenSpec.upto (s : _root_.Go.ChangeSpec) : _root_.Go.OpenSpec := { _root_.Go.OpenSpec.ofChange s with cond := some uptoSmall }

/-- 'magnetolaw45.CalibratePages', WHERE WHAT IT READS IS OF BULK AT MOST 1048576: true; the input reads as it did. -/
def calibratePagesUptoRow : OpenClaim := { program := "ytamajedopofcoaa", sum := "8b993efa5faa458472e76d8af49f6e819f70844cfe7dcf24e6f703f345ea5a27", func := "magneto/magnetolaw45.CalibratePages", spec := "calibratePages", unfollowed := true, recurses := true, apart := false, narrowed := true }
def CalibratePagesUptoSaid : Prop := calibratePagesUptoRow.holds Try.pinned (OpenSpec.upto calibratePagesSpec)

/-- 'magnetolaw45.CalibrateCommands', WHERE WHAT IT READS IS OF BULK AT MOST 1048576: true; the input reads as it did. -/
def calibrateCommandsUptoRow : OpenClaim := { program := "ytamajedopofcoaa", sum := "8b993efa5faa458472e76d8af49f6e819f70844cfe7dcf24e6f703f345ea5a27", func := "magneto/magnetolaw45.CalibrateCommands", spec := "calibrateCommands", unfollowed := true, recurses := true, apart := false, narrowed := true }
def CalibrateCommandsUptoSaid : Prop := calibrateCommandsUptoRow.holds Try.pinned (OpenSpec.upto calibrateCommandsSpec)

/-- 'magnetolaw45.CalibrateConsistent', WHERE WHAT IT READS IS OF BULK AT MOST 1048576: true; the input reads as it did. -/
def calibrateConsistentUptoRow : OpenClaim := { program := "ytamajedopofcoaa", sum := "8b993efa5faa458472e76d8af49f6e819f70844cfe7dcf24e6f703f345ea5a27", func := "magneto/magnetolaw45.CalibrateConsistent", spec := "calibrateConsistent", unfollowed := true, recurses := true, apart := false, narrowed := true }
def CalibrateConsistentUptoSaid : Prop := calibrateConsistentUptoRow.holds Try.pinned (OpenSpec.upto calibrateConsistentSpec)

end Rows
end Go.Proofs.Ytamajedopofcoaa
