/-
  No cell of these rows narrows 'for every input' (looked for: loops, veiled, ifaces, maps, wideKeys, modest, calm, conditions, laid).
  DERIVED. THE GIVEN ROWS OF THIS SEAT. 4 by the template 'for every input the law returns true; each argument reads behind the call as it read before'; 0 by the template 'total and deterministic' (their statements: YtomnhbbgndopnaaTotals.lean).
  GIVEN WITH THE SEED: the statements are not yours to turn. If you find one false, say at which input.
  Laid BY PROGRAM, IN A SANDBOX (cutbox-rows.mjs): the forced cells as the released guide's own fill.sh prints them over the translation a8d2d038183b015b… (all of the seat's roots in one cut). By AI agents, Wed Nov 11 2026. No macro, syntax, notation, axiom, sorry.
-/
import Derived.Test.YtomnhbbgndopnaaChecked
import GoSem.Claim
import GoSem.ClaimJoined
import GoSem.ClaimMapViews
import Derived.JoinedTies
import Derived.KernelRfl
namespace Go.Proofs.Ytomnhbbgndopnaa
/- THE CELL 'sum', in the pinned program and in every row, IS THE sha256 OF THE DUMP (.gsa) THAT YtomnhbbgndopnaaProg.lean LOADS. Nothing in Lean hashes anything: it is a label: what it is worth is what the hold of that sum in a sandbox is worth. -/
noncomputable def Try.pinned : Pinned := { name := "ytomnhbbgndopnaa", sum := "a8d2d038183b015bdad2c508008c9c94e41585add30d0a725d0de30b2c5113bf", checked := Try.checked }
namespace Rows
def none {H : Type} : Left H := { results := [], args := [] }

/-- 'magnetolaw49.ReadinessOnce': WHATEVER THE INPUT: true; the input reads as it did. -/
def readinessOnceSpec : ChangeSpec := { name := "readinessOnce", fn := fun _ => fun
  | [d1, d2] => { results := [.lit (.bool true)], args := [d1, d2] }
  | _ => none }
def readinessOnceRow : OpenClaim := { program := "ytomnhbbgndopnaa", sum := "a8d2d038183b015bdad2c508008c9c94e41585add30d0a725d0de30b2c5113bf", func := "magneto/magnetolaw49.ReadinessOnce", spec := "readinessOnce", apart := false }
def ReadinessOnceSaid : Prop := readinessOnceRow.holds Try.pinned (OpenSpec.ofChange readinessOnceSpec)

/-- ITS FALSE NEIGHBOUR: 'it returns false'. Refute it at one input. -/
def readinessOnceWrong : ChangeSpec := { name := "readinessOnce", fn := fun _ => fun
  | [d1, d2] => { results := [.lit (.bool false)], args := [d1, d2] }
  | _ => none }
def ReadinessOnceWrongFalsely : Prop := readinessOnceRow.holds Try.pinned (OpenSpec.ofChange readinessOnceWrong)

/-- 'magnetolaw49.ReadinessHalves': WHATEVER THE INPUT: true; the input reads as it did. -/
def readinessHalvesSpec : ChangeSpec := { name := "readinessHalves", fn := fun _ => fun
  | [d] => { results := [.lit (.bool true)], args := [d] }
  | _ => none }
def readinessHalvesRow : OpenClaim := { program := "ytomnhbbgndopnaa", sum := "a8d2d038183b015bdad2c508008c9c94e41585add30d0a725d0de30b2c5113bf", func := "magneto/magnetolaw49.ReadinessHalves", spec := "readinessHalves", apart := false }
def ReadinessHalvesSaid : Prop := readinessHalvesRow.holds Try.pinned (OpenSpec.ofChange readinessHalvesSpec)

/-- ITS FALSE NEIGHBOUR: 'it returns false'. Refute it at one input. -/
def readinessHalvesWrong : ChangeSpec := { name := "readinessHalves", fn := fun _ => fun
  | [d] => { results := [.lit (.bool false)], args := [d] }
  | _ => none }
def ReadinessHalvesWrongFalsely : Prop := readinessHalvesRow.holds Try.pinned (OpenSpec.ofChange readinessHalvesWrong)

/-- 'magnetolaw49.ReadinessCodes': WHATEVER THE INPUT: true; the input reads as it did. -/
def readinessCodesSpec : ChangeSpec := { name := "readinessCodes", fn := fun _ => fun
  | [d] => { results := [.lit (.bool true)], args := [d] }
  | _ => none }
def readinessCodesRow : OpenClaim := { program := "ytomnhbbgndopnaa", sum := "a8d2d038183b015bdad2c508008c9c94e41585add30d0a725d0de30b2c5113bf", func := "magneto/magnetolaw49.ReadinessCodes", spec := "readinessCodes", apart := false }
def ReadinessCodesSaid : Prop := readinessCodesRow.holds Try.pinned (OpenSpec.ofChange readinessCodesSpec)

/-- ITS FALSE NEIGHBOUR: 'it returns false'. Refute it at one input. -/
def readinessCodesWrong : ChangeSpec := { name := "readinessCodes", fn := fun _ => fun
  | [d] => { results := [.lit (.bool false)], args := [d] }
  | _ => none }
def ReadinessCodesWrongFalsely : Prop := readinessCodesRow.holds Try.pinned (OpenSpec.ofChange readinessCodesWrong)

/-- 'magnetolaw49.ReadinessSteps': WHATEVER THE INPUT: true; the input reads as it did. -/
def readinessStepsSpec : ChangeSpec := { name := "readinessSteps", fn := fun _ => fun
  | [d1, d2, d3, d4] => { results := [.lit (.bool true)], args := [d1, d2, d3, d4] }
  | _ => none }
def readinessStepsRow : OpenClaim := { program := "ytomnhbbgndopnaa", sum := "a8d2d038183b015bdad2c508008c9c94e41585add30d0a725d0de30b2c5113bf", func := "magneto/magnetolaw49.ReadinessSteps", spec := "readinessSteps", apart := false }
def ReadinessStepsSaid : Prop := readinessStepsRow.holds Try.pinned (OpenSpec.ofChange readinessStepsSpec)

/-- ITS FALSE NEIGHBOUR: 'it returns false'. Refute it at one input. -/
def readinessStepsWrong : ChangeSpec := { name := "readinessSteps", fn := fun _ => fun
  | [d1, d2, d3, d4] => { results := [.lit (.bool false)], args := [d1, d2, d3, d4] }
  | _ => none }
def ReadinessStepsWrongFalsely : Prop := readinessStepsRow.holds Try.pinned (OpenSpec.ofChange readinessStepsWrong)

/- THE SECOND FORM. 'bulk': how many values and letters a reading holds, each counted each time it is reached (what is shared counts as often as it is met; a slice's spare places count too). A statement '..UptoSaid' is the law's where the arguments, and the package variables that the reading takes, are together of bulk at most 1048576: NARROWER than '..Said'. Prove '..Said' where nothing that the law and all that it calls make is longer than what came in: it says more and counts as full. Else prove '..UptoSaid'. A law counts once. -/
mutual
def uptoBulk {H : Type} : DataW H → Nat
  | .lit (.string bytes) => bytes.length + 1
  | .lit _ => 1
  | .nil => 1
  | .ptr d => uptoBulk d + 1
  | .slice elems spare => uptoBulkAll elems + uptoBulkAll spare + 1
  | .agg parts => uptoBulkAll parts + 1
  | .iface _ d => uptoBulk d + 1
  | .map entries => uptoBulkEntries entries + 1
  | .held _ => 1
def uptoBulkAll {H : Type} : List (DataW H) → Nat
  | [] => 0
  | d :: r => uptoBulk d + uptoBulkAll r
def uptoBulkEntries {H : Type} : List (Lit × DataW H) → Nat
  | [] => 0
  | x :: r => uptoBulkEntry x + uptoBulkEntries r
def uptoBulkEntry {H : Type} : Lit × DataW H → Nat
  | (.string bytes, d) => bytes.length + uptoBulk d + 1
  | (_, d) => uptoBulk d + 1
 end
def uptoSmall : (H : Type) → List (DataW H) → Bool := fun _ ds => decide (uptoBulkAll ds ≤ 1048576)
def OpenSpec.upto (s : _root_.Go.ChangeSpec) : _root_.Go.OpenSpec := { _root_.Go.OpenSpec.ofChange s with cond := some uptoSmall }

/-- 'magnetolaw49.ReadinessOnce', WHERE WHAT IT READS IS OF BULK AT MOST 1048576: true; the input reads as it did. -/
def readinessOnceUptoRow : OpenClaim := { program := "ytomnhbbgndopnaa", sum := "a8d2d038183b015bdad2c508008c9c94e41585add30d0a725d0de30b2c5113bf", func := "magneto/magnetolaw49.ReadinessOnce", spec := "readinessOnce", apart := false, narrowed := true }
def ReadinessOnceUptoSaid : Prop := readinessOnceUptoRow.holds Try.pinned (OpenSpec.upto readinessOnceSpec)

/-- 'magnetolaw49.ReadinessHalves', WHERE WHAT IT READS IS OF BULK AT MOST 1048576: true; the input reads as it did. -/
def readinessHalvesUptoRow : OpenClaim := { program := "ytomnhbbgndopnaa", sum := "a8d2d038183b015bdad2c508008c9c94e41585add30d0a725d0de30b2c5113bf", func := "magneto/magnetolaw49.ReadinessHalves", spec := "readinessHalves", apart := false, narrowed := true }
def ReadinessHalvesUptoSaid : Prop := readinessHalvesUptoRow.holds Try.pinned (OpenSpec.upto readinessHalvesSpec)

/-- 'magnetolaw49.ReadinessCodes', WHERE WHAT IT READS IS OF BULK AT MOST 1048576: true; the input reads as it did. -/
def readinessCodesUptoRow : OpenClaim := { program := "ytomnhbbgndopnaa", sum := "a8d2d038183b015bdad2c508008c9c94e41585add30d0a725d0de30b2c5113bf", func := "magneto/magnetolaw49.ReadinessCodes", spec := "readinessCodes", apart := false, narrowed := true }
def ReadinessCodesUptoSaid : Prop := readinessCodesUptoRow.holds Try.pinned (OpenSpec.upto readinessCodesSpec)

/-- 'magnetolaw49.ReadinessSteps', WHERE WHAT IT READS IS OF BULK AT MOST 1048576: true; the input reads as it did. -/
def readinessStepsUptoRow : OpenClaim := { program := "ytomnhbbgndopnaa", sum := "a8d2d038183b015bdad2c508008c9c94e41585add30d0a725d0de30b2c5113bf", func := "magneto/magnetolaw49.ReadinessSteps", spec := "readinessSteps", apart := false, narrowed := true }
def ReadinessStepsUptoSaid : Prop := readinessStepsUptoRow.holds Try.pinned (OpenSpec.upto readinessStepsSpec)

end Rows
end Go.Proofs.Ytomnhbbgndopnaa
