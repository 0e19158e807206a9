/-
  No cell of these rows narrows 'for every input' (looked for: loops, veiled, ifaces, maps, wideKeys, modest, calm, conditions, laid).
  DERIVED. THE GIVEN ROWS OF THIS SEAT. 5 by the template 'for every input the law returns true; each argument reads behind the call as it read before'; 0 by the template 'total and deterministic' (their statements: YtafeblmddhlcaaaTotals.lean).
  GIVEN WITH THE SEED: the statements are not yours to turn. If you find one false, say at which input.
  Laid BY PROGRAM, IN A SANDBOX (cutbox-rows.mjs): the forced cells as the released guide's own fill.sh prints them over the translation 2586c95a27221f01… (all of the seat's roots in one cut). By AI agents, Wed Nov 11 2026. No macro, syntax, notation, axiom, sorry.
-/
import Derived.Test.YtafeblmddhlcaaaChecked
import GoSem.Claim
import GoSem.ClaimJoined
import GoSem.ClaimMapViews
import Derived.JoinedTies
import Derived.KernelRfl
namespace Go.Proofs.Ytafeblmddhlcaaa
/- THE CELL 'sum', in the pinned program and in every row, IS THE sha256 OF THE DUMP (.gsa) THAT YtafeblmddhlcaaaProg.lean LOADS. Nothing in Lean hashes anything: it is a label: what it is worth is what the hold of that sum in a sandbox is worth. -/
noncomputable def Try.pinned : Pinned := { name := "ytafeblmddhlcaaa", sum := "2586c95a27221f01445caee034f28ef6a84970b136be50fed2f408287cb02852", checked := Try.checked }
namespace Rows
def none {H : Type} : Left H := { results := [], args := [] }

/-- 'magnetolaw33.IdleTargets': WHATEVER THE INPUT: true; the input reads as it did. -/
def idleTargetsSpec : ChangeSpec := { name := "idleTargets", fn := fun _ => fun
  | [d1, d2, d3, d4] => { results := [.lit (.bool true)], args := [d1, d2, d3, d4] }
  | _ => none }
def idleTargetsRow : OpenClaim := { program := "ytafeblmddhlcaaa", sum := "2586c95a27221f01445caee034f28ef6a84970b136be50fed2f408287cb02852", func := "magneto/magnetolaw33.IdleTargets", spec := "idleTargets", apart := false }
def IdleTargetsSaid : Prop := idleTargetsRow.holds Try.pinned (OpenSpec.ofChange idleTargetsSpec)

/-- ITS FALSE NEIGHBOUR: 'it returns false'. Refute it at one input. -/
def idleTargetsWrong : ChangeSpec := { name := "idleTargets", fn := fun _ => fun
  | [d1, d2, d3, d4] => { results := [.lit (.bool false)], args := [d1, d2, d3, d4] }
  | _ => none }
def IdleTargetsWrongFalsely : Prop := idleTargetsRow.holds Try.pinned (OpenSpec.ofChange idleTargetsWrong)

/-- 'magnetolaw33.IdleSteps': WHATEVER THE INPUT: true; the input reads as it did. -/
def idleStepsSpec : ChangeSpec := { name := "idleSteps", fn := fun _ => fun
  | [d1, d2, d3, d4] => { results := [.lit (.bool true)], args := [d1, d2, d3, d4] }
  | _ => none }
def idleStepsRow : OpenClaim := { program := "ytafeblmddhlcaaa", sum := "2586c95a27221f01445caee034f28ef6a84970b136be50fed2f408287cb02852", func := "magneto/magnetolaw33.IdleSteps", spec := "idleSteps", apart := false }
def IdleStepsSaid : Prop := idleStepsRow.holds Try.pinned (OpenSpec.ofChange idleStepsSpec)

/-- ITS FALSE NEIGHBOUR: 'it returns false'. Refute it at one input. -/
def idleStepsWrong : ChangeSpec := { name := "idleSteps", fn := fun _ => fun
  | [d1, d2, d3, d4] => { results := [.lit (.bool false)], args := [d1, d2, d3, d4] }
  | _ => none }
def IdleStepsWrongFalsely : Prop := idleStepsRow.holds Try.pinned (OpenSpec.ofChange idleStepsWrong)

/-- 'magnetolaw33.IdleOrder': WHATEVER THE INPUT: true; the input reads as it did. -/
def idleOrderSpec : ChangeSpec := { name := "idleOrder", fn := fun _ => fun
  | [d1, d2, d3, d4, d5, d6, d7] => { results := [.lit (.bool true)], args := [d1, d2, d3, d4, d5, d6, d7] }
  | _ => none }
def idleOrderRow : OpenClaim := { program := "ytafeblmddhlcaaa", sum := "2586c95a27221f01445caee034f28ef6a84970b136be50fed2f408287cb02852", func := "magneto/magnetolaw33.IdleOrder", spec := "idleOrder", apart := false }
def IdleOrderSaid : Prop := idleOrderRow.holds Try.pinned (OpenSpec.ofChange idleOrderSpec)

/-- ITS FALSE NEIGHBOUR: 'it returns false'. Refute it at one input. -/
def idleOrderWrong : ChangeSpec := { name := "idleOrder", fn := fun _ => fun
  | [d1, d2, d3, d4, d5, d6, d7] => { results := [.lit (.bool false)], args := [d1, d2, d3, d4, d5, d6, d7] }
  | _ => none }
def IdleOrderWrongFalsely : Prop := idleOrderRow.holds Try.pinned (OpenSpec.ofChange idleOrderWrong)

/-- 'magnetolaw33.IdleRuns': WHATEVER THE INPUT: true; the input reads as it did. -/
def idleRunsSpec : ChangeSpec := { name := "idleRuns", fn := fun _ => fun
  | [d1, d2, d3] => { results := [.lit (.bool true)], args := [d1, d2, d3] }
  | _ => none }
def idleRunsRow : OpenClaim := { program := "ytafeblmddhlcaaa", sum := "2586c95a27221f01445caee034f28ef6a84970b136be50fed2f408287cb02852", func := "magneto/magnetolaw33.IdleRuns", spec := "idleRuns", apart := false }
def IdleRunsSaid : Prop := idleRunsRow.holds Try.pinned (OpenSpec.ofChange idleRunsSpec)

/-- ITS FALSE NEIGHBOUR: 'it returns false'. Refute it at one input. -/
def idleRunsWrong : ChangeSpec := { name := "idleRuns", fn := fun _ => fun
  | [d1, d2, d3] => { results := [.lit (.bool false)], args := [d1, d2, d3] }
  | _ => none }
def IdleRunsWrongFalsely : Prop := idleRunsRow.holds Try.pinned (OpenSpec.ofChange idleRunsWrong)

/-- 'magnetolaw33.IdleRest': WHATEVER THE INPUT: true; the input reads as it did. -/
def idleRestSpec : ChangeSpec := { name := "idleRest", fn := fun _ => fun
  | [d1, d2, d3, d4] => { results := [.lit (.bool true)], args := [d1, d2, d3, d4] }
  | _ => none }
def idleRestRow : OpenClaim := { program := "ytafeblmddhlcaaa", sum := "2586c95a27221f01445caee034f28ef6a84970b136be50fed2f408287cb02852", func := "magneto/magnetolaw33.IdleRest", spec := "idleRest", apart := false }
def IdleRestSaid : Prop := idleRestRow.holds Try.pinned (OpenSpec.ofChange idleRestSpec)

/-- ITS FALSE NEIGHBOUR: 'it returns false'. Refute it at one input. -/
def idleRestWrong : ChangeSpec := { name := "idleRest", fn := fun _ => fun
  | [d1, d2, d3, d4] => { results := [.lit (.bool false)], args := [d1, d2, d3, d4] }
  | _ => none }
def IdleRestWrongFalsely : Prop := idleRestRow.holds Try.pinned (OpenSpec.ofChange idleRestWrong)

/- THE SECOND FORM. 'bulk': how many values and letters a reading holds, each counted each time it is reached (what is shared counts as often as it is met; a slice's spare places count too). A statement '..UptoSaid' is the law's where the arguments, and the package variables that the reading takes, are together of bulk at most 1048576: NARROWER than '..Said'. Prove '..Said' where nothing that the law and all that it calls make is longer than what came in: it says more and counts as full. Else prove '..UptoSaid'. A law counts once. -/
mutual
def uptoBulk {H : Type} : DataW H → Nat
  | .lit (.string bytes) => bytes.length + 1
  | .lit _ => 1
  | .nil => 1
  | .ptr d => uptoBulk d + 1
  | .slice elems spare => uptoBulkAll elems + uptoBulkAll spare + 1
  | .agg parts => uptoBulkAll parts + 1
  | .iface _ d => uptoBulk d + 1
  | .map entries => uptoBulkEntries entries + 1
  | .held _ => 1
def uptoBulkAll {H : Type} : List (DataW H) → Nat
  | [] => 0
  | d :: r => uptoBulk d + uptoBulkAll r
def uptoBulkEntries {H : Type} : List (Lit × DataW H) → Nat
  | [] => 0
  | x :: r => uptoBulkEntry x + uptoBulkEntries r
def uptoBulkEntry {H : Type} : Lit × DataW H → Nat
  | (.string bytes, d) => bytes.length + uptoBulk d + 1
  | (_, d) => uptoBulk d + 1
 end
def uptoSmall : (H : Type) → List (DataW H) → Bool := fun _ ds => decide (uptoBulkAll ds ≤ 1048576)
def OpenSpec.upto (s : _root_.Go.ChangeSpec) : _root_.Go.OpenSpec := { _root_.Go.OpenSpec.ofChange s with cond := some uptoSmall }

/-- 'magnetolaw33.IdleTargets', WHERE WHAT IT READS IS OF BULK AT MOST 1048576: true; the input reads as it did. -/
def idleTargetsUptoRow : OpenClaim := { program := "ytafeblmddhlcaaa", sum := "2586c95a27221f01445caee034f28ef6a84970b136be50fed2f408287cb02852", func := "magneto/magnetolaw33.IdleTargets", spec := "idleTargets", apart := false, narrowed := true }
def IdleTargetsUptoSaid : Prop := idleTargetsUptoRow.holds Try.pinned (OpenSpec.upto idleTargetsSpec)

/-- 'magnetolaw33.IdleSteps', WHERE WHAT IT READS IS OF BULK AT MOST 1048576: true; the input reads as it did. -/
def idleStepsUptoRow : OpenClaim := { program := "ytafeblmddhlcaaa", sum := "2586c95a27221f01445caee034f28ef6a84970b136be50fed2f408287cb02852", func := "magneto/magnetolaw33.IdleSteps", spec := "idleSteps", apart := false, narrowed := true }
def IdleStepsUptoSaid : Prop := idleStepsUptoRow.holds Try.pinned (OpenSpec.upto idleStepsSpec)

/-- 'magnetolaw33.IdleOrder', WHERE WHAT IT READS IS OF BULK AT MOST 1048576: true; the input reads as it did. -/
def idleOrderUptoRow : OpenClaim := { program := "ytafeblmddhlcaaa", sum := "2586c95a27221f01445caee034f28ef6a84970b136be50fed2f408287cb02852", func := "magneto/magnetolaw33.IdleOrder", spec := "idleOrder", apart := false, narrowed := true }
def IdleOrderUptoSaid : Prop := idleOrderUptoRow.holds Try.pinned (OpenSpec.upto idleOrderSpec)

/-- 'magnetolaw33.IdleRuns', WHERE WHAT IT READS IS OF BULK AT MOST 1048576: true; the input reads as it did. -/
def idleRunsUptoRow : OpenClaim := { program := "ytafeblmddhlcaaa", sum := "2586c95a27221f01445caee034f28ef6a84970b136be50fed2f408287cb02852", func := "magneto/magnetolaw33.IdleRuns", spec := "idleRuns", apart := false, narrowed := true }
def IdleRunsUptoSaid : Prop := idleRunsUptoRow.holds Try.pinned (OpenSpec.upto idleRunsSpec)

/-- 'magnetolaw33.IdleRest', WHERE WHAT IT READS IS OF BULK AT MOST 1048576: true; the input reads as it did. -/
def idleRestUptoRow : OpenClaim := { program := "ytafeblmddhlcaaa", sum := "2586c95a27221f01445caee034f28ef6a84970b136be50fed2f408287cb02852", func := "magneto/magnetolaw33.IdleRest", spec := "idleRest", apart := false, narrowed := true }
def IdleRestUptoSaid : Prop := idleRestUptoRow.holds Try.pinned (OpenSpec.upto idleRestSpec)

end Rows
end Go.Proofs.Ytafeblmddhlcaaa
