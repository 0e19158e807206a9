/-
  No cell of these rows narrows 'for every input' (looked for: loops, veiled, ifaces, maps, wideKeys, modest, calm, conditions, laid).
  DERIVED. THE GIVEN ROWS OF THIS SEAT. 3 by the template 'for every input the law returns true; each argument reads behind the call as it read before'; 0 by the template 'total and deterministic' (their statements: YtpkeghklfbpmhaaTotals.lean).
  GIVEN WITH THE SEED: the statements are not yours to turn. If you find one false, say at which input.
  Laid BY PROGRAM, IN A SANDBOX (cutbox-rows.mjs): the forced cells as the released guide's own fill.sh prints them over the translation 9d95562ea00ac90d… (all of the seat's roots in one cut). By AI agents, Wed Nov 11 2026. No macro, syntax, notation, axiom, sorry.
-/
import Derived.Test.YtpkeghklfbpmhaaChecked
import GoSem.Claim
import GoSem.ClaimJoined
import GoSem.ClaimMapViews
import Derived.JoinedTies
import Derived.KernelRfl
namespace Go.Proofs.Ytpkeghklfbpmhaa
/- THE CELL 'sum', in the pinned program and in every row, IS THE sha256 OF THE DUMP (.gsa) THAT YtpkeghklfbpmhaaProg.lean LOADS. Nothing in Lean hashes anything: it is a label: what it is worth is what the hold of that sum in a sandbox is worth. -/
noncomputable def Try.pinned : Pinned := { name := "ytpkeghklfbpmhaa", sum := "9d95562ea00ac90d4d26905159798b84c2d24e03fcec7a06ccffb98681e45b20", checked := Try.checked }
namespace Rows
def none {H : Type} : Left H := { results := [], args := [] }

/-- 'magnetolaw37.PedalSteps': WHATEVER THE INPUT: true; the input reads as it did. -/
def pedalStepsSpec : ChangeSpec := { name := "pedalSteps", fn := fun _ => fun
  | [d1, d2, d3] => { results := [.lit (.bool true)], args := [d1, d2, d3] }
  | _ => none }
def pedalStepsRow : OpenClaim := { program := "ytpkeghklfbpmhaa", sum := "9d95562ea00ac90d4d26905159798b84c2d24e03fcec7a06ccffb98681e45b20", func := "magneto/magnetolaw37.PedalSteps", spec := "pedalSteps", apart := false }
def PedalStepsSaid : Prop := pedalStepsRow.holds Try.pinned (OpenSpec.ofChange pedalStepsSpec)

/-- ITS FALSE NEIGHBOUR: 'it returns false'. Refute it at one input. -/
def pedalStepsWrong : ChangeSpec := { name := "pedalSteps", fn := fun _ => fun
  | [d1, d2, d3] => { results := [.lit (.bool false)], args := [d1, d2, d3] }
  | _ => none }
def PedalStepsWrongFalsely : Prop := pedalStepsRow.holds Try.pinned (OpenSpec.ofChange pedalStepsWrong)

/-- 'magnetolaw37.PedalSafe': WHATEVER THE INPUT: true; the input reads as it did. -/
def pedalSafeSpec : ChangeSpec := { name := "pedalSafe", fn := fun _ => fun
  | [d] => { results := [.lit (.bool true)], args := [d] }
  | _ => none }
def pedalSafeRow : OpenClaim := { program := "ytpkeghklfbpmhaa", sum := "9d95562ea00ac90d4d26905159798b84c2d24e03fcec7a06ccffb98681e45b20", func := "magneto/magnetolaw37.PedalSafe", spec := "pedalSafe", apart := false }
def PedalSafeSaid : Prop := pedalSafeRow.holds Try.pinned (OpenSpec.ofChange pedalSafeSpec)

/-- ITS FALSE NEIGHBOUR: 'it returns false'. Refute it at one input. -/
def pedalSafeWrong : ChangeSpec := { name := "pedalSafe", fn := fun _ => fun
  | [d] => { results := [.lit (.bool false)], args := [d] }
  | _ => none }
def PedalSafeWrongFalsely : Prop := pedalSafeRow.holds Try.pinned (OpenSpec.ofChange pedalSafeWrong)

/-- 'magnetolaw37.PedalRuns': WHATEVER THE INPUT: true; the input reads as it did. -/
def pedalRunsSpec : ChangeSpec := { name := "pedalRuns", fn := fun _ => fun
  | [d] => { results := [.lit (.bool true)], args := [d] }
  | _ => none }
def pedalRunsRow : OpenClaim := { program := "ytpkeghklfbpmhaa", sum := "9d95562ea00ac90d4d26905159798b84c2d24e03fcec7a06ccffb98681e45b20", func := "magneto/magnetolaw37.PedalRuns", spec := "pedalRuns", apart := false }
def PedalRunsSaid : Prop := pedalRunsRow.holds Try.pinned (OpenSpec.ofChange pedalRunsSpec)

/-- ITS FALSE NEIGHBOUR: 'it returns false'. Refute it at one input. -/
def pedalRunsWrong : ChangeSpec := { name := "pedalRuns", fn := fun _ => fun
  | [d] => { results := [.lit (.bool false)], args := [d] }
  | _ => none }
def PedalRunsWrongFalsely : Prop := pedalRunsRow.holds Try.pinned (OpenSpec.ofChange pedalRunsWrong)

/- THE SECOND FORM. 'bulk': how many values and letters a reading holds, each counted each time it is reached (what is shared counts as often as it is met; a slice's spare places count too). A statement '..UptoSaid' is the law's where the arguments, and the package variables that the reading takes, are together of bulk at most 1048576: NARROWER than '..Said'. Prove '..Said' where nothing that the law and all that it calls make is longer than what came in: it says more and counts as full. Else prove '..UptoSaid'. A law counts once. -/
mutual
def uptoBulk {H : Type} : DataW H → Nat
  | .lit (.string bytes) => bytes.length + 1
  | .lit _ => 1
  | .nil => 1
  | .ptr d => uptoBulk d + 1
  | .slice elems spare => uptoBulkAll elems + uptoBulkAll spare + 1
  | .agg parts => uptoBulkAll parts + 1
  | .iface _ d => uptoBulk d + 1
  | .map entries => uptoBulkEntries entries + 1
  | .held _ => 1
def uptoBulkAll {H : Type} : List (DataW H) → Nat
  | [] => 0
  | d :: r => uptoBulk d + uptoBulkAll r
def uptoBulkEntries {H : Type} : List (Lit × DataW H) → Nat
  | [] => 0
  | x :: r => uptoBulkEntry x + uptoBulkEntries r
def uptoBulkEntry {H : Type} : Lit × DataW H → Nat
  | (.string bytes, d) => bytes.length + uptoBulk d + 1
  | (_, d) => uptoBulk d + 1
 end
def uptoSmall : (H : Type) → List (DataW H) → Bool := fun _ ds => decide (uptoBulkAll ds ≤ 1048576)
def OpenSpec.upto (s : _root_.Go.ChangeSpec) : _root_.Go.OpenSpec := { _root_.Go.OpenSpec.ofChange s with cond := some uptoSmall }

/-- 'magnetolaw37.PedalSteps', WHERE WHAT IT READS IS OF BULK AT MOST 1048576: true; the input reads as it did. -/
def pedalStepsUptoRow : OpenClaim := { program := "ytpkeghklfbpmhaa", sum := "9d95562ea00ac90d4d26905159798b84c2d24e03fcec7a06ccffb98681e45b20", func := "magneto/magnetolaw37.PedalSteps", spec := "pedalSteps", apart := false, narrowed := true }
def PedalStepsUptoSaid : Prop := pedalStepsUptoRow.holds Try.pinned (OpenSpec.upto pedalStepsSpec)

/-- 'magnetolaw37.PedalSafe', WHERE WHAT IT READS IS OF BULK AT MOST 1048576: true; the input reads as it did. -/
def pedalSafeUptoRow : OpenClaim := { program := "ytpkeghklfbpmhaa", sum := "9d95562ea00ac90d4d26905159798b84c2d24e03fcec7a06ccffb98681e45b20", func := "magneto/magnetolaw37.PedalSafe", spec := "pedalSafe", apart := false, narrowed := true }
def PedalSafeUptoSaid : Prop := pedalSafeUptoRow.holds Try.pinned (OpenSpec.upto pedalSafeSpec)

/-- 'magnetolaw37.PedalRuns', WHERE WHAT IT READS IS OF BULK AT MOST 1048576: true; the input reads as it did. -/
def pedalRunsUptoRow : OpenClaim := { program := "ytpkeghklfbpmhaa", sum := "9d95562ea00ac90d4d26905159798b84c2d24e03fcec7a06ccffb98681e45b20", func := "magneto/magnetolaw37.PedalRuns", spec := "pedalRuns", apart := false, narrowed := true }
def PedalRunsUptoSaid : Prop := pedalRunsUptoRow.holds Try.pinned (OpenSpec.upto pedalRunsSpec)

end Rows
end Go.Proofs.Ytpkeghklfbpmhaa
