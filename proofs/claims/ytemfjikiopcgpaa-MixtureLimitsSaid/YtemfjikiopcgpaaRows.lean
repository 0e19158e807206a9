/-
  No cell of these rows narrows 'for every input' (looked for: loops, veiled, ifaces, maps, wideKeys, modest, calm, conditions, laid).
  DERIVED. THE GIVEN ROWS OF THIS SEAT. 8 by the template 'for every input the law returns true; each argument reads behind the call as it read before'; 0 by the template 'total and deterministic' (their statements: YtemfjikiopcgpaaTotals.lean).
  GIVEN WITH THE SEED: the statements are not yours to turn. If you find one false, say at which input.
  Laid BY PROGRAM, IN A SANDBOX (cutbox-rows.mjs): the forced cells as the released guide's own fill.sh prints them over the translation 508eeb37236046d8… (all of the seat's roots in one cut). By AI agents, Wed Nov 11 2026. No macro, syntax, notation, axiom, sorry.
-/
import Derived.Test.YtemfjikiopcgpaaChecked
import GoSem.Claim
import GoSem.ClaimJoined
import GoSem.ClaimMapViews
import Derived.JoinedTies
import Derived.KernelRfl
namespace Go.Proofs.Ytemfjikiopcgpaa
/- THE CELL 'sum', in the pinned program and in every row, IS THE sha256 OF THE DUMP (.gsa) THAT YtemfjikiopcgpaaProg.lean LOADS. Nothing in Lean hashes anything: it is a label: what it is worth is what the hold of that sum in a sandbox is worth. -/
noncomputable def Try.pinned : Pinned := { name := "ytemfjikiopcgpaa", sum := "508eeb37236046d805d583699ec637cb5c9f9b097e4bd41c44376ae707c94404", checked := Try.checked }
namespace Rows
def none {H : Type} : Left H := { results := [], args := [] }

/-- 'magnetolaw34.MixtureSteps': WHATEVER THE INPUT: true; the input reads as it did. -/
def mixtureStepsSpec : ChangeSpec := { name := "mixtureSteps", fn := fun _ => fun
  | [d1, d2, d3, d4] => { results := [.lit (.bool true)], args := [d1, d2, d3, d4] }
  | _ => none }
def mixtureStepsRow : OpenClaim := { program := "ytemfjikiopcgpaa", sum := "508eeb37236046d805d583699ec637cb5c9f9b097e4bd41c44376ae707c94404", func := "magneto/magnetolaw34.MixtureSteps", spec := "mixtureSteps", unfollowed := true, recurses := true, apart := false }
def MixtureStepsSaid : Prop := mixtureStepsRow.holds Try.pinned (OpenSpec.ofChange mixtureStepsSpec)

/-- ITS FALSE NEIGHBOUR: 'it returns false'. Refute it at one input. -/
def mixtureStepsWrong : ChangeSpec := { name := "mixtureSteps", fn := fun _ => fun
  | [d1, d2, d3, d4] => { results := [.lit (.bool false)], args := [d1, d2, d3, d4] }
  | _ => none }
def MixtureStepsWrongFalsely : Prop := mixtureStepsRow.holds Try.pinned (OpenSpec.ofChange mixtureStepsWrong)

/-- 'magnetolaw34.MixtureFinds': WHATEVER THE INPUT: true; the input reads as it did. -/
def mixtureFindsSpec : ChangeSpec := { name := "mixtureFinds", fn := fun _ => fun
  | [d1, d2, d3, d4] => { results := [.lit (.bool true)], args := [d1, d2, d3, d4] }
  | _ => none }
def mixtureFindsRow : OpenClaim := { program := "ytemfjikiopcgpaa", sum := "508eeb37236046d805d583699ec637cb5c9f9b097e4bd41c44376ae707c94404", func := "magneto/magnetolaw34.MixtureFinds", spec := "mixtureFinds", unfollowed := true, recurses := true, apart := false }
def MixtureFindsSaid : Prop := mixtureFindsRow.holds Try.pinned (OpenSpec.ofChange mixtureFindsSpec)

/-- ITS FALSE NEIGHBOUR: 'it returns false'. Refute it at one input. -/
def mixtureFindsWrong : ChangeSpec := { name := "mixtureFinds", fn := fun _ => fun
  | [d1, d2, d3, d4] => { results := [.lit (.bool false)], args := [d1, d2, d3, d4] }
  | _ => none }
def MixtureFindsWrongFalsely : Prop := mixtureFindsRow.holds Try.pinned (OpenSpec.ofChange mixtureFindsWrong)

/-- 'magnetolaw34.MixtureSides': WHATEVER THE INPUT: true; the input reads as it did. -/
def mixtureSidesSpec : ChangeSpec := { name := "mixtureSides", fn := fun _ => fun
  | [d1, d2] => { results := [.lit (.bool true)], args := [d1, d2] }
  | _ => none }
def mixtureSidesRow : OpenClaim := { program := "ytemfjikiopcgpaa", sum := "508eeb37236046d805d583699ec637cb5c9f9b097e4bd41c44376ae707c94404", func := "magneto/magnetolaw34.MixtureSides", spec := "mixtureSides", unfollowed := true, recurses := true, apart := false }
def MixtureSidesSaid : Prop := mixtureSidesRow.holds Try.pinned (OpenSpec.ofChange mixtureSidesSpec)

/-- ITS FALSE NEIGHBOUR: 'it returns false'. Refute it at one input. -/
def mixtureSidesWrong : ChangeSpec := { name := "mixtureSides", fn := fun _ => fun
  | [d1, d2] => { results := [.lit (.bool false)], args := [d1, d2] }
  | _ => none }
def MixtureSidesWrongFalsely : Prop := mixtureSidesRow.holds Try.pinned (OpenSpec.ofChange mixtureSidesWrong)

/-- 'magnetolaw34.MixtureStates': WHATEVER THE INPUT: true; the input reads as it did. -/
def mixtureStatesSpec : ChangeSpec := { name := "mixtureStates", fn := fun _ => fun
  | [d] => { results := [.lit (.bool true)], args := [d] }
  | _ => none }
def mixtureStatesRow : OpenClaim := { program := "ytemfjikiopcgpaa", sum := "508eeb37236046d805d583699ec637cb5c9f9b097e4bd41c44376ae707c94404", func := "magneto/magnetolaw34.MixtureStates", spec := "mixtureStates", unfollowed := true, recurses := true, apart := false }
def MixtureStatesSaid : Prop := mixtureStatesRow.holds Try.pinned (OpenSpec.ofChange mixtureStatesSpec)

/-- ITS FALSE NEIGHBOUR: 'it returns false'. Refute it at one input. -/
def mixtureStatesWrong : ChangeSpec := { name := "mixtureStates", fn := fun _ => fun
  | [d] => { results := [.lit (.bool false)], args := [d] }
  | _ => none }
def MixtureStatesWrongFalsely : Prop := mixtureStatesRow.holds Try.pinned (OpenSpec.ofChange mixtureStatesWrong)

/-- 'magnetolaw34.MixtureLearns': WHATEVER THE INPUT: true; the input reads as it did. -/
def mixtureLearnsSpec : ChangeSpec := { name := "mixtureLearns", fn := fun _ => fun
  | [d1, d2] => { results := [.lit (.bool true)], args := [d1, d2] }
  | _ => none }
def mixtureLearnsRow : OpenClaim := { program := "ytemfjikiopcgpaa", sum := "508eeb37236046d805d583699ec637cb5c9f9b097e4bd41c44376ae707c94404", func := "magneto/magnetolaw34.MixtureLearns", spec := "mixtureLearns", unfollowed := true, recurses := true, apart := false }
def MixtureLearnsSaid : Prop := mixtureLearnsRow.holds Try.pinned (OpenSpec.ofChange mixtureLearnsSpec)

/-- ITS FALSE NEIGHBOUR: 'it returns false'. Refute it at one input. -/
def mixtureLearnsWrong : ChangeSpec := { name := "mixtureLearns", fn := fun _ => fun
  | [d1, d2] => { results := [.lit (.bool false)], args := [d1, d2] }
  | _ => none }
def MixtureLearnsWrongFalsely : Prop := mixtureLearnsRow.holds Try.pinned (OpenSpec.ofChange mixtureLearnsWrong)

/-- 'magnetolaw34.MixtureCells': WHATEVER THE INPUT: true; the input reads as it did. -/
def mixtureCellsSpec : ChangeSpec := { name := "mixtureCells", fn := fun _ => fun
  | [d1, d2, d3] => { results := [.lit (.bool true)], args := [d1, d2, d3] }
  | _ => none }
def mixtureCellsRow : OpenClaim := { program := "ytemfjikiopcgpaa", sum := "508eeb37236046d805d583699ec637cb5c9f9b097e4bd41c44376ae707c94404", func := "magneto/magnetolaw34.MixtureCells", spec := "mixtureCells", unfollowed := true, recurses := true, apart := false }
def MixtureCellsSaid : Prop := mixtureCellsRow.holds Try.pinned (OpenSpec.ofChange mixtureCellsSpec)

/-- ITS FALSE NEIGHBOUR: 'it returns false'. Refute it at one input. -/
def mixtureCellsWrong : ChangeSpec := { name := "mixtureCells", fn := fun _ => fun
  | [d1, d2, d3] => { results := [.lit (.bool false)], args := [d1, d2, d3] }
  | _ => none }
def MixtureCellsWrongFalsely : Prop := mixtureCellsRow.holds Try.pinned (OpenSpec.ofChange mixtureCellsWrong)

/-- 'magnetolaw34.MixtureLimits': WHATEVER THE INPUT: true; the input reads as it did. -/
def mixtureLimitsSpec : ChangeSpec := { name := "mixtureLimits", fn := fun _ => fun
  | [d1, d2, d3, d4] => { results := [.lit (.bool true)], args := [d1, d2, d3, d4] }
  | _ => none }
def mixtureLimitsRow : OpenClaim := { program := "ytemfjikiopcgpaa", sum := "508eeb37236046d805d583699ec637cb5c9f9b097e4bd41c44376ae707c94404", func := "magneto/magnetolaw34.MixtureLimits", spec := "mixtureLimits", unfollowed := true, recurses := true, apart := false }
def MixtureLimitsSaid : Prop := mixtureLimitsRow.holds Try.pinned (OpenSpec.ofChange mixtureLimitsSpec)

/-- ITS FALSE NEIGHBOUR: 'it returns false'. Refute it at one input. -/
def mixtureLimitsWrong : ChangeSpec := { name := "mixtureLimits", fn := fun _ => fun
  | [d1, d2, d3, d4] => { results := [.lit (.bool false)], args := [d1, d2, d3, d4] }
  | _ => none }
def MixtureLimitsWrongFalsely : Prop := mixtureLimitsRow.holds Try.pinned (OpenSpec.ofChange mixtureLimitsWrong)

/-- 'magnetolaw34.MixtureKeeps': WHATEVER THE INPUT: true; the input reads as it did. -/
def mixtureKeepsSpec : ChangeSpec := { name := "mixtureKeeps", fn := fun _ => fun
  | [d1, d2, d3] => { results := [.lit (.bool true)], args := [d1, d2, d3] }
  | _ => none }
def mixtureKeepsRow : OpenClaim := { program := "ytemfjikiopcgpaa", sum := "508eeb37236046d805d583699ec637cb5c9f9b097e4bd41c44376ae707c94404", func := "magneto/magnetolaw34.MixtureKeeps", spec := "mixtureKeeps", unfollowed := true, recurses := true, apart := false }
def MixtureKeepsSaid : Prop := mixtureKeepsRow.holds Try.pinned (OpenSpec.ofChange mixtureKeepsSpec)

/-- ITS FALSE NEIGHBOUR: 'it returns false'. Refute it at one input. -/
def mixtureKeepsWrong : ChangeSpec := { name := "mixtureKeeps", fn := fun _ => fun
  | [d1, d2, d3] => { results := [.lit (.bool false)], args := [d1, d2, d3] }
  | _ => none }
def MixtureKeepsWrongFalsely : Prop := mixtureKeepsRow.holds Try.pinned (OpenSpec.ofChange mixtureKeepsWrong)

/- THE SECOND FORM. 'bulk': how many values and letters a reading holds, each counted each time it is reached (what is shared counts as often as it is met; a slice's spare places count too). A statement '..UptoSaid' is the law's where the arguments, and the package variables that the reading takes, are together of bulk at most 1048576: NARROWER than '..Said'. Prove '..Said' where nothing that the law and all that it calls make is longer than what came in: it says more and counts as full. Else prove '..UptoSaid'. A law counts once. -/
mutual
def uptoBulk {H : Type} : DataW H → Nat
  | .lit (.string bytes) => bytes.length + 1
  | .lit _ => 1
  | .nil => 1
  | .ptr d => uptoBulk d + 1
  | .slice elems spare => uptoBulkAll elems + uptoBulkAll spare + 1
  | .agg parts => uptoBulkAll parts + 1
  | .iface _ d => uptoBulk d + 1
  | .map entries => uptoBulkEntries entries + 1
  | .held _ => 1
def uptoBulkAll {H : Type} : List (DataW H) → Nat
  | [] => 0
  | d :: r => uptoBulk d + uptoBulkAll r
def uptoBulkEntries {H : Type} : List (Lit × DataW H) → Nat
  | [] => 0
  | x :: r => uptoBulkEntry x + uptoBulkEntries r
def uptoBulkEntry {H : Type} : Lit × DataW H → Nat
  | (.string bytes, d) => bytes.length + uptoBulk d + 1
  | (_, d) => uptoBulk d + 1
 end
def uptoSmall : (H : Type) → List (DataW H) → Bool := fun _ ds => decide (uptoBulkAll ds ≤ 1048576)
def OpenSpec.upto (s : _root_.Go.ChangeSpec) : _root_.Go.OpenSpec := { _root_.Go.OpenSpec.ofChange s with cond := some uptoSmall }

/-- 'magnetolaw34.MixtureSteps', WHERE WHAT IT READS IS OF BULK AT MOST 1048576: true; the input reads as it did. -/
def mixtureStepsUptoRow : OpenClaim := { program := "ytemfjikiopcgpaa", sum := "508eeb37236046d805d583699ec637cb5c9f9b097e4bd41c44376ae707c94404", func := "magneto/magnetolaw34.MixtureSteps", spec := "mixtureSteps", unfollowed := true, recurses := true, apart := false, narrowed := true }
def MixtureStepsUptoSaid : Prop := mixtureStepsUptoRow.holds Try.pinned (OpenSpec.upto mixtureStepsSpec)

/-- 'magnetolaw34.MixtureFinds', WHERE WHAT IT READS IS OF BULK AT MOST 1048576: true; the input reads as it did. -/
def mixtureFindsUptoRow : OpenClaim := { program := "ytemfjikiopcgpaa", sum := "508eeb37236046d805d583699ec637cb5c9f9b097e4bd41c44376ae707c94404", func := "magneto/magnetolaw34.MixtureFinds", spec := "mixtureFinds", unfollowed := true, recurses := true, apart := false, narrowed := true }
def MixtureFindsUptoSaid : Prop := mixtureFindsUptoRow.holds Try.pinned (OpenSpec.upto mixtureFindsSpec)

/-- 'magnetolaw34.MixtureSides', WHERE WHAT IT READS IS OF BULK AT MOST 1048576: true; the input reads as it did. -/
def mixtureSidesUptoRow : OpenClaim := { program := "ytemfjikiopcgpaa", sum := "508eeb37236046d805d583699ec637cb5c9f9b097e4bd41c44376ae707c94404", func := "magneto/magnetolaw34.MixtureSides", spec := "mixtureSides", unfollowed := true, recurses := true, apart := false, narrowed := true }
def MixtureSidesUptoSaid : Prop := mixtureSidesUptoRow.holds Try.pinned (OpenSpec.upto mixtureSidesSpec)

/-- 'magnetolaw34.MixtureStates', WHERE WHAT IT READS IS OF BULK AT MOST 1048576: true; the input reads as it did. -/
def mixtureStatesUptoRow : OpenClaim := { program := "ytemfjikiopcgpaa", sum := "508eeb37236046d805d583699ec637cb5c9f9b097e4bd41c44376ae707c94404", func := "magneto/magnetolaw34.MixtureStates", spec := "mixtureStates", unfollowed := true, recurses := true, apart := false, narrowed := true }
def MixtureStatesUptoSaid : Prop := mixtureStatesUptoRow.holds Try.pinned (OpenSpec.upto mixtureStatesSpec)

/-- 'magnetolaw34.MixtureLearns', WHERE WHAT IT READS IS OF BULK AT MOST 1048576: true; the input reads as it did. -/
def mixtureLearnsUptoRow : OpenClaim := { program := "ytemfjikiopcgpaa", sum := "508eeb37236046d805d583699ec637cb5c9f9b097e4bd41c44376ae707c94404", func := "magneto/magnetolaw34.MixtureLearns", spec := "mixtureLearns", unfollowed := true, recurses := true, apart := false, narrowed := true }
def MixtureLearnsUptoSaid : Prop := mixtureLearnsUptoRow.holds Try.pinned (OpenSpec.upto mixtureLearnsSpec)

/-- 'magnetolaw34.MixtureCells', WHERE WHAT IT READS IS OF BULK AT MOST 1048576: true; the input reads as it did. -/
def mixtureCellsUptoRow : OpenClaim := { program := "ytemfjikiopcgpaa", sum := "508eeb37236046d805d583699ec637cb5c9f9b097e4bd41c44376ae707c94404", func := "magneto/magnetolaw34.MixtureCells", spec := "mixtureCells", unfollowed := true, recurses := true, apart := false, narrowed := true }
def MixtureCellsUptoSaid : Prop := mixtureCellsUptoRow.holds Try.pinned (OpenSpec.upto mixtureCellsSpec)

/-- 'magnetolaw34.MixtureLimits', WHERE WHAT IT READS IS OF BULK AT MOST 1048576: true; the input reads as it did. -/
def mixtureLimitsUptoRow : OpenClaim := { program := "ytemfjikiopcgpaa", sum := "508eeb37236046d805d583699ec637cb5c9f9b097e4bd41c44376ae707c94404", func := "magneto/magnetolaw34.MixtureLimits", spec := "mixtureLimits", unfollowed := true, recurses := true, apart := false, narrowed := true }
def MixtureLimitsUptoSaid : Prop := mixtureLimitsUptoRow.holds Try.pinned (OpenSpec.upto mixtureLimitsSpec)

/-- 'magnetolaw34.MixtureKeeps', WHERE WHAT IT READS IS OF BULK AT MOST 1048576: true; the input reads as it did. -/
def mixtureKeepsUptoRow : OpenClaim := { program := "ytemfjikiopcgpaa", sum := "508eeb37236046d805d583699ec637cb5c9f9b097e4bd41c44376ae707c94404", func := "magneto/magnetolaw34.MixtureKeeps", spec := "mixtureKeeps", unfollowed := true, recurses := true, apart := false, narrowed := true }
def MixtureKeepsUptoSaid : Prop := mixtureKeepsUptoRow.holds Try.pinned (OpenSpec.upto mixtureKeepsSpec)

end Rows
end Go.Proofs.Ytemfjikiopcgpaa
