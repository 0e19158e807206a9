/-
  No cell of these rows narrows 'for every input' (looked for: loops, veiled, ifaces, maps, wideKeys, modest, calm, conditions, laid).
  DERIVED. THE GIVEN ROWS OF THIS SEAT. 7 by the template 'for every input the law returns true; each argument reads behind the call as it read before'; 0 by the template 'total and deterministic' (their statements: YtfjeediecmhedaaTotals.lean).
  GIVEN WITH THE SEED: the statements are not yours to turn. If you find one false, say at which input.
  Laid BY PROGRAM, IN A SANDBOX (cutbox-rows.mjs): the forced cells as the released guide's own fill.sh prints them over the translation 84ef456d0ff6a1e7… (all of the seat's roots in one cut). By AI agents, Wed Nov 11 2026. No macro, syntax, notation, axiom, sorry.
-/
import Derived.Test.YtfjeediecmhedaaChecked
import GoSem.Claim
import GoSem.ClaimJoined
import GoSem.ClaimMapViews
import Derived.JoinedTies
import Derived.KernelRfl
namespace Go.Proofs.Ytfjeediecmhedaa
/- THE CELL 'sum', in the pinned program and in every row, IS THE sha256 OF THE DUMP (.gsa) THAT YtfjeediecmhedaaProg.lean LOADS. Nothing in Lean hashes anything: it is a label: what it is worth is what the hold of that sum in a sandbox is worth. -/
noncomputable def Try.pinned : Pinned := { name := "ytfjeediecmhedaa", sum := "84ef456d0ff6a1e75a8c7ffa00fe050cdaa9db3c4a9b6c2f04391d880bc64508", checked := Try.checked }
namespace Rows
def none {H : Type} : Left H := { results := [], args := [] }

/-- 'magnetolaw44.TransportLoss': WHATEVER THE INPUT: true; the input reads as it did. -/
def transportLossSpec : ChangeSpec := { name := "transportLoss", fn := fun _ => fun
  | [d1, d2, d3] => { results := [.lit (.bool true)], args := [d1, d2, d3] }
  | _ => none }
def transportLossRow : OpenClaim := { program := "ytfjeediecmhedaa", sum := "84ef456d0ff6a1e75a8c7ffa00fe050cdaa9db3c4a9b6c2f04391d880bc64508", func := "magneto/magnetolaw44.TransportLoss", spec := "transportLoss", apart := false }
def TransportLossSaid : Prop := transportLossRow.holds Try.pinned (OpenSpec.ofChange transportLossSpec)

/-- ITS FALSE NEIGHBOUR: 'it returns false'. Refute it at one input. -/
def transportLossWrong : ChangeSpec := { name := "transportLoss", fn := fun _ => fun
  | [d1, d2, d3] => { results := [.lit (.bool false)], args := [d1, d2, d3] }
  | _ => none }
def TransportLossWrongFalsely : Prop := transportLossRow.holds Try.pinned (OpenSpec.ofChange transportLossWrong)

/-- 'magnetolaw44.TransportCarries': WHATEVER THE INPUT: true; the input reads as it did. -/
def transportCarriesSpec : ChangeSpec := { name := "transportCarries", fn := fun _ => fun
  | [d1, d2, d3] => { results := [.lit (.bool true)], args := [d1, d2, d3] }
  | _ => none }
def transportCarriesRow : OpenClaim := { program := "ytfjeediecmhedaa", sum := "84ef456d0ff6a1e75a8c7ffa00fe050cdaa9db3c4a9b6c2f04391d880bc64508", func := "magneto/magnetolaw44.TransportCarries", spec := "transportCarries", unfollowed := true, recurses := true, apart := false }
def TransportCarriesSaid : Prop := transportCarriesRow.holds Try.pinned (OpenSpec.ofChange transportCarriesSpec)

/-- ITS FALSE NEIGHBOUR: 'it returns false'. Refute it at one input. -/
def transportCarriesWrong : ChangeSpec := { name := "transportCarries", fn := fun _ => fun
  | [d1, d2, d3] => { results := [.lit (.bool false)], args := [d1, d2, d3] }
  | _ => none }
def TransportCarriesWrongFalsely : Prop := transportCarriesRow.holds Try.pinned (OpenSpec.ofChange transportCarriesWrong)

/-- 'magnetolaw44.TransportSends': WHATEVER THE INPUT: true; the input reads as it did. -/
def transportSendsSpec : ChangeSpec := { name := "transportSends", fn := fun _ => fun
  | [d1, d2] => { results := [.lit (.bool true)], args := [d1, d2] }
  | _ => none }
def transportSendsRow : OpenClaim := { program := "ytfjeediecmhedaa", sum := "84ef456d0ff6a1e75a8c7ffa00fe050cdaa9db3c4a9b6c2f04391d880bc64508", func := "magneto/magnetolaw44.TransportSends", spec := "transportSends", apart := false }
def TransportSendsSaid : Prop := transportSendsRow.holds Try.pinned (OpenSpec.ofChange transportSendsSpec)

/-- ITS FALSE NEIGHBOUR: 'it returns false'. Refute it at one input. -/
def transportSendsWrong : ChangeSpec := { name := "transportSends", fn := fun _ => fun
  | [d1, d2] => { results := [.lit (.bool false)], args := [d1, d2] }
  | _ => none }
def TransportSendsWrongFalsely : Prop := transportSendsRow.holds Try.pinned (OpenSpec.ofChange transportSendsWrong)

/-- 'magnetolaw44.TransportReceives': WHATEVER THE INPUT: true; the input reads as it did. -/
def transportReceivesSpec : ChangeSpec := { name := "transportReceives", fn := fun _ => fun
  | [d1, d2, d3] => { results := [.lit (.bool true)], args := [d1, d2, d3] }
  | _ => none }
def transportReceivesRow : OpenClaim := { program := "ytfjeediecmhedaa", sum := "84ef456d0ff6a1e75a8c7ffa00fe050cdaa9db3c4a9b6c2f04391d880bc64508", func := "magneto/magnetolaw44.TransportReceives", spec := "transportReceives", apart := false }
def TransportReceivesSaid : Prop := transportReceivesRow.holds Try.pinned (OpenSpec.ofChange transportReceivesSpec)

/-- ITS FALSE NEIGHBOUR: 'it returns false'. Refute it at one input. -/
def transportReceivesWrong : ChangeSpec := { name := "transportReceives", fn := fun _ => fun
  | [d1, d2, d3] => { results := [.lit (.bool false)], args := [d1, d2, d3] }
  | _ => none }
def TransportReceivesWrongFalsely : Prop := transportReceivesRow.holds Try.pinned (OpenSpec.ofChange transportReceivesWrong)

/-- 'magnetolaw44.TransportArrives': WHATEVER THE INPUT: true; the input reads as it did. -/
def transportArrivesSpec : ChangeSpec := { name := "transportArrives", fn := fun _ => fun
  | [d1, d2, d3] => { results := [.lit (.bool true)], args := [d1, d2, d3] }
  | _ => none }
def transportArrivesRow : OpenClaim := { program := "ytfjeediecmhedaa", sum := "84ef456d0ff6a1e75a8c7ffa00fe050cdaa9db3c4a9b6c2f04391d880bc64508", func := "magneto/magnetolaw44.TransportArrives", spec := "transportArrives", apart := false }
def TransportArrivesSaid : Prop := transportArrivesRow.holds Try.pinned (OpenSpec.ofChange transportArrivesSpec)

/-- ITS FALSE NEIGHBOUR: 'it returns false'. Refute it at one input. -/
def transportArrivesWrong : ChangeSpec := { name := "transportArrives", fn := fun _ => fun
  | [d1, d2, d3] => { results := [.lit (.bool false)], args := [d1, d2, d3] }
  | _ => none }
def TransportArrivesWrongFalsely : Prop := transportArrivesRow.holds Try.pinned (OpenSpec.ofChange transportArrivesWrong)

/-- 'magnetolaw44.TransportSenders': WHATEVER THE INPUT: true; the input reads as it did. -/
def transportSendersSpec : ChangeSpec := { name := "transportSenders", fn := fun _ => fun
  | [d1, d2, d3] => { results := [.lit (.bool true)], args := [d1, d2, d3] }
  | _ => none }
def transportSendersRow : OpenClaim := { program := "ytfjeediecmhedaa", sum := "84ef456d0ff6a1e75a8c7ffa00fe050cdaa9db3c4a9b6c2f04391d880bc64508", func := "magneto/magnetolaw44.TransportSenders", spec := "transportSenders", apart := false }
def TransportSendersSaid : Prop := transportSendersRow.holds Try.pinned (OpenSpec.ofChange transportSendersSpec)

/-- ITS FALSE NEIGHBOUR: 'it returns false'. Refute it at one input. -/
def transportSendersWrong : ChangeSpec := { name := "transportSenders", fn := fun _ => fun
  | [d1, d2, d3] => { results := [.lit (.bool false)], args := [d1, d2, d3] }
  | _ => none }
def TransportSendersWrongFalsely : Prop := transportSendersRow.holds Try.pinned (OpenSpec.ofChange transportSendersWrong)

/-- 'magnetolaw44.TransportForeign': WHATEVER THE INPUT: true; the input reads as it did. -/
def transportForeignSpec : ChangeSpec := { name := "transportForeign", fn := fun _ => fun
  | [d1, d2, d3] => { results := [.lit (.bool true)], args := [d1, d2, d3] }
  | _ => none }
def transportForeignRow : OpenClaim := { program := "ytfjeediecmhedaa", sum := "84ef456d0ff6a1e75a8c7ffa00fe050cdaa9db3c4a9b6c2f04391d880bc64508", func := "magneto/magnetolaw44.TransportForeign", spec := "transportForeign", apart := false }
def TransportForeignSaid : Prop := transportForeignRow.holds Try.pinned (OpenSpec.ofChange transportForeignSpec)

/-- ITS FALSE NEIGHBOUR: 'it returns false'. Refute it at one input. -/
def transportForeignWrong : ChangeSpec := { name := "transportForeign", fn := fun _ => fun
  | [d1, d2, d3] => { results := [.lit (.bool false)], args := [d1, d2, d3] }
  | _ => none }
def TransportForeignWrongFalsely : Prop := transportForeignRow.holds Try.pinned (OpenSpec.ofChange transportForeignWrong)

/- THE SECOND FORM. 'bulk': how many values and letters a reading holds, each counted each time it is reached (what is shared counts as often as it is met; a slice's spare places count too). A statement '..UptoSaid' is the law's where the arguments, and the package variables that the reading takes, are together of bulk at most 1048576: NARROWER than '..Said'. Prove '..Said' where nothing that the law and all that it calls make is longer than what came in: it says more and counts as full. Else prove '..UptoSaid'. A law counts once. -/
mutual
def uptoBulk {H : Type} : DataW H → Nat
  | .lit (.string bytes) => bytes.length + 1
  | .lit _ => 1
  | .nil => 1
  | .ptr d => uptoBulk d + 1
  | .slice elems spare => uptoBulkAll elems + uptoBulkAll spare + 1
  | .agg parts => uptoBulkAll parts + 1
  | .iface _ d => uptoBulk d + 1
  | .map entries => uptoBulkEntries entries + 1
  | .held _ => 1
def uptoBulkAll {H : Type} : List (DataW H) → Nat
  | [] => 0
  | d :: r => uptoBulk d + uptoBulkAll r
def uptoBulkEntries {H : Type} : List (Lit × DataW H) → Nat
  | [] => 0
  | x :: r => uptoBulkEntry x + uptoBulkEntries r
def uptoBulkEntry {H : Type} : Lit × DataW H → Nat
  | (.string bytes, d) => bytes.length + uptoBulk d + 1
  | (_, d) => uptoBulk d + 1
 end
def uptoSmall : (H : Type) → List (DataW H) → Bool := fun _ ds => decide (uptoBulkAll ds ≤ 1048576)
def OpenSpec.upto (s : _root_.Go.ChangeSpec) : _root_.Go.OpenSpec := { _root_.Go.OpenSpec.ofChange s with cond := some uptoSmall }

/-- 'magnetolaw44.TransportLoss', WHERE WHAT IT READS IS OF BULK AT MOST 1048576: true; the input reads as it did. -/
def transportLossUptoRow : OpenClaim := { program := "ytfjeediecmhedaa", sum := "84ef456d0ff6a1e75a8c7ffa00fe050cdaa9db3c4a9b6c2f04391d880bc64508", func := "magneto/magnetolaw44.TransportLoss", spec := "transportLoss", apart := false, narrowed := true }
def TransportLossUptoSaid : Prop := transportLossUptoRow.holds Try.pinned (OpenSpec.upto transportLossSpec)

/-- 'magnetolaw44.TransportCarries', WHERE WHAT IT READS IS OF BULK AT MOST 1048576: true; the input reads as it did. -/
def transportCarriesUptoRow : OpenClaim := { program := "ytfjeediecmhedaa", sum := "84ef456d0ff6a1e75a8c7ffa00fe050cdaa9db3c4a9b6c2f04391d880bc64508", func := "magneto/magnetolaw44.TransportCarries", spec := "transportCarries", unfollowed := true, recurses := true, apart := false, narrowed := true }
def TransportCarriesUptoSaid : Prop := transportCarriesUptoRow.holds Try.pinned (OpenSpec.upto transportCarriesSpec)

/-- 'magnetolaw44.TransportSends', WHERE WHAT IT READS IS OF BULK AT MOST 1048576: true; the input reads as it did. -/
def transportSendsUptoRow : OpenClaim := { program := "ytfjeediecmhedaa", sum := "84ef456d0ff6a1e75a8c7ffa00fe050cdaa9db3c4a9b6c2f04391d880bc64508", func := "magneto/magnetolaw44.TransportSends", spec := "transportSends", apart := false, narrowed := true }
def TransportSendsUptoSaid : Prop := transportSendsUptoRow.holds Try.pinned (OpenSpec.upto transportSendsSpec)

/-- 'magnetolaw44.TransportReceives', WHERE WHAT IT READS IS OF BULK AT MOST 1048576: true; the input reads as it did. -/
def transportReceivesUptoRow : OpenClaim := { program := "ytfjeediecmhedaa", sum := "84ef456d0ff6a1e75a8c7ffa00fe050cdaa9db3c4a9b6c2f04391d880bc64508", func := "magneto/magnetolaw44.TransportReceives", spec := "transportReceives", apart := false, narrowed := true }
def TransportReceivesUptoSaid : Prop := transportReceivesUptoRow.holds Try.pinned (OpenSpec.upto transportReceivesSpec)

/-- 'magnetolaw44.TransportArrives', WHERE WHAT IT READS IS OF BULK AT MOST 1048576: true; the input reads as it did. -/
def transportArrivesUptoRow : OpenClaim := { program := "ytfjeediecmhedaa", sum := "84ef456d0ff6a1e75a8c7ffa00fe050cdaa9db3c4a9b6c2f04391d880bc64508", func := "magneto/magnetolaw44.TransportArrives", spec := "transportArrives", apart := false, narrowed := true }
def TransportArrivesUptoSaid : Prop := transportArrivesUptoRow.holds Try.pinned (OpenSpec.upto transportArrivesSpec)

/-- 'magnetolaw44.TransportSenders', WHERE WHAT IT READS IS OF BULK AT MOST 1048576: true; the input reads as it did. -/
def transportSendersUptoRow : OpenClaim := { program := "ytfjeediecmhedaa", sum := "84ef456d0ff6a1e75a8c7ffa00fe050cdaa9db3c4a9b6c2f04391d880bc64508", func := "magneto/magnetolaw44.TransportSenders", spec := "transportSenders", apart := false, narrowed := true }
def TransportSendersUptoSaid : Prop := transportSendersUptoRow.holds Try.pinned (OpenSpec.upto transportSendersSpec)

/-- 'magnetolaw44.TransportForeign', WHERE WHAT IT READS IS OF BULK AT MOST 1048576: true; the input reads as it did. -/
def transportForeignUptoRow : OpenClaim := { program := "ytfjeediecmhedaa", sum := "84ef456d0ff6a1e75a8c7ffa00fe050cdaa9db3c4a9b6c2f04391d880bc64508", func := "magneto/magnetolaw44.TransportForeign", spec := "transportForeign", apart := false, narrowed := true }
def TransportForeignUptoSaid : Prop := transportForeignUptoRow.holds Try.pinned (OpenSpec.upto transportForeignSpec)

end Rows
end Go.Proofs.Ytfjeediecmhedaa
