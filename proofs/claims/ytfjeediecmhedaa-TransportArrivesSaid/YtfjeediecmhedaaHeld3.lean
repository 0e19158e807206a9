/-
  The law on regions, more: what reads before operation number k, where k waits for it directly, may be taken first. No condition.
-/
import Derived.Test.YtfjeediecmhedaaHeld2
namespace Go.Proofs.Ytfjeediecmhedaa
open Go
section
variable {P : Program} {ops : Array Oper} {Q : Exit → Act → World → Prop} {md : Region.Mode} {S : World → Prop} {k : Nat}
/-- take number i first, for which k waits directly -/
theorem K_takeD {i : Nat} {oi : Oper} {v : Value} {fuel : Nat} {l : Array Bool} {a : Act} {w : World} (hi : ops[i]? = some oi)
    (hs : Region.noSelect ops = true) (hf : Region.free md ops l i = true) (hr : (Region.ready md ops l).contains i = true) (hc : closedB md ops l = true)
    (hrk : (reachB md ops i 1 k && !(i == k) && !l.getD k false) = true)
    (hQ : ∀ c a w, Q (.panic c) (a.put oi.dst v) w → Q (.panic c) a w) (hy : YieldsIf P ops S oi v a) (hS : S w)
    (h : AnyK P md ops Q S k fuel (l.setIfInBounds i true) (a.put oi.dst v) w) : AnyK P md ops Q S k (fuel + 1) l a w := by
  simp only [Bool.and_eq_true, Bool.not_eq_true', beq_eq_false_iff_ne] at hrk
  exact K_first hi (Region.noSelect_spec hs) hQ hrk.1.1 hrk.1.2 fuel l a w (Region.free_spec hi hf) (by simpa using hr) (closed_of hc) hrk.2 hy hS h
end
end Go.Proofs.Ytfjeediecmhedaa
