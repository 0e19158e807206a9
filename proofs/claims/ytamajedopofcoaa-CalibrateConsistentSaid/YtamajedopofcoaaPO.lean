/-
  What New, Write, Select and Commit return. No condition.
-/
import Derived.Test.YtamajedopofcoaaRCopy
import Derived.Test.YtamajedopofcoaaRVal
set_option linter.unusedVariables false
set_option linter.unusedSimpArgs false
namespace Go.Proofs.Ytamajedopofcoaa
open Go.RowKit
def pz : PG := ⟨[], [], 0, 0, []⟩
def PG.ok (p : PG) : Bool := vP p.R p.W p.Ac p.Pe p.Ch
/-- pages and an error -/
def PO (q : PG) (e : Int) (w : World) (r : Ending) (w' : World) : Prop :=
  ∃ A n c A2 n2 c2 A3 m c3, r = .returned (.tuple #[.agg #[.slice A n c, .slice A2 n2 c2, .int .i64 q.Ac, .int .i64 q.Pe, .slice A3 m c3], .int .i64 e]) ∧ q.R.length = n ∧ n ≤ c ∧ Ik .i64 w' A q.R ∧ q.W.length = n2 ∧ n2 ≤ c2 ∧ Ik .i64 w' A2 q.W ∧ q.Ch.length = m ∧ m ≤ c3 ∧ Ik .i64 w' A3 (flat q.Ch) ∧ Fr w.heap.size A ∧ Fr w.heap.size A2 ∧ Fr w.heap.size A3 ∧ Below w.heap.size w w'
theorem PO.zero {w w' : World} {r : Ending} {e : Int} (hr : r = .returned (.tuple #[.agg #[.slice none 0 0, .slice none 0 0, .int .i64 0, .int .i64 0, .slice none 0 0], .int .i64 e])) (hb : Below w.heap.size w w') : PO pz e w r w' :=
  ⟨none, 0, 0, none, 0, 0, none, 0, 0, hr, rfl, Nat.le_refl _, Ik.nil _ _ _, rfl, Nat.le_refl _, Ik.nil _ _ _, rfl, Nat.le_refl _, Ik.nil _ _ _, Fr.none _, Fr.none _, Fr.none _, hb⟩
theorem Ik.fr {k : IntKind} {w : World} {A : Option Addr} {l : List Int} {B P : Nat} (h : Ik k w A l) (hA : Fr B A) (hP : P < B) (j : Nat) (u : Value) : Ik k (w.setCell ⟨P, j, none⟩ u) A l :=
  h.set P (fun b o q => by have := hA b o q; omega) j u
theorem Ik.fr5 {k : IntKind} {w : World} {A : Option Addr} {l : List Int} {B P : Nat} (h : Ik k w A l) (hA : Fr B A) (hP : P < B) (v0 v1 v2 v3 v4 : Value) : Ik k (((((w.setCell ⟨P, 0, none⟩ v0).setCell ⟨P, 1, none⟩ v1).setCell ⟨P, 2, none⟩ v2).setCell ⟨P, 3, none⟩ v3).setCell ⟨P, 4, none⟩ v4) A l :=
  ((((h.fr hA hP 0 v0).fr hA hP 1 v1).fr hA hP 2 v2).fr hA hP 3 v3).fr hA hP 4 v4
end Go.Proofs.Ytamajedopofcoaa
