/-
  What a region that only makes memory keeps: all cells that lay below a world's heap. No condition.
-/
import Derived.Test.YtemfjikiopcgpaaSame
import Derived.Deep.RegionHeld3
set_option linter.unusedVariables false
set_option linter.unusedSimpArgs false
namespace Go.Proofs.Ytemfjikiopcgpaa
open Go.RowKit
def Kp (w8 W : World) : Prop := (∀ b o, b < w8.heap.size → W.cell? ⟨b, o, none⟩ = w8.cell? ⟨b, o, none⟩) ∧ Below w8.heap.size w8 W
theorem Kp.mk {w8 W : World} (h : Below w8.heap.size w8 W) : (∀ b o, b < w8.heap.size → W.cell? ⟨b, o, none⟩ = w8.cell? ⟨b, o, none⟩) ∧ Below w8.heap.size w8 W := ⟨fun b o hb => h.cell (p := ⟨b, o, none⟩) hb, h⟩
theorem Kp.next {w8 W W2 : World} (h : (∀ b o, b < w8.heap.size → W.cell? ⟨b, o, none⟩ = w8.cell? ⟨b, o, none⟩) ∧ Below w8.heap.size w8 W) (hb : Below W.heap.size W W2) :
    (∀ b o, b < w8.heap.size → W2.cell? ⟨b, o, none⟩ = w8.cell? ⟨b, o, none⟩) ∧ Below w8.heap.size w8 W2 := Kp.mk (h.2.trans (hb.mono h.2.size))
end Go.Proofs.Ytemfjikiopcgpaa
