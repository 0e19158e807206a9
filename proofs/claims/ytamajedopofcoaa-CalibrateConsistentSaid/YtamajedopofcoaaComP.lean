/-
  Changes made to a working page, in plain terms and in memory. No condition.
-/
import Derived.Test.YtamajedopofcoaaRea
set_option linter.unusedVariables false
set_option linter.unusedSimpArgs false
namespace Go.Proofs.Ytamajedopofcoaa
open Go.RowKit
/-- the working page with all changes made -/
def apC (W : List Int) (ch : List (Int × Int)) : List Int := ch.foldl (fun W c => W.set c.1.toNat c.2) W
theorem apC_take {W : List Int} {ch : List (Int × Int)} {k : Nat} {p : Int × Int} (h : ch[k]? = some p) : apC W (ch.take (k + 1)) = (apC W (ch.take k)).set p.1.toNat p.2 := by
  unfold apC
  rw [List.take_add_one, h]
  simp
theorem apC_len (W : List Int) (ch : List (Int × Int)) : (apC W ch).length = W.length := by
  unfold apC
  induction ch generalizing W with
  | nil => rfl
  | cons c ch ih => simp only [List.foldl_cons]; rw [ih]; simp
theorem allC_at {n : Nat} {ch : List (Int × Int)} (h : allC n ch = true) {k : Nat} {p : Int × Int} (hp : ch[k]? = some p) : 0 ≤ p.1 ∧ p.1 < n ∧ parB p.2 = true := by
  unfold allC at h
  rw [List.all_eq_true] at h
  have := h p (List.mem_of_getElem? hp)
  unfold chB at this
  simp only [Bool.and_eq_true, decide_eq_true_eq] at this
  exact ⟨this.1.1, this.1.2, this.2⟩
/-- the cells of a row that the call has made are not frozen -/
theorem own_cl {w : World} {base g n cap size : Nat} {e : TypeId} {xs : List Value} (h : w.ownsRow base e size (.slice (some ⟨g, 0, none⟩) n cap) n xs) (h0 : 0 < n) : Cl g w xs := by
  rcases h.2 with ⟨hv, _⟩ | ⟨g', cap', cur, hv, _, hh, _⟩
  · cases hv
  · injection hv with hv; injection hv with hv; injection hv with hv
    subst hv
    obtain ⟨g2, c2, hv2, _, hlt, _, _, hc⟩ := own_form h h0
    injection hv2 with hv2; injection hv2 with hv2; injection hv2 with hv2
    subst hv2
    refine ⟨hlt, fun j v e => ⟨hc j v e, ?_⟩⟩
    simp only [World.frozen?, hh]
    simp
theorem Cl.ik {w : World} {g : Nat} {l : List Int} (h : Cl g w (l.map (Value.int .i64))) : Ik .i64 w (some ⟨g, 0, none⟩) l := fun _ => by
  refine ⟨g, 0, rfl, h.1, fun i x hx => ?_⟩
  rw [Nat.zero_add]
  exact (h.2 i _ (by simp [hx])).1
theorem Cl.seti {w : World} {g : Nat} {l : List Int} (h : Cl g w (l.map (Value.int .i64))) (i : Nat) (x : Int) : Cl g (w.setCell ⟨g, i, none⟩ (.int .i64 x)) ((l.set i x).map (Value.int .i64)) := by
  rw [List.map_set]
  exact h.set i _
end Go.Proofs.Ytamajedopofcoaa
