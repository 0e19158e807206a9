/-
  The step from a walk to a row, once for this seat: where the call answers true and leaves all old memory as it was, the law's row holds. No condition.
-/
import Derived.Test.YtamajedopofcoaaRows
import Derived.WalkKit
import Derived.ProofKit
import Derived.OpenShut
import Derived.Carry
namespace Go.Proofs.Ytamajedopofcoaa
open Go.ChangeShapes Go.WideShapes Go.ChangeAt Go.RowKit

theorem ownKnobNone : ownKnob Try.prog.godebug = none := by kernel_rfl
theorem laidOut : laidOutB Try.prog = true := by kernel_rfl

theorem trodAll_below {H : Type} {enc : TypeId × Value → H} {P : Program} (hl : laidOutB P = true) {W W' : World} (hb : Below W.heap.size W W') (sp : Nat → Bool) :
    ∀ (ts : List TypeId) (vs : List Value) (ds : List (DataW H)) (ps : List MemPlace), ts.all (fun t => P.readableRec t && decide (t < P.types.size)) = true →
      DataW.TrodAll enc P W 0 (fun _ => true) true ts vs ds ps → (∀ x ∈ ps, x.block < W.heap.size) → (∀ x ∈ ps, sp x.block = true) → DataW.TrodAll enc P W' 0 sp true ts vs ds ps
  | [], [], [], _, _, h, _, _ => h
  | t :: ts, v :: vs, d :: ds, ps, ht, h, hlt, hsp => by
    obtain ⟨p, q, h0, h1, rfl⟩ := h
    simp only [List.all_cons, Bool.and_eq_true, decide_eq_true_eq] at ht
    exact ⟨p, q, WideElems.Trod_stays hl ht.1.1 ht.1.2 h0 (fun x hx => hb.same (hlt x (List.mem_append.2 (.inl hx)))) (fun x hx => hsp x (List.mem_append.2 (.inl hx))),
      trodAll_below hl hb sp ts vs ds q ht.2 h1 (fun x hx => hlt x (List.mem_append.2 (.inr hx))) (fun x hx => hsp x (List.mem_append.2 (.inr hx))), rfl⟩
  | [], _ :: _, _, _, _, h, _, _ => by cases h
  | [], [], _ :: _, _, _, h, _, _ => by cases h
  | _ :: _, [], _, _, _, h, _, _ => by cases h
  | _ :: _, _ :: _, [], _, _, h, _, _ => by cases h

theorem post_true {H : Type} {enc : TypeId × Value → H} {P : Program} {f : Func} {s : ChangeSpec} {W W' : World} {args : Array Value} {ds gs : List (DataW H)} {before : List MemPlace} {bt : TypeId}
    (hl : laidOutB P = true) (hv : s.vars = []) (hts : f.params.toList.all (fun t => P.readableRec t && decide (t < P.types.size)) = true)
    (hrt : f.resultTypes = #[bt]) (hbt : P.underlying bt = some .bool)
    (hsp : (s.fn H ds).results = [.lit (.bool true)] ∧ (s.fn H ds).args = ds ∧ (s.fn H ds).vars = [])
    (hW : DataW.Whole enc P f.params.toList s.vars false W args.toList ds gs before) (hb : Below W.heap.size W W') :
    s.post enc P f false true false false W args (.bool true) W' := by
  have hW0 := hW
  have hlt : ∀ p ∈ before, p.block < W.heap.size := fun p hp => hW.lt p hp
  obtain ⟨p, q, hA, hV, rfl, _, _⟩ := hW
  rw [hv] at hV
  obtain ⟨rfl, rfl⟩ := trodVars_none hV
  rw [List.append_nil] at hW0 hlt
  refine ⟨ds, [], p, [], p, [], hW0, ?_, ?_, ?_, World.keptBut_mono (fun x hx => ⟨hx, Or.inr (Or.inl hx)⟩) (hb.frame (· ∈ p)), fun h => by cases h⟩
  · rw [List.append_nil, hsp.1, hrt]
    exact trodAll_cons_mk (shut_bool hbt _) trodAll_mk0
  · rw [List.append_nil, hsp.2.1]
    exact trodAll_below hl hb _ _ _ _ _ hts hA hlt (fun x hx => by simpa using hlt x hx)
  · rw [List.append_nil, hsp.2.2, hv]
    exact rfl
end Go.Proofs.Ytamajedopofcoaa
