/-
  A law on regions that draw their order: what reads before operation number k (a call) may be taken first, whatever is written behind k. No condition.
-/
import Derived.Deep.RegionHeld3
import Derived.WalkKit
namespace Go.Proofs.Ytamajedopofcoaa
open Go
section
variable {P : Program} {ops : Array Oper} {Q : Exit → Act → World → Prop} {md : Region.Mode} {S : World → Prop} {k : Nat}
/-- whatever order is picked from here on, and S holds behind every operation up to number k -/
def AnyK (P : Program) (md : Region.Mode) (ops : Array Oper) (Q : Exit → Act → World → Prop) (S : World → Prop) (k : Nat) : Nat → Array Bool → Act → World → Prop
  | 0, l, a, w => Region.ready md ops l = [] ∧ Q .normal a w
  | n + 1, l, a, w => (Region.ready md ops l = [] → Q .normal a w) ∧
    ∀ i ∈ Region.ready md ops l, wpOp P ops Q i (fun a' w' => ((l.setIfInBounds i true).getD k false = false → S w') ∧ AnyK P md ops Q S k n (l.setIfInBounds i true) a' w') a w
theorem any_of_K : ∀ (n : Nat) (l : Array Bool) (a : Act) (w : World), AnyK P md ops Q S k n l a w → wpAny P md ops Q n l a w
  | 0, _, _, _, h => h
  | n + 1, _, _, _, h => ⟨h.1, fun i hi => wpOp_mono (fun a' w' h' => any_of_K n _ a' w' h'.2) (h.2 i hi)⟩
/-- once k has come up nothing is asked of the worlds -/
theorem K_of_any : ∀ (n : Nat) (l : Array Bool) (a : Act) (w : World), l.getD k false = true → wpAny P md ops Q n l a w → AnyK P md ops Q S k n l a w
  | 0, _, _, _, _, h => h
  | n + 1, _, _, _, hk, h => ⟨h.1, fun i hi => wpOp_mono (fun a' w' h' => ⟨fun h0 => (by rw [getD_set_true hk] at h0; cases h0), K_of_any n _ a' w' (getD_set_true hk) h'⟩) (h.2 i hi)⟩
/-- what has come up has what it waits for behind it -/
def Closed (md : Region.Mode) (ops : Array Oper) (l : Array Bool) : Prop := ∀ (j : Nat) (o : Oper), ops[j]? = some o → l.getD j false = true → ∀ e ∈ o.after, Region.binds md e = true → l.getD e.on false = true
def closedB (md : Region.Mode) (ops : Array Oper) (l : Array Bool) : Bool :=
  (List.range ops.size).all fun j => match ops[j]? with | some o => !l.getD j false || o.after.all (fun e => !Region.binds md e || l.getD e.on false) | none => true
theorem closed_of {l : Array Bool} (h : closedB md ops l = true) : Closed md ops l := by
  intro j o ho hj e he hb
  have hlt : j < ops.size := (Array.getElem?_eq_some_iff.1 ho).1
  have h1 := List.all_eq_true.1 h j (List.mem_range.2 hlt)
  simp only [ho, hj, Bool.not_true, Bool.false_or] at h1
  have h2 := (Array.all_eq_true'.1 h1) e he
  simpa [hb] using h2
theorem Closed.set {l : Array Bool} {i : Nat} (h : Closed md ops l) (hi : i ∈ Region.ready md ops l) : Closed md ops (l.setIfInBounds i true) := by
  intro j o ho hj e he hb
  obtain ⟨_, o', ho', hall⟩ := mem_ready.1 hi
  by_cases hij : i = j
  · subst hij
    have : o = o' := Option.some.inj (ho.symm.trans ho')
    subst this
    exact getD_set_true (hall e he hb)
  · rw [getD_set_ne false hij] at hj
    exact getD_set_true (h j o ho hj e he hb)
/-- k waits for i, at last -/
def reachB (md : Region.Mode) (ops : Array Oper) (i : Nat) : Nat → Nat → Bool
  | 0, _ => false
  | n + 1, k => match ops[k]? with | some o => o.after.any (fun e => Region.binds md e && (e.on == i || reachB md ops i n e.on)) | none => false
theorem reach_listed {l : Array Bool} (hc : Closed md ops l) {i : Nat} : ∀ (n k : Nat), reachB md ops i n k = true → l.getD k false = true → l.getD i false = true
  | 0, _, h, _ => by cases h
  | n + 1, k, h, hk => by
    unfold reachB at h
    split at h
    · rename_i o ho
      obtain ⟨e, he, hb⟩ := Array.any_eq_true'.1 h
      simp only [Bool.and_eq_true, Bool.or_eq_true, beq_iff_eq] at hb
      have h1 := hc k o ho hk e he hb.1
      rcases hb.2 with rfl | h2
      · exact h1
      · exact reach_listed hc n e.on h2 h1
    · cases h
theorem reach_ready {l : Array Bool} (hc : Closed md ops l) {i n : Nat} (h : reachB md ops i n k = true) (hk : k ∈ Region.ready md ops l) : l.getD i false = true := by
  cases n with
  | zero => cases h
  | succ n =>
    obtain ⟨_, o, ho, hall⟩ := mem_ready.1 hk
    simp only [reachB, ho] at h
    obtain ⟨e, he, hb⟩ := Array.any_eq_true'.1 h
    simp only [Bool.and_eq_true, Bool.or_eq_true, beq_iff_eq] at hb
    have h1 := hall e he hb.1
    rcases hb.2 with rfl | h2
    · exact h1
    · exact reach_listed hc n e.on h2 h1
theorem getD_both' {l : Array Bool} {i : Nat} (h : l.getD i true = false) : l.getD i false = false := by
  rcases Nat.lt_or_ge i l.size with h' | h'
  · simp [h'] at h ⊢; exact h
  · simp [Array.getElem?_eq_none h'] at h
theorem K_first {i : Nat} {oi : Oper} {v : Value} {m : Nat} (hi : ops[i]? = some oi) (hsel : ∀ (j : Nat) (o : Oper) cs b, ops[j]? = some o → o.op ≠ .select cs b)
    (hQ : ∀ c a w, Q (.panic c) (a.put oi.dst v) w → Q (.panic c) a w) (hr' : reachB md ops i m k = true) (hik : i ≠ k) :
    ∀ (fuel : Nat) (l : Array Bool) (a : Act) (w : World),
      (∀ j oj, ops[j]? = some oj → j ≠ i → l.getD j true = false → (∀ e ∈ oj.after, Region.binds md e = true → e.on ≠ i) → oi.apart ops oj = true) →
      i ∈ Region.ready md ops l → Closed md ops l → l.getD k false = false → YieldsIf P ops S oi v a → S w →
      AnyK P md ops Q S k fuel (l.setIfInBounds i true) (a.put oi.dst v) w → AnyK P md ops Q S k (fuel + 1) l a w := by
  intro fuel
  induction fuel with
  | zero =>
    intro l a w _ hr _ hk hy hS H
    refine ⟨fun h => (by rw [h] at hr; cases hr), fun j hj => ?_⟩
    by_cases hji : j = i
    · subst hji; exact hy.wpOp hi hS ⟨fun _ => hS, H⟩
    · have := ready_mono hj hji
      rw [H.1] at this
      cases this
  | succ fuel ih =>
    intro l a w hfree hr hc hk hy hS H
    refine ⟨fun h => (by rw [h] at hr; cases hr), fun j hj => ?_⟩
    by_cases hji : j = i
    · subst hji; exact hy.wpOp hi hS ⟨fun _ => hS, H⟩
    · have h1 := H.2 j (ready_mono hj hji)
      obtain ⟨hjun, oj, hoj, hall⟩ := mem_ready.1 hj
      have hiun := (mem_ready.1 hr).1
      have hjk : j ≠ k := fun e => by
        subst e
        have h2 := reach_ready hc hr' hj
        rw [getD_both' hiun] at h2
        cases h2
      have hnot : ∀ e ∈ oj.after, Region.binds md e = true → e.on ≠ i := fun e he hb heq => by
        have h1 := hall e he hb
        rw [heq, getD_both' hiun] at h1
        cases h1
      have h2 := wpOp_putIf hoj (hfree j oj hoj hji hjun hnot) (fun cs b => hsel i oi cs b hi) (fun cs b => hsel j oj cs b hoj) hQ hy h1
      have hfree' : ∀ q ok, ops[q]? = some ok → q ≠ i → (l.setIfInBounds j true).getD q true = false →
          (∀ e ∈ ok.after, Region.binds md e = true → e.on ≠ i) → oi.apart ops ok = true := fun q ok hq hqi hun hno => by
        refine hfree q ok hq hqi ?_ hno
        by_cases hjq : j = q
        · subst hjq; exact hjun
        · rw [getD_set_ne true hjq] at hun; exact hun
      have hkj : (l.setIfInBounds j true).getD k false = false := by rw [getD_set_ne false hjk]; exact hk
      refine wpOp_mono (fun a' w' h3 => ?_) h2
      have hS' : S w' := h3.2.1 (by rw [getD_set_ne false hjk, getD_set_ne false hik]; exact hk)
      refine ⟨fun _ => hS', ih (l.setIfInBounds j true) a' w' hfree' (ready_mono hr (Ne.symm hji)) (hc.set hj) hkj h3.1 hS' ?_⟩
      rw [Array.setIfInBounds_comm _ _ hji]
      exact h3.2.2
/-- take number i first -/
theorem K_take {i : Nat} {oi : Oper} {v : Value} {fuel : Nat} {l : Array Bool} {a : Act} {w : World} (hi : ops[i]? = some oi)
    (hs : Region.noSelect ops = true) (hf : Region.free md ops l i = true) (hr : (Region.ready md ops l).contains i = true) (hc : closedB md ops l = true)
    (hrk : (reachB md ops i ops.size k && !(i == k) && !l.getD k false) = true)
    (hQ : ∀ c a w, Q (.panic c) (a.put oi.dst v) w → Q (.panic c) a w) (hy : YieldsIf P ops S oi v a) (hS : S w)
    (h : AnyK P md ops Q S k fuel (l.setIfInBounds i true) (a.put oi.dst v) w) : AnyK P md ops Q S k (fuel + 1) l a w := by
  simp only [Bool.and_eq_true, Bool.not_eq_true', beq_eq_false_iff_ne] at hrk
  exact K_first hi (Region.noSelect_spec hs) hQ hrk.1.1 hrk.1.2 fuel l a w (Region.free_spec hi hf) (by simpa using hr) (closed_of hc) hrk.2 hy hS h
/-- what yields its value in whatever world may be taken first, too -/
theorem K_first' {i : Nat} {oi : Oper} {v : Value} (hi : ops[i]? = some oi) (hsel : ∀ (j : Nat) (o : Oper) cs b, ops[j]? = some o → o.op ≠ .select cs b)
    (hQ : ∀ c a w, Q (.panic c) (a.put oi.dst v) w → Q (.panic c) a w) (hik : i ≠ k) :
    ∀ (fuel : Nat) (l : Array Bool) (a : Act) (w : World),
      (∀ j oj, ops[j]? = some oj → j ≠ i → l.getD j true = false → (∀ e ∈ oj.after, Region.binds md e = true → e.on ≠ i) → oi.apart ops oj = true) →
      i ∈ Region.ready md ops l → YieldsIf P ops (fun _ => True) oi v a → (l.getD k false = false → S w) →
      AnyK P md ops Q S k fuel (l.setIfInBounds i true) (a.put oi.dst v) w → AnyK P md ops Q S k (fuel + 1) l a w := by
  intro fuel
  induction fuel with
  | zero =>
    intro l a w _ hr hy hS H
    refine ⟨fun h => (by rw [h] at hr; cases hr), fun j hj => ?_⟩
    by_cases hji : j = i
    · subst hji; exact hy.wpOp hi trivial ⟨fun h0 => hS (by rw [getD_set_ne false hik] at h0; exact h0), H⟩
    · have := ready_mono hj hji
      rw [H.1] at this
      cases this
  | succ fuel ih =>
    intro l a w hfree hr hy hS H
    refine ⟨fun h => (by rw [h] at hr; cases hr), fun j hj => ?_⟩
    by_cases hji : j = i
    · subst hji; exact hy.wpOp hi trivial ⟨fun h0 => hS (by rw [getD_set_ne false hik] at h0; exact h0), H⟩
    · have h1 := H.2 j (ready_mono hj hji)
      obtain ⟨hjun, oj, hoj, hall⟩ := mem_ready.1 hj
      have hiun := (mem_ready.1 hr).1
      have hnot : ∀ e ∈ oj.after, Region.binds md e = true → e.on ≠ i := fun e he hb heq => by
        have h1 := hall e he hb
        rw [heq, getD_both' hiun] at h1
        cases h1
      have h2 := wpOp_putIf hoj (hfree j oj hoj hji hjun hnot) (fun cs b => hsel i oi cs b hi) (fun cs b => hsel j oj cs b hoj) hQ hy h1
      have hfree' : ∀ q ok, ops[q]? = some ok → q ≠ i → (l.setIfInBounds j true).getD q true = false →
          (∀ e ∈ ok.after, Region.binds md e = true → e.on ≠ i) → oi.apart ops ok = true := fun q ok hq hqi hun hno => by
        refine hfree q ok hq hqi ?_ hno
        by_cases hjq : j = q
        · subst hjq; exact hjun
        · rw [getD_set_ne true hjq] at hun; exact hun
      refine wpOp_mono (fun a' w' h3 => ?_) h2
      have hS' : (l.setIfInBounds j true).getD k false = false → S w' := fun h0 => h3.2.1 (by rw [Array.setIfInBounds_comm _ _ (Ne.symm hji), getD_set_ne false hik]; exact h0)
      refine ⟨hS', ih (l.setIfInBounds j true) a' w' hfree' (ready_mono hr (Ne.symm hji)) h3.1 hS' ?_⟩
      rw [Array.setIfInBounds_comm _ _ hji]
      exact h3.2.2
theorem K_take' {i : Nat} {oi : Oper} {v : Value} {fuel : Nat} {l : Array Bool} {a : Act} {w : World} (hi : ops[i]? = some oi)
    (hs : Region.noSelect ops = true) (hf : Region.free md ops l i = true) (hr : (Region.ready md ops l).contains i = true) (hik : (i == k) = false)
    (hQ : ∀ c a w, Q (.panic c) (a.put oi.dst v) w → Q (.panic c) a w) (hy : YieldsIf P ops (fun _ => True) oi v a) (hS : S w)
    (h : AnyK P md ops Q S k fuel (l.setIfInBounds i true) (a.put oi.dst v) w) : AnyK P md ops Q S k (fuel + 1) l a w :=
  K_first' hi (Region.noSelect_spec hs) hQ (by simpa using hik) fuel l a w (Region.free_spec hi hf) (by simpa using hr) hy (fun _ => hS) h
/-- number k alone may come up: behind it nothing is asked of the worlds -/
theorem K_step {o : Oper} {fuel : Nat} {l : Array Bool} {a : Act} {w : World} (hr : Region.ready md ops l = [k]) (hl : (l.setIfInBounds k true).getD k false = true) (ho : ops[k]? = some o)
    (h : ∀ K' : Act → World → Prop, Shut (∀ a w, wpAny P md ops Q fuel (l.setIfInBounds k true) a w → K' a w) → if Region.wanted o (yielded ops a.tmps) = true then Oper.wp P o a w K' Q else K' (a.put o.dst undef) w) : AnyK P md ops Q S k (fuel + 1) l a w := by
  refine ⟨fun h0 => (by rw [h0] at hr; cases hr), fun i hi => ?_⟩
  rw [hr] at hi
  obtain rfl : i = k := by simpa using hi
  exact wpOp_step ho (fun K' hK => h K' (fun a w hW => hK a w ⟨fun h0 => (by rw [hl] at h0; cases h0), K_of_any _ _ _ _ hl hW⟩))
theorem region_K {id : Nat} {a : Act} {w : World} (S : World → Prop) (k : Nat) (hm : P.follows .mixedOrders = true) (hS : S w.drew)
    (h : S w.drew → AnyK P .any ops Q S k ops.size (Array.replicate ops.size false) a w.drew) : (Code.region id ops true).wp P Q a w :=
  wp_region_any hm (any_of_K _ _ _ _ (h hS))
end
end Go.Proofs.Ytamajedopofcoaa
