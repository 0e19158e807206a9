/-
  Numbers in memory; the contracts of calibrate's small tests and of their references. No condition but the slices' shape.
-/
import Derived.Test.YtamajedopofcoaaZKit
import Derived.Test.YtamajedopofcoaaZHeld
import Derived.Test.YtamajedopofcoaaZHeld2
import Derived.Laws.CopyOwn
import Derived.Laws.BytesArg
import Derived.IntWalk
set_option linter.unusedVariables false
set_option linter.unusedSimpArgs false
namespace Go.Proofs.Ytamajedopofcoaa
open Go.RowKit
/-- a slice's numbers -/
def Ik (k : IntKind) (w : World) (A : Option Addr) (l : List Int) : Prop := 0 < l.length → ∃ b o, A = some ⟨b, o, none⟩ ∧ b < w.heap.size ∧ ∀ i x, l[i]? = some x → w.cell? ⟨b, o + i, none⟩ = some (.int k x)
/-- the numbers lie in a block of the call's own -/
def Fr (B : Nat) (A : Option Addr) : Prop := ∀ b o, A = some ⟨b, o, none⟩ → B ≤ b
theorem Ik.below {k : IntKind} {w w' : World} {A : Option Addr} {l : List Int} (h : Ik k w A l) (hb : Below w.heap.size w w') : Ik k w' A l := fun h0 => by
  obtain ⟨b, o, rfl, hbl, hc⟩ := h h0
  exact ⟨b, o, rfl, Nat.lt_of_lt_of_le hbl hb.size, fun i x hx => ((bcell hb).1 _ _ hbl).trans (hc i x hx)⟩
theorem Ik.nil (k : IntKind) (w : World) (A : Option Addr) : Ik k w A [] := fun h => absurd h (Nat.lt_irrefl 0)
theorem Ik.set {k : IntKind} {w : World} {A : Option Addr} {l : List Int} (h : Ik k w A l) (P : Nat) (hne : ∀ b o, A = some ⟨b, o, none⟩ → P ≠ b) (j : Nat) (u : Value) : Ik k (w.setCell ⟨P, j, none⟩ u) A l := fun h0 => by
  obtain ⟨b, o, rfl, hbl, hc⟩ := h h0
  exact ⟨b, o, rfl, by simpa using hbl, fun i x hx => (World.cell?_setCell_far _ _ _ _ (hne b o rfl)).trans (hc i x hx)⟩
/-- a part of a slice -/
theorem Ik.sub {k : IntKind} {w : World} {b o : Nat} {l : List Int} (h : Ik k w (some ⟨b, o, none⟩) l) (lo m : Nat) : Ik k w (some ⟨b, o + lo, none⟩) ((l.drop lo).take m) := fun h0 => by
  simp only [List.length_take, List.length_drop] at h0
  obtain ⟨b', o', e, hbl, hc⟩ := h (by omega)
  injection e with e; injection e with e1 e2
  subst e1; subst e2
  refine ⟨b, o + lo, rfl, hbl, fun i x hx => ?_⟩
  rw [List.getElem?_take] at hx
  split at hx
  · rw [List.getElem?_drop] at hx
    rw [Nat.add_assoc]
    exact hc _ x hx
  · cases hx
theorem Ik.at {k : IntKind} {w : World} {b o : Nat} {l : List Int} (h : Ik k w (some ⟨b, o, none⟩) l) (i : Nat) (hi : i < l.length) : w.cell? ⟨b, o + i, none⟩ = some (.int k (l.getD i 0)) ∧ b < w.heap.size := by
  obtain ⟨b', o', e, hbl, hc⟩ := h (by omega)
  injection e with e; injection e with e1 e2
  subst e1; subst e2
  refine ⟨hc i _ ?_, hbl⟩
  simp [List.getD, List.getElem?_eq_getElem hi]
theorem Ik.addr {k : IntKind} {w : World} {A : Option Addr} {l : List Int} (h : Ik k w A l) (h0 : 0 < l.length) : ∃ b o, A = some ⟨b, o, none⟩ ∧ b < w.heap.size := by
  obtain ⟨b, o, e, hbl, _⟩ := h h0
  exact ⟨b, o, e, hbl⟩
theorem Ik.news {k : IntKind} {w : World} {b o : Nat} {l : List Int} (h : Ik k w (some ⟨b, o, none⟩) l) : ∀ j v, (l.map (Value.int k))[j]? = some v → w.cell? ((⟨b, o, none⟩ : Addr).add j) = some v := by
  intro j v hj
  rw [WideShapes.add_plain]
  rw [List.getElem?_map] at hj
  obtain ⟨x, hx, rfl⟩ := Option.map_eq_some_iff.1 hj
  have hlt : j < l.length := (List.getElem?_eq_some_iff.1 hx).1
  obtain ⟨b', o', e, _, hc⟩ := h (by omega)
  injection e with e; injection e with e1 e2
  subst e1; subst e2
  exact hc j x hx
theorem one_int (k : IntKind) (l : List Int) : ∀ v ∈ l.map (Value.int k), v.oneCell' = true := by
  intro v hv
  obtain ⟨x, _, rfl⟩ := List.mem_map.1 hv
  rfl
theorem fr_at {B g : Nat} (h : B ≤ g) : Fr B (some ⟨g, 0, none⟩) := fun b o q => by injection q with q; injection q with q _; omega
theorem fr_le {B C : Nat} {A : Option Addr} (h : Fr B A) (hc : C ≤ B) : Fr C A := fun b o q => Nat.le_trans hc (h b o q)
theorem Fr.none (B : Nat) : Fr B none := fun b o e => by cases e
/-- patches, one number behind the other -/
def flat (ch : List (Int × Int)) : List Int := ch.flatMap fun p => [p.1, p.2]
theorem flat_len (ch : List (Int × Int)) : (flat ch).length = 2 * ch.length := by
  induction ch with
  | nil => rfl
  | cons p ch ih => simp only [flat, List.flatMap_cons, List.length_append, List.length_cons, List.length_nil] at ih ⊢; omega
theorem flat_append (a b : List (Int × Int)) : flat (a ++ b) = flat a ++ flat b := by simp [flat]
theorem flat_get (ch : List (Int × Int)) : ∀ (i : Nat) (p : Int × Int), ch[i]? = some p → (flat ch)[i * 2]? = some p.1 ∧ (flat ch)[i * 2 + 1]? = some p.2 := by
  induction ch with
  | nil => intro i p h; simp at h
  | cons q ch ih =>
    intro i p h
    cases i with
    | zero =>
      simp only [List.getElem?_cons_zero, Option.some.injEq] at h
      subst h
      exact ⟨rfl, rfl⟩
    | succ i =>
      simp only [List.getElem?_cons_succ] at h
      obtain ⟨h1, h2⟩ := ih i p h
      have e : flat (q :: ch) = q.1 :: q.2 :: flat ch := rfl
      rw [e, show (i + 1) * 2 = i * 2 + 1 + 1 by omega]
      simpa using ⟨h1, h2⟩
/-- a parameter -/
def parB (x : Int) : Bool := decide (-1099511627776 ≤ x) && decide (x ≤ 1099511627776)
theorem parB_t {x : Int} (h : parB x = true) : -1099511627776 ≤ x ∧ x ≤ 1099511627776 := by simpa [parB] using h
theorem param34 (x : Int) (w : World) : Calls Try.prog 34 #[.int .i64 x] w fun r w' => r = .returned (.bool (parB x)) ∧ w = w' := by
  go_enter Try.func34, Try.ntmps34
  go_wp2
  all_goals
    first
    | (exfalso; omega)
    | (go_ret; refine ⟨ret_bool ?_, rfl⟩; rw [Bool.eq_iff_iff]; simp [parB] <;> omega)
theorem param35 (x : Int) (w : World) : Calls Try.prog 35 #[.int .i64 x] w fun r w' => r = .returned (.bool (parB x)) ∧ w = w' := by
  go_enter Try.func35, Try.ntmps35
  go_wp2
  all_goals
    first
    | (exfalso; omega)
    | (go_ret; refine ⟨ret_bool ?_, rfl⟩; rw [Bool.eq_iff_iff]; simp [parB] <;> omega)
theorem list44 (x : Int) (w : World) : Calls Try.prog 44 #[.int .i64 x] w fun r w' => r = .returned (.bool (!parB x)) ∧ w = w' := by
  have M := fun w => param34 x w
  generalize parB x = b at M ⊢
  replace M := Lib.hid M
  go_enter Try.func44, Try.ntmps44
  go_wp2_with fail
  refine (M.out _).mono ?_
  rintro r w1 ⟨rfl, rfl⟩
  go_wp2
  go_ret
  exact ⟨rfl, rfl⟩
def allP (l : List Int) : Bool := l.all parB
theorem allP_t {l : List Int} (h : ∀ i, i < l.length → parB (l.getD i 0) = true) : allP l = true := by
  unfold allP
  rw [List.all_eq_true]
  intro x hx
  obtain ⟨i, hi, rfl⟩ := List.mem_iff_getElem.1 hx
  have := h i hi
  simpa [List.getD, List.getElem?_eq_getElem hi] using this
theorem allP_f {l : List Int} {i : Nat} (hi : i < l.length) (h : parB (l.getD i 0) = false) : allP l = false := by
  unfold allP
  rw [List.all_eq_false]
  refine ⟨l.getD i 0, ?_, by rw [h]; decide⟩
  have : l.getD i 0 = l[i] := by simp [List.getD, List.getElem?_eq_getElem hi]
  rw [this]; exact List.getElem_mem hi
set_option maxRecDepth 100000 in
set_option maxHeartbeats 4000000 in
theorem index61 (A : Option Addr) (n c : Nat) (l : List Int) (w : World) (hl : l.length = n) (hb : Ik .i64 w A l) (hn : n ≤ 1000000) (hc : n ≤ c) :
    Calls Try.prog 61 #[.slice A n c, .func (.func 44) #[] #[]] w fun r w' => ∃ v : Int, r = .returned (.int .i64 v) ∧ decide (0 ≤ v) = !allP l ∧ w = w' := by
  have HL := Lib.hid hl
  have HB := Lib.hid hb
  clear hl hb
  go_enter Try.func61, Try.ntmps61
  go_wp2_with fail
  go_loopg [8] n (fun gk v wr => ∃ i : Nat, i ≤ n ∧ n - i ≤ gk ∧ v = .int .i64 i ∧ Hid (∀ j, j < i → parB (l.getD j 0) = true) ∧ wr = w)
  case atStart => exact ⟨0, by omega, by omega, rfl, Lib.hid (fun j h => by omega), rfl⟩
  case round =>
    obtain ⟨i, hi, hgk, rfl, HA, rfl⟩ := hrel
    by_cases hlt : i < n
    · obtain ⟨b, o, rfl, hbl⟩ := HB.out.addr (by rw [HL.out]; omega)
      obtain ⟨q1, hbl2⟩ := HB.out.at i (by rw [HL.out]; exact hlt)
      obtain ⟨x, hx⟩ : ∃ x, x = l.getD i 0 := ⟨_, rfl⟩
      rw [← hx] at q1
      have K := fun w => list44 x w
      cases hp : parB x
      · rw [hp] at K
        replace K := Lib.hid K
        have HP := Lib.hid hp
        have HX := Lib.hid hx
        clear hp hx
        go_wp2_with fail
        refine (K.out _).mono ?_
        rintro r w1 ⟨rfl, rfl⟩
        go_wp2
        go_ret
        exact ⟨i, rfl, by rw [allP_f (i := i) (by rw [HL.out]; exact hlt) (by rw [← HX.out]; exact HP.out)]; simp, rfl⟩
      · rw [hp] at K
        replace K := Lib.hid K
        have HP := Lib.hid hp
        have HX := Lib.hid hx
        clear hp hx
        go_wp2_with fail
        refine (K.out _).mono ?_
        rintro r w1 ⟨rfl, rfl⟩
        go_wp2_with fail
        go_roundg (n - (i + 1))
        case measure => omega
        case rel =>
          refine ⟨i + 1, by omega, by omega, by go_num, Lib.hid (fun j h => ?_), rfl⟩
          by_cases hj : j = i
          · rw [hj, ← HX.out]; exact HP.out
          · exact HA.out j (by omega)
    · obtain rfl : i = n := by omega
      go_wp2
      go_ret
      exact ⟨-1, rfl, by rw [allP_t (fun j h => HA.out j (by rw [HL.out] at h; exact h))]; rfl, rfl⟩
theorem cont43 (A : Option Addr) (n c : Nat) (l : List Int) (w : World) (hl : l.length = n) (hb : Ik .i64 w A l) (hn : n ≤ 1000000) (hc : n ≤ c) :
    Calls Try.prog 43 #[.slice A n c, .func (.func 44) #[] #[]] w fun r w' => r = .returned (.bool (!allP l)) ∧ w = w' := by
  have K := fun w h => index61 A n c l w hl h hn hc
  replace K := Lib.hid K
  have HB := Lib.hid hb
  clear hl hb
  go_enter Try.func43, Try.ntmps43
  go_wp2_with fail
  refine (K.out _ HB.out).mono ?_
  rintro r w1 ⟨v, rfl, hv, rfl⟩
  have HV := Lib.hid hv
  clear hv
  go_wp2
  go_ret
  exact ⟨ret_bool HV.out, rfl⟩
def listB (l : List Int) : Bool := decide (1 ≤ l.length) && decide (l.length ≤ 1000) && allP l
set_option maxRecDepth 100000 in
theorem list29 (A : Option Addr) (n c : Nat) (l : List Int) (w : World) (hl : l.length = n) (hb : Ik .i64 w A l) (hc : n ≤ c) :
    Calls Try.prog 29 #[.slice A n c] w fun r w' => r = .returned (.bool (listB l)) ∧ w = w' := by
  have HL := Lib.hid hl
  have HB := Lib.hid hb
  by_cases h1 : 1 ≤ n
  · by_cases h2 : n ≤ 1000
    · have K := fun w h => cont43 A n c l w hl h (by omega) hc
      replace K := Lib.hid K
      have d1 : decide ((1 : Int) ≤ (n : Int)) = true := by simp; omega
      have d2 : decide ((n : Int) ≤ 1000) = true := by simp; omega
      have e : listB l = allP l := by unfold listB; rw [hl]; simp [h1, h2]
      rw [e]
      clear hl hb e
      go_enter Try.func29, Try.ntmps29
      go_wp2_with fail
      refine (K.out _ HB.out).mono ?_
      rintro r w1 ⟨rfl, rfl⟩
      go_wp2
      go_ret
      exact ⟨by simp, rfl⟩
    · have d1 : decide ((1 : Int) ≤ (n : Int)) = true := by simp; omega
      have d2 : decide ((n : Int) ≤ 1000) = false := by simp; omega
      have e : listB l = false := by unfold listB; rw [hl]; simp [h2]
      rw [e]
      clear hl hb e
      go_enter Try.func29, Try.ntmps29
      go_wp2
      go_ret
      exact ⟨rfl, rfl⟩
  · have d1 : decide ((1 : Int) ≤ (n : Int)) = false := by simp; omega
    have e : listB l = false := by unfold listB; rw [hl]; simp [h1]
    rw [e]
    clear hl hb e
    go_enter Try.func29, Try.ntmps29
    go_wp2
    go_ret
    exact ⟨rfl, rfl⟩
end Go.Proofs.Ytamajedopofcoaa
