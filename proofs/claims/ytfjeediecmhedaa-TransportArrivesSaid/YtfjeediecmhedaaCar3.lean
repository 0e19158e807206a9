/-
  The contract of Carry. No condition but the slice's shape.
-/
import Derived.Test.YtfjeediecmhedaaCar2
set_option linter.unusedVariables false
set_option linter.unusedSimpArgs false
namespace Go.Proofs.Ytfjeediecmhedaa
open Go.RowKit
/-- a slice of frames and no error -/
def CP (fs : List (List Int)) (w : World) (r : Ending) (w' : World) : Prop :=
  ∃ g m d xs, r = .returned (.tuple #[.slice (some ⟨g, 0, none⟩) m d, .int .i64 0]) ∧ m = fs.length ∧ m ≤ d ∧ w.heap.size ≤ g ∧ g < w'.heap.size ∧ (∀ j u, xs[j]? = some u → w'.cell? ⟨g, j, none⟩ = some u) ∧ Rw w' (fun b => w.heap.size ≤ b) xs fs ∧ Below w.heap.size w w'
theorem SS.eta {s : SS} {l : List Int} (h : s.l = l) : s = ⟨l, s.At, s.Nu, s.Bl, s.Se, s.Wt, s.Gp, s.Dl, s.Fl⟩ := by subst h; rfl
theorem time_of {l : List Int} {b g : Int} {k : Nat} {s : SS} (h : Inv l b g k s) : timeB s.Dl = true := by
  obtain ⟨_, hok, _, hd, _⟩ := h
  obtain ⟨_, _, _, _, _, _, _, _, _, _, _, D0, _⟩ := ok_gen hok
  exact inB_mk D0 (by omega)
theorem ok_of {l : List Int} {b g : Int} {k n : Nat} {s : SS} (h : Inv l b g k s) (hl : l.length = n) : vS n s.At s.Nu s.Bl s.Se s.Wt s.Gp s.Dl s.Fl = true := by
  obtain ⟨e, hok, _⟩ := h
  have := hok
  unfold SS.ok at this
  rw [e, hl] at this
  exact this
set_option maxRecDepth 100000 in
set_option maxHeartbeats 16000000 in
theorem carry12_arg (A : Option Addr) (n c : Nat) (b g : Int) (l : List Int) (w : World) (hl : l.length = n) (hb : Bt w A l) (hc : n ≤ c) (hm : msgB n = false) : Calls Try.prog 12 #[.slice A n c, .int .i64 b, .int .i64 g] w fun r w' => r = .returned (.tuple #[.slice none 0 0, .int .i64 1]) ∧ Below w.heap.size w w' := by
  have K := fun w h => send19 A n c l 0 w hl h hc
  replace K := Lib.hid K
  have HM := Lib.hid hm
  have HB := Lib.hid hb
  clear hb hl hm
  go_enter Try.func12, Try.ntmps12
  go_wp2_with fail
  refine (K.out _ HB.out).mono ?_
  rintro x w1 (⟨_, h⟩ | ⟨h, _⟩ | ⟨h, _⟩ | ⟨h, _⟩)
  rotate_left 1
  · rw [HM.out] at h; cases h
  · rw [HM.out] at h; cases h
  · rw [HM.out] at h; cases h
  obtain ⟨A1, c1, B1, m1, d1, rfl, _, _, _, hm1, _, _, _, hb1⟩ := h
  obtain rfl : m1 = 0 := hm1
  have hz := hb1.size
  go_wp2
  refine bodyPost_ret (v := .tuple #[.slice none 0 0, .int .i64 1]) (by simp [results, Try.results12, go_sem] <;> first | rfl | ((repeat' apply And.intro) <;> rfl)) rfl ⟨rfl, hb1.alloc hz _⟩
set_option maxRecDepth 100000 in
set_option maxHeartbeats 16000000 in
theorem carry12_range (A : Option Addr) (n c : Nat) (b g : Int) (l : List Int) (w : World) (hl : l.length = n) (hb : Bt w A l) (hc : n ≤ c) (hm : msgB n = true) (hr : b < 0 ∨ 255 < b ∨ g < 0 ∨ 127 < g) : Calls Try.prog 12 #[.slice A n c, .int .i64 b, .int .i64 g] w fun r w' => r = .returned (.tuple #[.slice none 0 0, .int .i64 2]) ∧ Below w.heap.size w w' := by
  obtain ⟨s0, fr0, K, hI, hfr0, hall⟩ := send12 A n c l b g hl hc hm
  replace K := Lib.hid K
  have HI := Lib.hid hI
  have HALL := Lib.hid hall
  have HFR := Lib.hid hfr0
  have HL := Lib.hid hl
  have HB := Lib.hid hb
  obtain ⟨m0, m1⟩ : 1 ≤ n ∧ n ≤ 1023 := by simpa [msgB] using hm
  have h4 : (b < 0) ∨ (0 ≤ b ∧ 255 < b) ∨ (0 ≤ b ∧ b ≤ 255 ∧ g < 0) ∨ (0 ≤ b ∧ b ≤ 255 ∧ 0 ≤ g ∧ 127 < g) := by omega
  have H4 := Lib.hid h4
  clear hb hl hm hI hall hfr0 hr h4
  go_enter Try.func12, Try.ntmps12
  go_wp2_with fail
  refine (K.out _ HB.out).mono ?_
  rintro x w1 ⟨A1, n1, c1, B1, q1, d1, rfl, _, _, _, _, _, _, _, _, hb1⟩
  have hz := hb1.size
  rcases H4.out with h | ⟨h1, h⟩ | ⟨h1, h2, h⟩ | ⟨h1, h2, h3, h⟩
  · have d0 : decide (b < 0) = true := by simp; omega
    go_wp2
    refine bodyPost_ret (v := .tuple #[.slice none 0 0, .int .i64 2]) (by simp [results, Try.results12, go_sem] <;> first | rfl | ((repeat' apply And.intro) <;> rfl)) rfl ⟨rfl, hb1.alloc hz _⟩
  · have d0 : decide (b < 0) = false := by simp; omega
    have d1 : decide (255 < b) = true := by simp; omega
    go_wp2
    refine bodyPost_ret (v := .tuple #[.slice none 0 0, .int .i64 2]) (by simp [results, Try.results12, go_sem] <;> first | rfl | ((repeat' apply And.intro) <;> rfl)) rfl ⟨rfl, hb1.alloc hz _⟩
  · have d0 : decide (b < 0) = false := by simp; omega
    have d1 : decide (255 < b) = false := by simp; omega
    have d2 : decide (g < 0) = true := by simp; omega
    go_wp2
    refine bodyPost_ret (v := .tuple #[.slice none 0 0, .int .i64 2]) (by simp [results, Try.results12, go_sem] <;> first | rfl | ((repeat' apply And.intro) <;> rfl)) rfl ⟨rfl, hb1.alloc hz _⟩
  · have d0 : decide (b < 0) = false := by simp; omega
    have d1 : decide (255 < b) = false := by simp; omega
    have d2 : decide (g < 0) = false := by simp; omega
    have d3 : decide (127 < g) = true := by simp; omega
    go_wp2
    refine bodyPost_ret (v := .tuple #[.slice none 0 0, .int .i64 2]) (by simp [results, Try.results12, go_sem] <;> first | rfl | ((repeat' apply And.intro) <;> rfl)) rfl ⟨rfl, hb1.alloc hz _⟩
end Go.Proofs.Ytfjeediecmhedaa
