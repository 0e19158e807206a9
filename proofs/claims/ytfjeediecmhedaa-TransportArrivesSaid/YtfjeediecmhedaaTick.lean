/-
  The contracts of Tick and of its reference. No condition but the slice's shape.
-/
import Derived.Test.YtfjeediecmhedaaRecv
set_option linter.unusedVariables false
set_option linter.unusedSimpArgs false
namespace Go.Proofs.Ytfjeediecmhedaa
open Go.RowKit
/-- a receiver -/
def RQ (s : RS) (w : World) (r : Ending) (w' : World) : Prop :=
  ∃ A n c, r = .returned (.agg #[.slice A n c, .int .i64 s.Le, .int .i64 s.Nu, .int .i64 s.Bl, .int .i64 s.Gt, .bool s.Bu, .bool s.Dn, .int .i64 s.Dl, .bool s.Fl]) ∧ n = s.l.length ∧ n ≤ c ∧ Bt w' A s.l ∧ Below w.heap.size w w'
def tickM (s : RS) (t : Int) : RS := if s.Bu = true ∧ s.Dl < t then ⟨[], 0, 0, s.Bl, 0, false, false, 0, true⟩ else s
set_option maxRecDepth 100000 in
set_option maxHeartbeats 2000000 in
theorem tick14_no (A : Option Addr) (n c : Nat) (Le Nu Bl Gt : Int) (Bu Dn : Bool) (Dl : Int) (Fl : Bool) (l : List Int) (t : Int) (w : World) (h : vR n Le Nu Bl Gt Bu Dn Dl Fl = false ∨ (vR n Le Nu Bl Gt Bu Dn Dl Fl = true ∧ timeB t = false)) : Calls Try.prog 14 #[.agg #[.slice A n c, .int .i64 Le, .int .i64 Nu, .int .i64 Bl, .int .i64 Gt, .bool Bu, .bool Dn, .int .i64 Dl, .bool Fl], .int .i64 t] w (RQ rzero w) := by
  rcases h with hv | ⟨hv, ht⟩
  · have V := fun w => validR36 A n c Le Nu Bl Gt Bu Dn Dl Fl w
    rw [hv] at V
    replace V := Lib.hid V
    go_enter Try.func14, Try.ntmps14
    go_wp2_with fail
    refine (V.out _).mono ?_
    rintro r w2 ⟨rfl, hb2⟩
    have hg2 := chain (w := w) (by go_grown) hb2
    have P2 := ((Cl.new (w := w) rfl [.slice A n c, .int .i64 Le, .int .i64 Nu, .int .i64 Bl, .int .i64 Gt, .bool Bu, .bool Dn, .int .i64 Dl, .bool Fl] 30).below ((Below.refl _ _).alloc (Nat.le_refl _) _)).below hb2
    have Q2 := (Cl.new (P := w.heap.size + 1) (by simp) [.slice none 0 0, .int .i64 0, .int .i64 0, .int .i64 0, .int .i64 0, .bool false, .bool false, .int .i64 0, .bool false] 30).below hb2
    have HP := Lib.hid P2
    have HQ := Lib.hid Q2
    obtain ⟨p0, p1, p2, p3, p4, p5, p6, p7, p8⟩ := P2.cells9
    have e0 := P2.f 0 rfl
    have zp := P2.1
    obtain ⟨q0, q1, q2, q3, q4, q5, q6, q7, q8⟩ := Q2.cells9
    obtain ⟨f0, f1, f2, f3, f4, f5, f6, f7, f8⟩ := Q2.free9
    have zq := Q2.1
    clear P2 Q2 hb2
    go_wp2_with fail
    refine bodyPost_ret (v := .agg #[.slice none 0 0, .int .i64 0, .int .i64 0, .int .i64 0, .int .i64 0, .bool false, .bool false, .int .i64 0, .bool false]) (by simp [results, Try.results14, go_sem, q0, q1, q2, q3, q4, q5, q6, q7, q8, zq] <;> first | rfl | ((repeat' apply And.intro) <;> rfl)) rfl ⟨none, 0, 0, rfl, rfl, by omega, Bt.nil _ _, below_set9 hg2 (by omega) _ _ _ _ _ _ _ _ _⟩
  · have V := fun w => validR36 A n c Le Nu Bl Gt Bu Dn Dl Fl w
    rw [hv] at V
    replace V := Lib.hid V
    have T := fun w => instant37 t w
    rw [ht] at T
    replace T := Lib.hid T
    go_enter Try.func14, Try.ntmps14
    go_wp2_with fail
    refine (V.out _).mono ?_
    rintro r w2 ⟨rfl, hb2⟩
    have hg2 := chain (w := w) (by go_grown) hb2
    have P2 := ((Cl.new (w := w) rfl [.slice A n c, .int .i64 Le, .int .i64 Nu, .int .i64 Bl, .int .i64 Gt, .bool Bu, .bool Dn, .int .i64 Dl, .bool Fl] 30).below ((Below.refl _ _).alloc (Nat.le_refl _) _)).below hb2
    have Q2 := (Cl.new (P := w.heap.size + 1) (by simp) [.slice none 0 0, .int .i64 0, .int .i64 0, .int .i64 0, .int .i64 0, .bool false, .bool false, .int .i64 0, .bool false] 30).below hb2
    have HP := Lib.hid P2
    have HQ := Lib.hid Q2
    obtain ⟨p0, p1, p2, p3, p4, p5, p6, p7, p8⟩ := P2.cells9
    have e0 := P2.f 0 rfl
    have zp := P2.1
    obtain ⟨q0, q1, q2, q3, q4, q5, q6, q7, q8⟩ := Q2.cells9
    obtain ⟨f0, f1, f2, f3, f4, f5, f6, f7, f8⟩ := Q2.free9
    have zq := Q2.1
    clear P2 Q2 hb2
    go_wp2_with (go_at_call 37; refine (T.out _).mono ?_; rintro r w3 ⟨rfl, rfl⟩)
    refine bodyPost_ret (v := .agg #[.slice none 0 0, .int .i64 0, .int .i64 0, .int .i64 0, .int .i64 0, .bool false, .bool false, .int .i64 0, .bool false]) (by simp [results, Try.results14, go_sem, q0, q1, q2, q3, q4, q5, q6, q7, q8, zq] <;> first | rfl | ((repeat' apply And.intro) <;> rfl)) rfl ⟨none, 0, 0, rfl, rfl, by omega, Bt.nil _ _, below_set9 hg2 (by omega) _ _ _ _ _ _ _ _ _⟩
set_option maxRecDepth 100000 in
set_option maxHeartbeats 2000000 in
theorem tick14_late (A : Option Addr) (n c : Nat) (Le Nu Bl Gt : Int) (Dn : Bool) (Dl : Int) (Fl : Bool) (l : List Int) (t : Int) (w : World) (hv : vR n Le Nu Bl Gt true Dn Dl Fl = true) (ht : timeB t = true) (hx : Dl < t) : Calls Try.prog 14 #[.agg #[.slice A n c, .int .i64 Le, .int .i64 Nu, .int .i64 Bl, .int .i64 Gt, .bool true, .bool Dn, .int .i64 Dl, .bool Fl], .int .i64 t] w (RQ ⟨[], 0, 0, Bl, 0, false, false, 0, true⟩ w) := by
  have V := fun w => validR36 A n c Le Nu Bl Gt true Dn Dl Fl w
  rw [hv] at V
  replace V := Lib.hid V
  have T := fun w => instant37 t w
  rw [ht] at T
  replace T := Lib.hid T
  clear hv ht
  go_enter Try.func14, Try.ntmps14
  go_wp2_with fail
  refine (V.out _).mono ?_
  rintro r w2 ⟨rfl, hb2⟩
  have hg2 := chain (w := w) (by go_grown) hb2
  have P2 := ((Cl.new (w := w) rfl [.slice A n c, .int .i64 Le, .int .i64 Nu, .int .i64 Bl, .int .i64 Gt, .bool true, .bool Dn, .int .i64 Dl, .bool Fl] 30).below ((Below.refl _ _).alloc (Nat.le_refl _) _)).below hb2
  have Q2 := (Cl.new (P := w.heap.size + 1) (by simp) [.slice none 0 0, .int .i64 0, .int .i64 0, .int .i64 0, .int .i64 0, .bool false, .bool false, .int .i64 0, .bool false] 30).below hb2
  have HP := Lib.hid P2
  have HQ := Lib.hid Q2
  obtain ⟨p0, p1, p2, p3, p4, p5, p6, p7, p8⟩ := P2.cells9
  have e0 := P2.f 0 rfl
  have zp := P2.1
  obtain ⟨q0, q1, q2, q3, q4, q5, q6, q7, q8⟩ := Q2.cells9
  obtain ⟨f0, f1, f2, f3, f4, f5, f6, f7, f8⟩ := Q2.free9
  have zq := Q2.1
  clear P2 Q2 hb2
  go_wp2_with (go_at_call 37; refine (T.out _).mono ?_; rintro r w3 ⟨rfl, rfl⟩)
  refine (failed39 _ _ _ _ _ _ _ _ _ _ _ _).mono ?_
  rintro r w6 ⟨rfl, hb6⟩
  have Q6 := HQ.out.below hb6
  have G6 := chain hg2 hb6
  clear q0 q1 q2 q3 q4 q5 q6 q7 q8 f0 f1 f2 f3 f4 f5 f6 f7 f8 hb6
  obtain ⟨q0, q1, q2, q3, q4, q5, q6, q7, q8⟩ := Q6.cells9
  obtain ⟨f0', f1', f2', f3', f4', f5', f6', f7', f8'⟩ := Q6.free9
  have zq6 := Q6.1
  go_wp2_with fail
  refine bodyPost_ret (v := .agg #[.slice none 0 0, .int .i64 0, .int .i64 0, .int .i64 Bl, .int .i64 0, .bool false, .bool false, .int .i64 0, .bool true]) (by simp [results, Try.results14, go_sem, q0, q1, q2, q3, q4, q5, q6, q7, q8, zq6] <;> first | rfl | ((repeat' apply And.intro) <;> rfl)) rfl ⟨none, 0, 0, rfl, rfl, by omega, Bt.nil _ _, below_set9 G6 (by omega) _ _ _ _ _ _ _ _ _⟩
set_option maxRecDepth 100000 in
set_option maxHeartbeats 2000000 in
theorem tick14_same (A : Option Addr) (n c : Nat) (Le Nu Bl Gt : Int) (Bu Dn : Bool) (Dl : Int) (Fl : Bool) (l : List Int) (t : Int) (w : World) (hl : l.length = n) (hb : Bt w A l) (hc : n ≤ c) (hv : vR n Le Nu Bl Gt Bu Dn Dl Fl = true) (ht : timeB t = true) (hx : Bu = false ∨ (Bu = true ∧ t ≤ Dl)) : Calls Try.prog 14 #[.agg #[.slice A n c, .int .i64 Le, .int .i64 Nu, .int .i64 Bl, .int .i64 Gt, .bool Bu, .bool Dn, .int .i64 Dl, .bool Fl], .int .i64 t] w (RQ ⟨l, Le, Nu, Bl, Gt, Bu, Dn, Dl, Fl⟩ w) := by
  obtain ⟨hn, _, _⟩ := vR_len hv
  have V := fun w => validR36 A n c Le Nu Bl Gt Bu Dn Dl Fl w
  rw [hv] at V
  replace V := Lib.hid V
  have T := fun w => instant37 t w
  rw [ht] at T
  replace T := Lib.hid T
  clear hv ht
  have HB := Lib.hid hb
  have HL := Lib.hid hl
  have HX : Hid (Bu = false ∨ (Bu = true ∧ decide (Dl < t) = false)) := Lib.hid (by
    rcases hx with h | ⟨h, k⟩
    · exact .inl h
    · exact .inr ⟨h, by simp; omega⟩)
  clear hb hl hx
  rcases HX.out with rfl | ⟨rfl, hd⟩
  all_goals
    clear HX
    go_enter Try.func14, Try.ntmps14
    go_wp2_with fail
    refine (V.out _).mono ?_
    rintro r w2 ⟨rfl, hb2⟩
    have hg2 := chain (w := w) (by go_grown) hb2
    have P2 := ((Cl.new (w := w) rfl [.slice A n c, .int .i64 Le, .int .i64 Nu, .int .i64 Bl, .int .i64 Gt, .bool _, .bool Dn, .int .i64 Dl, .bool Fl] 30).below ((Below.refl _ _).alloc (Nat.le_refl _) _)).below hb2
    have Q2 := (Cl.new (P := w.heap.size + 1) (by simp) [.slice none 0 0, .int .i64 0, .int .i64 0, .int .i64 0, .int .i64 0, .bool false, .bool false, .int .i64 0, .bool false] 30).below hb2
    have HP := Lib.hid P2
    have HQ := Lib.hid Q2
    obtain ⟨p0, p1, p2, p3, p4, p5, p6, p7, p8⟩ := P2.cells9
    have e0 := P2.f 0 rfl
    have zp := P2.1
    obtain ⟨q0, q1, q2, q3, q4, q5, q6, q7, q8⟩ := Q2.cells9
    obtain ⟨f0, f1, f2, f3, f4, f5, f6, f7, f8⟩ := Q2.free9
    have zq := Q2.1
    clear P2 Q2 hb2
    go_wp2_with (go_at_call 37; refine (T.out _).mono ?_; rintro r w3 ⟨rfl, rfl⟩)
    refine (clone38 A n c l _ HL.out (HB.out.below hg2) (by omega)).mono ?_
    rintro r w4 ⟨v, rfl, hown, hb4⟩
    obtain ⟨A1, c1, rfl, hc1, hm1, hbt, hfr, hlt⟩ := hown.bt
    rw [HL.out] at hc1 ⊢
    have hg4 := chain hg2 hb4
    have P4 := HP.out.below hb4
    have Q4 := HQ.out.below hb4
    clear p0 p1 p2 p3 p4 p5 p6 p7 p8 e0 zp q0 q1 q2 q3 q4 q5 q6 q7 q8 f0 f1 f2 f3 f4 f5 f6 f7 f8 zq
    obtain ⟨p0, p1, p2, p3, p4, p5, p6, p7, p8⟩ := P4.cells9
    have e0 := P4.f 0 rfl
    have zp := P4.1
    go_upto_region 6 with fail
    have P5 := P4.set 0 (.slice A1 n c1)
    have Q5 := Q4.far (b := w.heap.size) (by omega) 0 (.slice A1 n c1)
    have hz2 : w.heap.size + 1 < w2.heap.size := HQ.out.1
    have T5 := hbt.set w.heap.size (fun b o e => by have := hfr b o e; omega) 0 (.slice A1 n c1)
    have X5 : Fr (w.heap.size + 2) A1 := fun b o e => by have := hfr b o e; omega
    have G5 := hg4.setCell (p := ⟨w.heap.size, 0, none⟩) (Nat.le_refl _) (.slice A1 n c1)
    simp only [List.set_cons_zero] at P5
    obtain ⟨w5, hw5⟩ : ∃ wx, wx = w4.setCell ⟨w.heap.size, 0, none⟩ (.slice A1 n c1) := ⟨_, rfl⟩
    rw [← hw5] at P5 Q5 T5 G5 ⊢
    clear hw5 P4 Q4 HP HQ p0 p1 p2 p3 p4 p5 p6 p7 p8 e0 zp hbt hfr hlt hown hb4
    obtain ⟨p0, p1, p2, p3, p4, p5, p6, p7, p8⟩ := P5.cells9
    obtain ⟨q0, q1, q2, q3, q4, q5, q6, q7, q8⟩ := Q5.cells9
    obtain ⟨f0, f1, f2, f3, f4, f5, f6, f7, f8⟩ := Q5.free9
    have zq5 := Q5.1
    have HT5 := Lib.hid T5
    have HX5 := Lib.hid X5
    have HG5 := Lib.hid G5
    clear P5 Q5 T5 G5 X5 hg4 hg2
    go_wp2_with fail
    refine bodyPost_ret (v := .agg #[.slice A1 n c1, .int .i64 Le, .int .i64 Nu, .int .i64 Bl, .int .i64 Gt, .bool _, .bool Dn, .int .i64 Dl, .bool Fl]) (by simp [results, Try.results14, go_sem, q0, q1, q2, q3, q4, q5, q6, q7, q8, zq5] <;> first | rfl | ((repeat' apply And.intro) <;> rfl)) rfl ⟨A1, n, c1, rfl, HL.out.symm, hc1, ?_, below_set9 HG5.out (by omega) _ _ _ _ _ _ _ _ _⟩
    exact HT5.out.set9 (fun b o e => by have := HX5.out b o e; omega) _ _ _ _ _ _ _ _ _
set_option maxRecDepth 100000 in
set_option maxHeartbeats 2000000 in
theorem tick26_late (A : Option Addr) (n c : Nat) (Le Nu Bl Gt : Int) (Dn : Bool) (Dl : Int) (Fl : Bool) (l : List Int) (t : Int) (w : World) (hx : Dl < t) : Calls Try.prog 26 #[.agg #[.slice A n c, .int .i64 Le, .int .i64 Nu, .int .i64 Bl, .int .i64 Gt, .bool true, .bool Dn, .int .i64 Dl, .bool Fl], .int .i64 t] w (RQ ⟨[], 0, 0, Bl, 0, false, false, 0, true⟩ w) := by
  go_enter Try.func26, Try.ntmps26
  go_wp2
  refine bodyPost_ret (v := .agg #[.slice none 0 0, .int .i64 0, .int .i64 0, .int .i64 Bl, .int .i64 0, .bool false, .bool false, .int .i64 0, .bool true]) (by simp [results, Try.results26, go_sem] <;> first | rfl | ((repeat' apply And.intro) <;> rfl)) rfl ⟨none, 0, 0, rfl, rfl, by omega, Bt.nil _ _, by go_grown⟩
set_option maxRecDepth 100000 in
set_option maxHeartbeats 2000000 in
theorem tick26_same (A : Option Addr) (n c : Nat) (Le Nu Bl Gt : Int) (Bu Dn : Bool) (Dl : Int) (Fl : Bool) (l : List Int) (t : Int) (w : World) (hl : l.length = n) (hb : Bt w A l) (hc : n ≤ c) (hx : Bu = false ∨ (Bu = true ∧ t ≤ Dl)) : Calls Try.prog 26 #[.agg #[.slice A n c, .int .i64 Le, .int .i64 Nu, .int .i64 Bl, .int .i64 Gt, .bool Bu, .bool Dn, .int .i64 Dl, .bool Fl], .int .i64 t] w (RQ ⟨l, Le, Nu, Bl, Gt, Bu, Dn, Dl, Fl⟩ w) := by
  have HB := Lib.hid hb
  have HL := Lib.hid hl
  have HX : Hid (Bu = false ∨ (Bu = true ∧ decide (Dl < t) = false)) := Lib.hid (by
    rcases hx with h | ⟨h, k⟩
    · exact .inl h
    · exact .inr ⟨h, by simp; omega⟩)
  clear hb hl hx
  rcases HX.out with rfl | ⟨rfl, hd⟩
  all_goals
    clear HX
    go_enter Try.func26, Try.ntmps26
    go_wp2
    refine bodyPost_ret (v := .agg #[.slice A n c, .int .i64 Le, .int .i64 Nu, .int .i64 Bl, .int .i64 Gt, .bool _, .bool Dn, .int .i64 Dl, .bool Fl]) (by simp [results, Try.results26, go_sem] <;> first | rfl | ((repeat' apply And.intro) <;> rfl)) rfl ⟨A, n, c, rfl, HL.out.symm, hc, HB.out.below (by go_grown), by go_grown⟩
end Go.Proofs.Ytfjeediecmhedaa
