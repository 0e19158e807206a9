/-
  Expired and its reference. No condition but the slice's shape.
-/
import Derived.Test.YtfjeediecmhedaaCtl1
set_option linter.unusedVariables false
set_option linter.unusedSimpArgs false
namespace Go.Proofs.Ytfjeediecmhedaa
open Go.RowKit
set_option maxRecDepth 100000 in
set_option maxHeartbeats 16000000 in
theorem exp29_arg (A : Option Addr) (n c : Nat) (At Nu Bl Se : Int) (Wt : Bool) (Gp Dl : Int) (Fl : Bool) (l : List Int) (t : Int) (w : World) (hv : vS n At Nu Bl Se Wt Gp Dl Fl = false) : Calls Try.prog 29 #[.agg #[.slice A n c, .int .i64 At, .int .i64 Nu, .int .i64 Bl, .int .i64 Se, .bool Wt, .int .i64 Gp, .int .i64 Dl, .bool Fl], .int .i64 t] w (S1 szero w) := by
  have V := fun w => validS46 A n c At Nu Bl Se Wt Gp Dl Fl w
  rw [hv] at V
  replace V := Lib.hid V
  clear hv
  go_enter Try.func29, Try.ntmps29
  go_wp2_with fail
  refine (V.out _).mono ?_
  rintro r w2 ⟨rfl, hb2⟩
  have hg2 := chain (w := w) (by go_grown) hb2
  have P2 := ((Cl.new (w := w) rfl [.slice A n c, .int .i64 At, .int .i64 Nu, .int .i64 Bl, .int .i64 Se, .bool Wt, .int .i64 Gp, .int .i64 Dl, .bool Fl] 40).below ((Below.refl _ _).alloc (Nat.le_refl _) _)).below hb2
  have Q2 := (Cl.new (P := w.heap.size + 1) (by simp) [.slice none 0 0, .int .i64 0, .int .i64 0, .int .i64 0, .int .i64 0, .bool false, .int .i64 0, .int .i64 0, .bool false] 40).below hb2
  have HP := Lib.hid P2
  have HQ := Lib.hid Q2
  have z2 := hb2.size
  simp at z2
  have p0 := P2.c 0 rfl
  have p1 := P2.c 1 rfl
  have p2 := P2.c 2 rfl
  have p3 := P2.c 3 rfl
  have p4 := P2.c 4 rfl
  have p5 := P2.c 5 rfl
  have p6 := P2.c 6 rfl
  have p7 := P2.c 7 rfl
  have p8 := P2.c 8 rfl
  have e0 := P2.f 0 rfl
  have zp := P2.1
  clear hb2
  have q0 := Q2.c 0 rfl
  have q1 := Q2.c 1 rfl
  have q2 := Q2.c 2 rfl
  have q3 := Q2.c 3 rfl
  have q4 := Q2.c 4 rfl
  have q5 := Q2.c 5 rfl
  have q6 := Q2.c 6 rfl
  have q7 := Q2.c 7 rfl
  have q8 := Q2.c 8 rfl
  have f0' := Q2.f 0 rfl
  have f1' := Q2.f 1 rfl
  have f2' := Q2.f 2 rfl
  have f3' := Q2.f 3 rfl
  have f4' := Q2.f 4 rfl
  have f5' := Q2.f 5 rfl
  have f6' := Q2.f 6 rfl
  have f7' := Q2.f 7 rfl
  have f8' := Q2.f 8 rfl
  have zq := Q2.1
  clear P2 Q2
  go_wp2_with fail
  refine bodyPost_ret (v := .agg #[.slice none 0 0, .int .i64 0, .int .i64 0, .int .i64 0, .int .i64 0, .bool false, .int .i64 0, .int .i64 0, .bool false]) (by simp [results, Try.results29, go_sem, q0, q1, q2, q3, q4, q5, q6, q7, q8, zq] <;> first | rfl | ((repeat' apply And.intro) <;> rfl)) rfl ⟨none, 0, 0, rfl, rfl, by omega, Bt.nil _ _, below_set9 hg2 (Nat.le_succ _) _ _ _ _ _ _ _ _ _⟩
set_option maxRecDepth 100000 in
set_option maxHeartbeats 16000000 in
theorem exp29_range (A : Option Addr) (n c : Nat) (At Nu Bl Se : Int) (Wt : Bool) (Gp Dl : Int) (Fl : Bool) (l : List Int) (t : Int) (w : World) (hv : vS n At Nu Bl Se Wt Gp Dl Fl = true) (ht : timeB t = false) : Calls Try.prog 29 #[.agg #[.slice A n c, .int .i64 At, .int .i64 Nu, .int .i64 Bl, .int .i64 Se, .bool Wt, .int .i64 Gp, .int .i64 Dl, .bool Fl], .int .i64 t] w (S1 szero w) := by
  have V := fun w => validS46 A n c At Nu Bl Se Wt Gp Dl Fl w
  rw [hv] at V
  replace V := Lib.hid V
  have T := fun w => instant37 t w
  rw [ht] at T
  replace T := Lib.hid T
  clear hv ht
  go_enter Try.func29, Try.ntmps29
  go_wp2_with fail
  refine (V.out _).mono ?_
  rintro r w2 ⟨rfl, hb2⟩
  have hg2 := chain (w := w) (by go_grown) hb2
  have P2 := ((Cl.new (w := w) rfl [.slice A n c, .int .i64 At, .int .i64 Nu, .int .i64 Bl, .int .i64 Se, .bool Wt, .int .i64 Gp, .int .i64 Dl, .bool Fl] 40).below ((Below.refl _ _).alloc (Nat.le_refl _) _)).below hb2
  have Q2 := (Cl.new (P := w.heap.size + 1) (by simp) [.slice none 0 0, .int .i64 0, .int .i64 0, .int .i64 0, .int .i64 0, .bool false, .int .i64 0, .int .i64 0, .bool false] 40).below hb2
  have HP := Lib.hid P2
  have HQ := Lib.hid Q2
  have z2 := hb2.size
  simp at z2
  have p0 := P2.c 0 rfl
  have p1 := P2.c 1 rfl
  have p2 := P2.c 2 rfl
  have p3 := P2.c 3 rfl
  have p4 := P2.c 4 rfl
  have p5 := P2.c 5 rfl
  have p6 := P2.c 6 rfl
  have p7 := P2.c 7 rfl
  have p8 := P2.c 8 rfl
  have e0 := P2.f 0 rfl
  have zp := P2.1
  clear hb2
  have q0 := Q2.c 0 rfl
  have q1 := Q2.c 1 rfl
  have q2 := Q2.c 2 rfl
  have q3 := Q2.c 3 rfl
  have q4 := Q2.c 4 rfl
  have q5 := Q2.c 5 rfl
  have q6 := Q2.c 6 rfl
  have q7 := Q2.c 7 rfl
  have q8 := Q2.c 8 rfl
  have f0' := Q2.f 0 rfl
  have f1' := Q2.f 1 rfl
  have f2' := Q2.f 2 rfl
  have f3' := Q2.f 3 rfl
  have f4' := Q2.f 4 rfl
  have f5' := Q2.f 5 rfl
  have f6' := Q2.f 6 rfl
  have f7' := Q2.f 7 rfl
  have f8' := Q2.f 8 rfl
  have zq := Q2.1
  clear P2 Q2
  go_wp2_with (go_at_call 37; refine (T.out _).mono ?_; rintro r w3 ⟨rfl, rfl⟩)
  refine bodyPost_ret (v := .agg #[.slice none 0 0, .int .i64 0, .int .i64 0, .int .i64 0, .int .i64 0, .bool false, .int .i64 0, .int .i64 0, .bool false]) (by simp [results, Try.results29, go_sem, q0, q1, q2, q3, q4, q5, q6, q7, q8, zq] <;> first | rfl | ((repeat' apply And.intro) <;> rfl)) rfl ⟨none, 0, 0, rfl, rfl, by omega, Bt.nil _ _, below_set9 hg2 (Nat.le_succ _) _ _ _ _ _ _ _ _ _⟩
set_option maxRecDepth 100000 in
set_option maxHeartbeats 16000000 in
theorem exp29_late (A : Option Addr) (n c : Nat) (At Nu Bl Se : Int) (Gp Dl : Int) (Fl : Bool) (l : List Int) (t : Int) (w : World) (hl : l.length = n) (hb : Bt w A l) (hc : n ≤ c) (hv : vS n At Nu Bl Se true Gp Dl Fl = true) (ht : timeB t = true) (hx : Dl < t) : Calls Try.prog 29 #[.agg #[.slice A n c, .int .i64 At, .int .i64 Nu, .int .i64 Bl, .int .i64 Se, .bool true, .int .i64 Gp, .int .i64 Dl, .bool Fl], .int .i64 t] w (S1 ⟨l, At, Nu, Bl, Se, false, Gp, Dl, true⟩ w) := by
  have hd : decide (Dl < t) = true := by simp [hx]
  have V := fun w => validS46 A n c At Nu Bl Se true Gp Dl Fl w
  rw [hv] at V
  replace V := Lib.hid V
  have T := fun w => instant37 t w
  rw [ht] at T
  replace T := Lib.hid T
  obtain ⟨n0, n1, _⟩ := vS_gen hv
  have hlc : 0 < l.length := by omega
  have HL := Lib.hid hl
  have HB := Lib.hid hb
  clear hl hb hv ht
  clear hx
  go_enter Try.func29, Try.ntmps29
  go_wp2_with fail
  refine (V.out _).mono ?_
  rintro r w2 ⟨rfl, hb2⟩
  have hg2 := chain (w := w) (by go_grown) hb2
  have P2 := ((Cl.new (w := w) rfl [.slice A n c, .int .i64 At, .int .i64 Nu, .int .i64 Bl, .int .i64 Se, .bool true, .int .i64 Gp, .int .i64 Dl, .bool Fl] 40).below ((Below.refl _ _).alloc (Nat.le_refl _) _)).below hb2
  have Q2 := (Cl.new (P := w.heap.size + 1) (by simp) [.slice none 0 0, .int .i64 0, .int .i64 0, .int .i64 0, .int .i64 0, .bool false, .int .i64 0, .int .i64 0, .bool false] 40).below hb2
  have HP := Lib.hid P2
  have HQ := Lib.hid Q2
  have z2 := hb2.size
  simp at z2
  have p0 := P2.c 0 rfl
  have p1 := P2.c 1 rfl
  have p2 := P2.c 2 rfl
  have p3 := P2.c 3 rfl
  have p4 := P2.c 4 rfl
  have p5 := P2.c 5 rfl
  have p6 := P2.c 6 rfl
  have p7 := P2.c 7 rfl
  have p8 := P2.c 8 rfl
  have e0 := P2.f 0 rfl
  have zp := P2.1
  clear hb2
  clear P2 Q2
  go_wp2_with (go_at_call 37; refine (T.out _).mono ?_; rintro r w3 ⟨rfl, rfl⟩)
  refine (clone38 A n c l _ HL.out (HB.out.below hg2) (by omega)).mono ?_
  rintro r w4 ⟨v, rfl, hown, hb4⟩
  obtain ⟨A1, c1, rfl, hc1, hm1, hbt, hfr, hlt⟩ := hown.bt
  obtain ⟨gA, oA, rfl, hgA⟩ := hbt.addr hlc
  have hoA : oA = 0 := own_off hown hlc
  subst hoA
  rw [HL.out] at hc1 ⊢
  have hgA0 : w2.heap.size ≤ gA := hfr _ _ rfl
  have hg4 := chain hg2 hb4
  have P4 := HP.out.below hb4
  have Q4 := HQ.out.below hb4
  clear p0 p1 p2 p3 p4 p5 p6 p7 p8 e0 zp
  have p0 := P4.c 0 rfl
  have p1 := P4.c 1 rfl
  have p2 := P4.c 2 rfl
  have p3 := P4.c 3 rfl
  have p4 := P4.c 4 rfl
  have p5 := P4.c 5 rfl
  have p6 := P4.c 6 rfl
  have p7 := P4.c 7 rfl
  have p8 := P4.c 8 rfl
  have e0 := P4.f 0 rfl
  have zp := P4.1
  go_upto_region 4 with fail
  have hPg : w.heap.size < gA := Nat.lt_of_lt_of_le HP.out.1 hgA0
  have hQg : w.heap.size + 1 < gA := Nat.lt_of_lt_of_le HQ.out.1 hgA0
  have P5 := P4.set 0 (.slice (some ⟨gA, 0, none⟩) n c1)
  have Q5 := Q4.far (b := w.heap.size) (Nat.ne_of_lt (Nat.lt_succ_self _)) 0 (.slice (some ⟨gA, 0, none⟩) n c1)
  have T5 := hbt.setg (P := w.heap.size) hPg 0 (.slice (some ⟨gA, 0, none⟩) n c1)
  have G5 := hg4.setCell (p := ⟨w.heap.size, 0, none⟩) (Nat.le_refl _) (.slice (some ⟨gA, 0, none⟩) n c1)
  simp only [List.set_cons_zero] at P5
  obtain ⟨w5, hw5⟩ : ∃ wx, wx = w4.setCell ⟨w.heap.size, 0, none⟩ (.slice (some ⟨gA, 0, none⟩) n c1) := ⟨_, rfl⟩
  rw [← hw5] at P5 Q5 T5 G5 ⊢
  clear hw5 P4 Q4 HP HQ hbt hfr hlt hown hb4 hg4 hg2 p0 p1 p2 p3 p4 p5 p6 p7 p8 e0 zp V T
  have HP7 := Lib.hid P5
  have HQ7 := Lib.hid Q5
  have HT7 := Lib.hid T5
  have HG7 := Lib.hid G5
  have p0 := P5.c 0 rfl
  have p1 := P5.c 1 rfl
  have p2 := P5.c 2 rfl
  have p3 := P5.c 3 rfl
  have p4 := P5.c 4 rfl
  have p5 := P5.c 5 rfl
  have p6 := P5.c 6 rfl
  have p7 := P5.c 7 rfl
  have p8 := P5.c 8 rfl
  have e0 := P5.f 0 rfl
  have e1 := P5.f 1 rfl
  have e2 := P5.f 2 rfl
  have e3 := P5.f 3 rfl
  have e4 := P5.f 4 rfl
  have e5 := P5.f 5 rfl
  have e6 := P5.f 6 rfl
  have e7 := P5.f 7 rfl
  have e8 := P5.f 8 rfl
  have q0 := Q5.c 0 rfl
  have q1 := Q5.c 1 rfl
  have q2 := Q5.c 2 rfl
  have q3 := Q5.c 3 rfl
  have q4 := Q5.c 4 rfl
  have q5 := Q5.c 5 rfl
  have q6 := Q5.c 6 rfl
  have q7 := Q5.c 7 rfl
  have q8 := Q5.c 8 rfl
  have f0' := Q5.f 0 rfl
  have f1' := Q5.f 1 rfl
  have f2' := Q5.f 2 rfl
  have f3' := Q5.f 3 rfl
  have f4' := Q5.f 4 rfl
  have f5' := Q5.f 5 rfl
  have f6' := Q5.f 6 rfl
  have f7' := Q5.f 7 rfl
  have f8' := Q5.f 8 rfl
  have zq7 := Q5.1
  have zp7 := P5.1
  clear P5 Q5 T5 G5
  go_upto_region 6 with fail
  have P8 := ((HP7.out.set 5 (.bool false)).set 8 (.bool true))
  have Q8 := ((HQ7.out.far (b := w.heap.size) (Nat.ne_of_lt (Nat.lt_succ_self _)) 5 (.bool false)).far (b := w.heap.size) (Nat.ne_of_lt (Nat.lt_succ_self _)) 8 (.bool true))
  have T8 := ((HT7.out.setg (P := w.heap.size) hPg 5 (.bool false)).setg (P := w.heap.size) hPg 8 (.bool true))
  have G8 := ((HG7.out.setCell (p := ⟨w.heap.size, 5, none⟩) (Nat.le_refl _) (.bool false)).setCell (p := ⟨w.heap.size, 8, none⟩) (Nat.le_refl _) (.bool true))
  simp only [List.set_cons_zero, List.set_cons_succ] at P8
  obtain ⟨w8, hw8⟩ : ∃ wx, wx = ((w5.setCell ⟨w.heap.size, 5, none⟩ (.bool false)).setCell ⟨w.heap.size, 8, none⟩ (.bool true)) := ⟨_, rfl⟩
  rw [← hw8] at P8 Q8 T8 G8 ⊢
  clear hw8 p0 p1 p2 p3 p4 p5 p6 p7 p8 e0 e1 e2 e3 e4 e5 e6 e7 e8 q0 q1 q2 q3 q4 q5 q6 q7 q8 f0' f1' f2' f3' f4' f5' f6' f7' f8' HP7 HQ7 HT7 HG7 zp7 zq7
  have p0 := P8.c 0 rfl
  have p1 := P8.c 1 rfl
  have p2 := P8.c 2 rfl
  have p3 := P8.c 3 rfl
  have p4 := P8.c 4 rfl
  have p5 := P8.c 5 rfl
  have p6 := P8.c 6 rfl
  have p7 := P8.c 7 rfl
  have p8 := P8.c 8 rfl
  have e0 := P8.f 0 rfl
  have e1 := P8.f 1 rfl
  have e2 := P8.f 2 rfl
  have e3 := P8.f 3 rfl
  have e4 := P8.f 4 rfl
  have e5 := P8.f 5 rfl
  have e6 := P8.f 6 rfl
  have e7 := P8.f 7 rfl
  have e8 := P8.f 8 rfl
  have q0 := Q8.c 0 rfl
  have q1 := Q8.c 1 rfl
  have q2 := Q8.c 2 rfl
  have q3 := Q8.c 3 rfl
  have q4 := Q8.c 4 rfl
  have q5 := Q8.c 5 rfl
  have q6 := Q8.c 6 rfl
  have q7 := Q8.c 7 rfl
  have q8 := Q8.c 8 rfl
  have f0' := Q8.f 0 rfl
  have f1' := Q8.f 1 rfl
  have f2' := Q8.f 2 rfl
  have f3' := Q8.f 3 rfl
  have f4' := Q8.f 4 rfl
  have f5' := Q8.f 5 rfl
  have f6' := Q8.f 6 rfl
  have f7' := Q8.f 7 rfl
  have f8' := Q8.f 8 rfl
  have zq7 := Q8.1
  have zp7 := P8.1
  have HT7 := Lib.hid T8
  have HG7 := Lib.hid G8
  have HQ7 := Lib.hid Q8
  have HP7 := Lib.hid P8
  clear P8 Q8 T8 G8
  go_wp2_with fail
  refine bodyPost_ret (v := .agg #[.slice (some ⟨gA, 0, none⟩) n c1, .int .i64 At, .int .i64 Nu, .int .i64 Bl, .int .i64 Se, .bool false, .int .i64 Gp, .int .i64 Dl, .bool true]) (by simp [results, Try.results29, go_sem, q0, q1, q2, q3, q4, q5, q6, q7, q8, zq7] <;> first | rfl | ((repeat' apply And.intro) <;> rfl)) rfl ⟨some ⟨gA, 0, none⟩, n, c1, rfl, HL.out.symm, hc1, ?_, below_set9 HG7.out (Nat.le_succ _) _ _ _ _ _ _ _ _ _⟩
  · exact HT7.out.set9g hQg _ _ _ _ _ _ _ _ _
set_option maxRecDepth 100000 in
set_option maxHeartbeats 16000000 in
theorem exp29_wait (A : Option Addr) (n c : Nat) (At Nu Bl Se : Int) (Gp Dl : Int) (Fl : Bool) (l : List Int) (t : Int) (w : World) (hl : l.length = n) (hb : Bt w A l) (hc : n ≤ c) (hv : vS n At Nu Bl Se true Gp Dl Fl = true) (ht : timeB t = true) (hx : t ≤ Dl) : Calls Try.prog 29 #[.agg #[.slice A n c, .int .i64 At, .int .i64 Nu, .int .i64 Bl, .int .i64 Se, .bool true, .int .i64 Gp, .int .i64 Dl, .bool Fl], .int .i64 t] w (S1 ⟨l, At, Nu, Bl, Se, true, Gp, Dl, Fl⟩ w) := by
  have hd : decide (Dl < t) = false := by simp; omega
  have V := fun w => validS46 A n c At Nu Bl Se true Gp Dl Fl w
  rw [hv] at V
  replace V := Lib.hid V
  have T := fun w => instant37 t w
  rw [ht] at T
  replace T := Lib.hid T
  obtain ⟨n0, n1, _⟩ := vS_gen hv
  have hlc : 0 < l.length := by omega
  have HL := Lib.hid hl
  have HB := Lib.hid hb
  clear hl hb hv ht
  clear hx
  go_enter Try.func29, Try.ntmps29
  go_wp2_with fail
  refine (V.out _).mono ?_
  rintro r w2 ⟨rfl, hb2⟩
  have hg2 := chain (w := w) (by go_grown) hb2
  have P2 := ((Cl.new (w := w) rfl [.slice A n c, .int .i64 At, .int .i64 Nu, .int .i64 Bl, .int .i64 Se, .bool true, .int .i64 Gp, .int .i64 Dl, .bool Fl] 40).below ((Below.refl _ _).alloc (Nat.le_refl _) _)).below hb2
  have Q2 := (Cl.new (P := w.heap.size + 1) (by simp) [.slice none 0 0, .int .i64 0, .int .i64 0, .int .i64 0, .int .i64 0, .bool false, .int .i64 0, .int .i64 0, .bool false] 40).below hb2
  have HP := Lib.hid P2
  have HQ := Lib.hid Q2
  have z2 := hb2.size
  simp at z2
  have p0 := P2.c 0 rfl
  have p1 := P2.c 1 rfl
  have p2 := P2.c 2 rfl
  have p3 := P2.c 3 rfl
  have p4 := P2.c 4 rfl
  have p5 := P2.c 5 rfl
  have p6 := P2.c 6 rfl
  have p7 := P2.c 7 rfl
  have p8 := P2.c 8 rfl
  have e0 := P2.f 0 rfl
  have zp := P2.1
  clear hb2
  clear P2 Q2
  go_wp2_with (go_at_call 37; refine (T.out _).mono ?_; rintro r w3 ⟨rfl, rfl⟩)
  refine (clone38 A n c l _ HL.out (HB.out.below hg2) (by omega)).mono ?_
  rintro r w4 ⟨v, rfl, hown, hb4⟩
  obtain ⟨A1, c1, rfl, hc1, hm1, hbt, hfr, hlt⟩ := hown.bt
  obtain ⟨gA, oA, rfl, hgA⟩ := hbt.addr hlc
  have hoA : oA = 0 := own_off hown hlc
  subst hoA
  rw [HL.out] at hc1 ⊢
  have hgA0 : w2.heap.size ≤ gA := hfr _ _ rfl
  have hg4 := chain hg2 hb4
  have P4 := HP.out.below hb4
  have Q4 := HQ.out.below hb4
  clear p0 p1 p2 p3 p4 p5 p6 p7 p8 e0 zp
  have p0 := P4.c 0 rfl
  have p1 := P4.c 1 rfl
  have p2 := P4.c 2 rfl
  have p3 := P4.c 3 rfl
  have p4 := P4.c 4 rfl
  have p5 := P4.c 5 rfl
  have p6 := P4.c 6 rfl
  have p7 := P4.c 7 rfl
  have p8 := P4.c 8 rfl
  have e0 := P4.f 0 rfl
  have zp := P4.1
  go_upto_region 4 with fail
  have hPg : w.heap.size < gA := Nat.lt_of_lt_of_le HP.out.1 hgA0
  have hQg : w.heap.size + 1 < gA := Nat.lt_of_lt_of_le HQ.out.1 hgA0
  have P5 := P4.set 0 (.slice (some ⟨gA, 0, none⟩) n c1)
  have Q5 := Q4.far (b := w.heap.size) (Nat.ne_of_lt (Nat.lt_succ_self _)) 0 (.slice (some ⟨gA, 0, none⟩) n c1)
  have T5 := hbt.setg (P := w.heap.size) hPg 0 (.slice (some ⟨gA, 0, none⟩) n c1)
  have G5 := hg4.setCell (p := ⟨w.heap.size, 0, none⟩) (Nat.le_refl _) (.slice (some ⟨gA, 0, none⟩) n c1)
  simp only [List.set_cons_zero] at P5
  obtain ⟨w5, hw5⟩ : ∃ wx, wx = w4.setCell ⟨w.heap.size, 0, none⟩ (.slice (some ⟨gA, 0, none⟩) n c1) := ⟨_, rfl⟩
  rw [← hw5] at P5 Q5 T5 G5 ⊢
  clear hw5 P4 Q4 HP HQ hbt hfr hlt hown hb4 hg4 hg2 p0 p1 p2 p3 p4 p5 p6 p7 p8 e0 zp V T
  have HP7 := Lib.hid P5
  have HQ7 := Lib.hid Q5
  have HT7 := Lib.hid T5
  have HG7 := Lib.hid G5
  have p0 := P5.c 0 rfl
  have p1 := P5.c 1 rfl
  have p2 := P5.c 2 rfl
  have p3 := P5.c 3 rfl
  have p4 := P5.c 4 rfl
  have p5 := P5.c 5 rfl
  have p6 := P5.c 6 rfl
  have p7 := P5.c 7 rfl
  have p8 := P5.c 8 rfl
  have e0 := P5.f 0 rfl
  have e1 := P5.f 1 rfl
  have e2 := P5.f 2 rfl
  have e3 := P5.f 3 rfl
  have e4 := P5.f 4 rfl
  have e5 := P5.f 5 rfl
  have e6 := P5.f 6 rfl
  have e7 := P5.f 7 rfl
  have e8 := P5.f 8 rfl
  have q0 := Q5.c 0 rfl
  have q1 := Q5.c 1 rfl
  have q2 := Q5.c 2 rfl
  have q3 := Q5.c 3 rfl
  have q4 := Q5.c 4 rfl
  have q5 := Q5.c 5 rfl
  have q6 := Q5.c 6 rfl
  have q7 := Q5.c 7 rfl
  have q8 := Q5.c 8 rfl
  have f0' := Q5.f 0 rfl
  have f1' := Q5.f 1 rfl
  have f2' := Q5.f 2 rfl
  have f3' := Q5.f 3 rfl
  have f4' := Q5.f 4 rfl
  have f5' := Q5.f 5 rfl
  have f6' := Q5.f 6 rfl
  have f7' := Q5.f 7 rfl
  have f8' := Q5.f 8 rfl
  have zq7 := Q5.1
  have zp7 := P5.1
  clear P5 Q5 T5 G5
  go_wp2_with fail
  refine bodyPost_ret (v := .agg #[.slice (some ⟨gA, 0, none⟩) n c1, .int .i64 At, .int .i64 Nu, .int .i64 Bl, .int .i64 Se, .bool true, .int .i64 Gp, .int .i64 Dl, .bool Fl]) (by simp [results, Try.results29, go_sem, q0, q1, q2, q3, q4, q5, q6, q7, q8, zq7] <;> first | rfl | ((repeat' apply And.intro) <;> rfl)) rfl ⟨some ⟨gA, 0, none⟩, n, c1, rfl, HL.out.symm, hc1, ?_, below_set9 HG7.out (Nat.le_succ _) _ _ _ _ _ _ _ _ _⟩
  · exact HT7.out.set9g hQg _ _ _ _ _ _ _ _ _
set_option maxRecDepth 100000 in
set_option maxHeartbeats 16000000 in
theorem exp29_same (A : Option Addr) (n c : Nat) (At Nu Bl Se : Int) (Gp Dl : Int) (Fl : Bool) (l : List Int) (t : Int) (w : World) (hl : l.length = n) (hb : Bt w A l) (hc : n ≤ c) (hv : vS n At Nu Bl Se false Gp Dl Fl = true) (ht : timeB t = true) : Calls Try.prog 29 #[.agg #[.slice A n c, .int .i64 At, .int .i64 Nu, .int .i64 Bl, .int .i64 Se, .bool false, .int .i64 Gp, .int .i64 Dl, .bool Fl], .int .i64 t] w (S1 ⟨l, At, Nu, Bl, Se, false, Gp, Dl, Fl⟩ w) := by
  have V := fun w => validS46 A n c At Nu Bl Se false Gp Dl Fl w
  rw [hv] at V
  replace V := Lib.hid V
  have T := fun w => instant37 t w
  rw [ht] at T
  replace T := Lib.hid T
  obtain ⟨n0, n1, _⟩ := vS_gen hv
  have hlc : 0 < l.length := by omega
  have HL := Lib.hid hl
  have HB := Lib.hid hb
  clear hl hb hv ht
  go_enter Try.func29, Try.ntmps29
  go_wp2_with fail
  refine (V.out _).mono ?_
  rintro r w2 ⟨rfl, hb2⟩
  have hg2 := chain (w := w) (by go_grown) hb2
  have P2 := ((Cl.new (w := w) rfl [.slice A n c, .int .i64 At, .int .i64 Nu, .int .i64 Bl, .int .i64 Se, .bool false, .int .i64 Gp, .int .i64 Dl, .bool Fl] 40).below ((Below.refl _ _).alloc (Nat.le_refl _) _)).below hb2
  have Q2 := (Cl.new (P := w.heap.size + 1) (by simp) [.slice none 0 0, .int .i64 0, .int .i64 0, .int .i64 0, .int .i64 0, .bool false, .int .i64 0, .int .i64 0, .bool false] 40).below hb2
  have HP := Lib.hid P2
  have HQ := Lib.hid Q2
  have z2 := hb2.size
  simp at z2
  have p0 := P2.c 0 rfl
  have p1 := P2.c 1 rfl
  have p2 := P2.c 2 rfl
  have p3 := P2.c 3 rfl
  have p4 := P2.c 4 rfl
  have p5 := P2.c 5 rfl
  have p6 := P2.c 6 rfl
  have p7 := P2.c 7 rfl
  have p8 := P2.c 8 rfl
  have e0 := P2.f 0 rfl
  have zp := P2.1
  clear hb2
  clear P2 Q2
  go_wp2_with (go_at_call 37; refine (T.out _).mono ?_; rintro r w3 ⟨rfl, rfl⟩)
  refine (clone38 A n c l _ HL.out (HB.out.below hg2) (by omega)).mono ?_
  rintro r w4 ⟨v, rfl, hown, hb4⟩
  obtain ⟨A1, c1, rfl, hc1, hm1, hbt, hfr, hlt⟩ := hown.bt
  obtain ⟨gA, oA, rfl, hgA⟩ := hbt.addr hlc
  have hoA : oA = 0 := own_off hown hlc
  subst hoA
  rw [HL.out] at hc1 ⊢
  have hgA0 : w2.heap.size ≤ gA := hfr _ _ rfl
  have hg4 := chain hg2 hb4
  have P4 := HP.out.below hb4
  have Q4 := HQ.out.below hb4
  clear p0 p1 p2 p3 p4 p5 p6 p7 p8 e0 zp
  have p0 := P4.c 0 rfl
  have p1 := P4.c 1 rfl
  have p2 := P4.c 2 rfl
  have p3 := P4.c 3 rfl
  have p4 := P4.c 4 rfl
  have p5 := P4.c 5 rfl
  have p6 := P4.c 6 rfl
  have p7 := P4.c 7 rfl
  have p8 := P4.c 8 rfl
  have e0 := P4.f 0 rfl
  have zp := P4.1
  go_upto_region 4 with fail
  have hPg : w.heap.size < gA := Nat.lt_of_lt_of_le HP.out.1 hgA0
  have hQg : w.heap.size + 1 < gA := Nat.lt_of_lt_of_le HQ.out.1 hgA0
  have P5 := P4.set 0 (.slice (some ⟨gA, 0, none⟩) n c1)
  have Q5 := Q4.far (b := w.heap.size) (Nat.ne_of_lt (Nat.lt_succ_self _)) 0 (.slice (some ⟨gA, 0, none⟩) n c1)
  have T5 := hbt.setg (P := w.heap.size) hPg 0 (.slice (some ⟨gA, 0, none⟩) n c1)
  have G5 := hg4.setCell (p := ⟨w.heap.size, 0, none⟩) (Nat.le_refl _) (.slice (some ⟨gA, 0, none⟩) n c1)
  simp only [List.set_cons_zero] at P5
  obtain ⟨w5, hw5⟩ : ∃ wx, wx = w4.setCell ⟨w.heap.size, 0, none⟩ (.slice (some ⟨gA, 0, none⟩) n c1) := ⟨_, rfl⟩
  rw [← hw5] at P5 Q5 T5 G5 ⊢
  clear hw5 P4 Q4 HP HQ hbt hfr hlt hown hb4 hg4 hg2 p0 p1 p2 p3 p4 p5 p6 p7 p8 e0 zp V T
  have HP7 := Lib.hid P5
  have HQ7 := Lib.hid Q5
  have HT7 := Lib.hid T5
  have HG7 := Lib.hid G5
  have p0 := P5.c 0 rfl
  have p1 := P5.c 1 rfl
  have p2 := P5.c 2 rfl
  have p3 := P5.c 3 rfl
  have p4 := P5.c 4 rfl
  have p5 := P5.c 5 rfl
  have p6 := P5.c 6 rfl
  have p7 := P5.c 7 rfl
  have p8 := P5.c 8 rfl
  have e0 := P5.f 0 rfl
  have e1 := P5.f 1 rfl
  have e2 := P5.f 2 rfl
  have e3 := P5.f 3 rfl
  have e4 := P5.f 4 rfl
  have e5 := P5.f 5 rfl
  have e6 := P5.f 6 rfl
  have e7 := P5.f 7 rfl
  have e8 := P5.f 8 rfl
  have q0 := Q5.c 0 rfl
  have q1 := Q5.c 1 rfl
  have q2 := Q5.c 2 rfl
  have q3 := Q5.c 3 rfl
  have q4 := Q5.c 4 rfl
  have q5 := Q5.c 5 rfl
  have q6 := Q5.c 6 rfl
  have q7 := Q5.c 7 rfl
  have q8 := Q5.c 8 rfl
  have f0' := Q5.f 0 rfl
  have f1' := Q5.f 1 rfl
  have f2' := Q5.f 2 rfl
  have f3' := Q5.f 3 rfl
  have f4' := Q5.f 4 rfl
  have f5' := Q5.f 5 rfl
  have f6' := Q5.f 6 rfl
  have f7' := Q5.f 7 rfl
  have f8' := Q5.f 8 rfl
  have zq7 := Q5.1
  have zp7 := P5.1
  clear P5 Q5 T5 G5
  go_wp2_with fail
  refine bodyPost_ret (v := .agg #[.slice (some ⟨gA, 0, none⟩) n c1, .int .i64 At, .int .i64 Nu, .int .i64 Bl, .int .i64 Se, .bool false, .int .i64 Gp, .int .i64 Dl, .bool Fl]) (by simp [results, Try.results29, go_sem, q0, q1, q2, q3, q4, q5, q6, q7, q8, zq7] <;> first | rfl | ((repeat' apply And.intro) <;> rfl)) rfl ⟨some ⟨gA, 0, none⟩, n, c1, rfl, HL.out.symm, hc1, ?_, below_set9 HG7.out (Nat.le_succ _) _ _ _ _ _ _ _ _ _⟩
  · exact HT7.out.set9g hQg _ _ _ _ _ _ _ _ _
set_option maxRecDepth 100000 in
set_option maxHeartbeats 16000000 in
theorem rexp33_late (A : Option Addr) (n c : Nat) (At Nu Bl Se : Int) (Gp Dl : Int) (Fl : Bool) (l : List Int) (t : Int) (w : World) (hl : l.length = n) (hb : Bt w A l) (hc : n ≤ c) (hx : Dl < t) : Calls Try.prog 33 #[.agg #[.slice A n c, .int .i64 At, .int .i64 Nu, .int .i64 Bl, .int .i64 Se, .bool true, .int .i64 Gp, .int .i64 Dl, .bool Fl], .int .i64 t] w (S1 ⟨l, At, Nu, Bl, Se, false, Gp, Dl, true⟩ w) := by
  have hd : decide (Dl < t) = true := by simp [hx]
  clear hx
  have HL := Lib.hid hl
  have HB := Lib.hid hb
  clear hl hb
  go_enter Try.func33, Try.ntmps33
  go_wp2
  refine bodyPost_ret (v := .agg #[.slice A n c, .int .i64 At, .int .i64 Nu, .int .i64 Bl, .int .i64 Se, .bool false, .int .i64 Gp, .int .i64 Dl, .bool true]) (by simp [results, Try.results33, go_sem] <;> first | rfl | ((repeat' apply And.intro) <;> rfl)) rfl ⟨A, n, c, rfl, HL.out.symm, hc, HB.out.below (by go_grown), by go_grown⟩
set_option maxRecDepth 100000 in
set_option maxHeartbeats 16000000 in
theorem rexp33_wait (A : Option Addr) (n c : Nat) (At Nu Bl Se : Int) (Gp Dl : Int) (Fl : Bool) (l : List Int) (t : Int) (w : World) (hl : l.length = n) (hb : Bt w A l) (hc : n ≤ c) (hx : t ≤ Dl) : Calls Try.prog 33 #[.agg #[.slice A n c, .int .i64 At, .int .i64 Nu, .int .i64 Bl, .int .i64 Se, .bool true, .int .i64 Gp, .int .i64 Dl, .bool Fl], .int .i64 t] w (S1 ⟨l, At, Nu, Bl, Se, true, Gp, Dl, Fl⟩ w) := by
  have hd : decide (Dl < t) = false := by simp; omega
  clear hx
  have HL := Lib.hid hl
  have HB := Lib.hid hb
  clear hl hb
  go_enter Try.func33, Try.ntmps33
  go_wp2
  refine bodyPost_ret (v := .agg #[.slice A n c, .int .i64 At, .int .i64 Nu, .int .i64 Bl, .int .i64 Se, .bool true, .int .i64 Gp, .int .i64 Dl, .bool Fl]) (by simp [results, Try.results33, go_sem] <;> first | rfl | ((repeat' apply And.intro) <;> rfl)) rfl ⟨A, n, c, rfl, HL.out.symm, hc, HB.out.below (by go_grown), by go_grown⟩
set_option maxRecDepth 100000 in
set_option maxHeartbeats 16000000 in
theorem rexp33_same (A : Option Addr) (n c : Nat) (At Nu Bl Se : Int) (Gp Dl : Int) (Fl : Bool) (l : List Int) (t : Int) (w : World) (hl : l.length = n) (hb : Bt w A l) (hc : n ≤ c) : Calls Try.prog 33 #[.agg #[.slice A n c, .int .i64 At, .int .i64 Nu, .int .i64 Bl, .int .i64 Se, .bool false, .int .i64 Gp, .int .i64 Dl, .bool Fl], .int .i64 t] w (S1 ⟨l, At, Nu, Bl, Se, false, Gp, Dl, Fl⟩ w) := by
  have HL := Lib.hid hl
  have HB := Lib.hid hb
  clear hl hb
  go_enter Try.func33, Try.ntmps33
  go_wp2
  refine bodyPost_ret (v := .agg #[.slice A n c, .int .i64 At, .int .i64 Nu, .int .i64 Bl, .int .i64 Se, .bool false, .int .i64 Gp, .int .i64 Dl, .bool Fl]) (by simp [results, Try.results33, go_sem] <;> first | rfl | ((repeat' apply And.intro) <;> rfl)) rfl ⟨A, n, c, rfl, HL.out.symm, hc, HB.out.below (by go_grown), by go_grown⟩
end Go.Proofs.Ytfjeediecmhedaa
