/-
  What Next, Control and Expired answer, in plain terms; Next where it refuses. No condition but the slices' shape.
-/
import Derived.Test.YtfjeediecmhedaaApp
set_option linter.unusedVariables false
set_option linter.unusedSimpArgs false
namespace Go.Proofs.Ytfjeediecmhedaa
open Go.RowKit
/-- a sender -/
structure SS where
  l : List Int
  At : Int
  Nu : Int
  Bl : Int
  Se : Int
  Wt : Bool
  Gp : Int
  Dl : Int
  Fl : Bool
def szero : SS := ⟨[], 0, 0, 0, 0, false, 0, 0, false⟩
def SS.ok (s : SS) : Bool := vS s.l.length s.At s.Nu s.Bl s.Se s.Wt s.Gp s.Dl s.Fl
/-- a sender, a frame and an error -/
def S3 (s : SS) (fr : List Int) (e : Int) (w : World) (r : Ending) (w' : World) : Prop :=
  ∃ A n c B m d, r = .returned (.tuple #[.agg #[.slice A n c, .int .i64 s.At, .int .i64 s.Nu, .int .i64 s.Bl, .int .i64 s.Se, .bool s.Wt, .int .i64 s.Gp, .int .i64 s.Dl, .bool s.Fl], .slice B m d, .int .i64 e]) ∧ n = s.l.length ∧ n ≤ c ∧ Bt w' A s.l ∧ Fr w.heap.size A ∧ m = fr.length ∧ m ≤ d ∧ Bt w' B fr ∧ Fr w.heap.size B ∧ Below w.heap.size w w'
/-- a sender and an error -/
def S2 (s : SS) (e : Int) (w : World) (r : Ending) (w' : World) : Prop :=
  ∃ A n c, r = .returned (.tuple #[.agg #[.slice A n c, .int .i64 s.At, .int .i64 s.Nu, .int .i64 s.Bl, .int .i64 s.Se, .bool s.Wt, .int .i64 s.Gp, .int .i64 s.Dl, .bool s.Fl], .int .i64 e]) ∧ n = s.l.length ∧ n ≤ c ∧ Bt w' A s.l ∧ Fr w.heap.size A ∧ Below w.heap.size w w'
/-- a sender -/
def S1 (s : SS) (w : World) (r : Ending) (w' : World) : Prop :=
  ∃ A n c, r = .returned (.agg #[.slice A n c, .int .i64 s.At, .int .i64 s.Nu, .int .i64 s.Bl, .int .i64 s.Se, .bool s.Wt, .int .i64 s.Gp, .int .i64 s.Dl, .bool s.Fl]) ∧ n = s.l.length ∧ n ≤ c ∧ Bt w' A s.l ∧ Below w.heap.size w w'
/-- what Next answers, for a valid sender and a time -/
def nxtM (s : SS) (t : Int) : SS × List Int × Int :=
  if s.At = s.l.length ∨ s.Fl = true ∨ s.Wt = true then (szero, [], 6)
  else if t < s.Dl then (szero, [], 16)
  else if s.l.length ≤ s.At.toNat + 7 then (⟨s.l, s.l.length, 0, 0, 0, false, 0, 0, false⟩, pad ((32 + s.Nu) :: s.l.drop s.At.toNat), 0)
  else if s.Bl = 0 then (⟨s.l, s.At + 7, (s.Nu + 1) % 16, s.Bl, 0, false, s.Gp, t + 1000 * s.Gp, false⟩, pad ((32 + s.Nu) :: (s.l.drop s.At.toNat).take 7), 0)
  else if s.Se + 1 = s.Bl then (⟨s.l, s.At + 7, (s.Nu + 1) % 16, s.Bl, 0, true, s.Gp, t + 1000000, false⟩, pad ((32 + s.Nu) :: (s.l.drop s.At.toNat).take 7), 0)
  else (⟨s.l, s.At + 7, (s.Nu + 1) % 16, s.Bl, s.Se + 1, false, s.Gp, t + 1000 * s.Gp, false⟩, pad ((32 + s.Nu) :: (s.l.drop s.At.toNat).take 7), 0)
/-- what Control answers, for a valid sender and a time -/
def ctlM (s : SS) (f : List Int) (t : Int) : SS × Int :=
  if kindM f ≠ 3 then (szero, 3)
  else if s.Wt = false then (szero, 6)
  else if s.Dl < t then (szero, 16)
  else if f.getD 0 0 % 16 = 0 then (⟨s.l, s.At, s.Nu, f.getD 1 0, 0, false, f.getD 2 0, t, s.Fl⟩, 0)
  else if f.getD 0 0 % 16 = 1 then (⟨s.l, s.At, s.Nu, s.Bl, s.Se, s.Wt, s.Gp, t + 1000000, s.Fl⟩, 0)
  else (⟨s.l, s.At, s.Nu, s.Bl, s.Se, false, s.Gp, s.Dl, true⟩, 0)
/-- what Expired answers, for a valid sender and a time -/
def expM (s : SS) (t : Int) : SS := if s.Wt = true ∧ s.Dl < t then ⟨s.l, s.At, s.Nu, s.Bl, s.Se, false, s.Gp, s.Dl, true⟩ else s
theorem own_off {w : World} {B b o n c : Nat} {l : List Int} (h : Own w B (.slice (some ⟨b, o, none⟩) n c) l) (h0 : 0 < l.length) : o = 0 := by
  obtain ⟨g, cap, hv, _, _, _, _, _⟩ := own_form h h0
  injection hv with hv _ _
  injection hv with hv
  injection hv
theorem vS_gen {n : Nat} {At Nu Bl Se : Int} {Wt : Bool} {Gp Dl : Int} {Fl : Bool} (h : vS n At Nu Bl Se Wt Gp Dl Fl = true) :
    1 ≤ n ∧ n ≤ 1023 ∧ 0 ≤ Bl ∧ Bl ≤ 255 ∧ 0 ≤ Se ∧ Se ≤ 255 ∧ (Bl = 0 ∨ Se < Bl) ∧ 0 ≤ Nu ∧ Nu ≤ 15 ∧ 0 ≤ Gp ∧ Gp ≤ 127 ∧ 0 ≤ Dl ∧ Dl ≤ 1099512627776 ∧ ((At = n ∧ Wt = false ∧ Fl = false) ∨ (6 ≤ At ∧ At < n ∧ 7 < n ∧ (At - 6) % 7 = 0 ∧ (Wt = false ∨ Fl = false))) := by
  unfold vS at h
  simp only [Bool.and_eq_true, msgB, cntB, decide_eq_true_eq, Bool.or_eq_true] at h
  obtain ⟨⟨⟨⟨⟨⟨m0, m1⟩, ⟨⟨h2, h3⟩, h4⟩⟩, h5⟩, h6⟩, h7⟩, h8⟩ := h
  obtain ⟨a0, a1⟩ := inB_t h2
  obtain ⟨b0, b1⟩ := inB_t h3
  obtain ⟨c0, c1⟩ := inB_t h5
  obtain ⟨d0, d1⟩ := inB_t h6
  obtain ⟨e0, e1⟩ := inB_t h7
  refine ⟨m0, m1, a0, a1, b0, b1, h4, c0, c1, d0, d1, e0, e1, ?_⟩
  split at h8
  · rename_i e
    refine .inl ⟨e, ?_⟩
    cases Wt <;> cases Fl <;> simp at h8 ⊢
  · refine .inr ?_
    simp only [parB, Bool.and_eq_true, decide_eq_true_eq] at h8
    obtain ⟨⟨⟨⟨⟨p1, p2⟩, p3⟩, p4⟩, p5⟩, h9⟩ := h8
    exact ⟨p3, p4, by omega, p5, by cases Wt <;> cases Fl <;> simp at h9 ⊢⟩
set_option maxRecDepth 100000 in
set_option maxHeartbeats 16000000 in
theorem next28_arg (A : Option Addr) (n c : Nat) (At Nu Bl Se : Int) (Wt : Bool) (Gp Dl : Int) (Fl : Bool) (l : List Int) (t : Int) (w : World) (hv : vS n At Nu Bl Se Wt Gp Dl Fl = false) : Calls Try.prog 28 #[.agg #[.slice A n c, .int .i64 At, .int .i64 Nu, .int .i64 Bl, .int .i64 Se, .bool Wt, .int .i64 Gp, .int .i64 Dl, .bool Fl], .int .i64 t] w (S3 szero [] 1 w) := by
  have V := fun w => validS46 A n c At Nu Bl Se Wt Gp Dl Fl w
  rw [hv] at V
  replace V := Lib.hid V
  clear hv
  go_enter Try.func28, Try.ntmps28
  go_wp2_with fail
  refine (V.out _).mono ?_
  rintro r w2 ⟨rfl, hb2⟩
  have hg2 := chain (w := w) (by go_grown) hb2
  have P2 := ((Cl.new (w := w) rfl [.slice A n c, .int .i64 At, .int .i64 Nu, .int .i64 Bl, .int .i64 Se, .bool Wt, .int .i64 Gp, .int .i64 Dl, .bool Fl] 40).below ((Below.refl _ _).alloc (Nat.le_refl _) _)).below hb2
  have Q2 := (Cl.new (P := w.heap.size + 1) (by simp) [.slice none 0 0, .int .i64 0, .int .i64 0, .int .i64 0, .int .i64 0, .bool false, .int .i64 0, .int .i64 0, .bool false] 40).below hb2
  have HP := Lib.hid P2
  have HQ := Lib.hid Q2
  have z2 := hb2.size
  simp at z2
  have p0 := P2.c 0 rfl
  have p1 := P2.c 1 rfl
  have p2 := P2.c 2 rfl
  have p3 := P2.c 3 rfl
  have p4 := P2.c 4 rfl
  have p5 := P2.c 5 rfl
  have p6 := P2.c 6 rfl
  have p7 := P2.c 7 rfl
  have p8 := P2.c 8 rfl
  have e0 := P2.f 0 rfl
  have zp := P2.1
  clear hb2
  have q0 := Q2.c 0 rfl
  have q1 := Q2.c 1 rfl
  have q2 := Q2.c 2 rfl
  have q3 := Q2.c 3 rfl
  have q4 := Q2.c 4 rfl
  have q5 := Q2.c 5 rfl
  have q6 := Q2.c 6 rfl
  have q7 := Q2.c 7 rfl
  have q8 := Q2.c 8 rfl
  have f0' := Q2.f 0 rfl
  have f1' := Q2.f 1 rfl
  have f2' := Q2.f 2 rfl
  have f3' := Q2.f 3 rfl
  have f4' := Q2.f 4 rfl
  have f5' := Q2.f 5 rfl
  have f6' := Q2.f 6 rfl
  have f7' := Q2.f 7 rfl
  have f8' := Q2.f 8 rfl
  have zq := Q2.1
  clear P2 Q2
  go_wp2_with fail
  refine bodyPost_ret (v := .tuple #[.agg #[.slice none 0 0, .int .i64 0, .int .i64 0, .int .i64 0, .int .i64 0, .bool false, .int .i64 0, .int .i64 0, .bool false], .slice none 0 0, .int .i64 1]) (by simp [results, Try.results28, go_sem, q0, q1, q2, q3, q4, q5, q6, q7, q8, zq] <;> first | rfl | ((repeat' apply And.intro) <;> rfl)) rfl ⟨none, 0, 0, none, 0, 0, rfl, rfl, by omega, Bt.nil _ _, Fr.none _, rfl, by omega, Bt.nil _ _, Fr.none _, below_set9 hg2 (Nat.le_succ _) _ _ _ _ _ _ _ _ _⟩
set_option maxRecDepth 100000 in
set_option maxHeartbeats 16000000 in
theorem next28_range (A : Option Addr) (n c : Nat) (At Nu Bl Se : Int) (Wt : Bool) (Gp Dl : Int) (Fl : Bool) (l : List Int) (t : Int) (w : World) (hv : vS n At Nu Bl Se Wt Gp Dl Fl = true) (ht : timeB t = false) : Calls Try.prog 28 #[.agg #[.slice A n c, .int .i64 At, .int .i64 Nu, .int .i64 Bl, .int .i64 Se, .bool Wt, .int .i64 Gp, .int .i64 Dl, .bool Fl], .int .i64 t] w (S3 szero [] 2 w) := by
  have V := fun w => validS46 A n c At Nu Bl Se Wt Gp Dl Fl w
  rw [hv] at V
  replace V := Lib.hid V
  have T := fun w => instant37 t w
  rw [ht] at T
  replace T := Lib.hid T
  clear hv ht
  go_enter Try.func28, Try.ntmps28
  go_wp2_with fail
  refine (V.out _).mono ?_
  rintro r w2 ⟨rfl, hb2⟩
  have hg2 := chain (w := w) (by go_grown) hb2
  have P2 := ((Cl.new (w := w) rfl [.slice A n c, .int .i64 At, .int .i64 Nu, .int .i64 Bl, .int .i64 Se, .bool Wt, .int .i64 Gp, .int .i64 Dl, .bool Fl] 40).below ((Below.refl _ _).alloc (Nat.le_refl _) _)).below hb2
  have Q2 := (Cl.new (P := w.heap.size + 1) (by simp) [.slice none 0 0, .int .i64 0, .int .i64 0, .int .i64 0, .int .i64 0, .bool false, .int .i64 0, .int .i64 0, .bool false] 40).below hb2
  have HP := Lib.hid P2
  have HQ := Lib.hid Q2
  have z2 := hb2.size
  simp at z2
  have p0 := P2.c 0 rfl
  have p1 := P2.c 1 rfl
  have p2 := P2.c 2 rfl
  have p3 := P2.c 3 rfl
  have p4 := P2.c 4 rfl
  have p5 := P2.c 5 rfl
  have p6 := P2.c 6 rfl
  have p7 := P2.c 7 rfl
  have p8 := P2.c 8 rfl
  have e0 := P2.f 0 rfl
  have zp := P2.1
  clear hb2
  have q0 := Q2.c 0 rfl
  have q1 := Q2.c 1 rfl
  have q2 := Q2.c 2 rfl
  have q3 := Q2.c 3 rfl
  have q4 := Q2.c 4 rfl
  have q5 := Q2.c 5 rfl
  have q6 := Q2.c 6 rfl
  have q7 := Q2.c 7 rfl
  have q8 := Q2.c 8 rfl
  have f0' := Q2.f 0 rfl
  have f1' := Q2.f 1 rfl
  have f2' := Q2.f 2 rfl
  have f3' := Q2.f 3 rfl
  have f4' := Q2.f 4 rfl
  have f5' := Q2.f 5 rfl
  have f6' := Q2.f 6 rfl
  have f7' := Q2.f 7 rfl
  have f8' := Q2.f 8 rfl
  have zq := Q2.1
  clear P2 Q2
  go_wp2_with (go_at_call 37; refine (T.out _).mono ?_; rintro r w3 ⟨rfl, rfl⟩)
  refine bodyPost_ret (v := .tuple #[.agg #[.slice none 0 0, .int .i64 0, .int .i64 0, .int .i64 0, .int .i64 0, .bool false, .int .i64 0, .int .i64 0, .bool false], .slice none 0 0, .int .i64 2]) (by simp [results, Try.results28, go_sem, q0, q1, q2, q3, q4, q5, q6, q7, q8, zq] <;> first | rfl | ((repeat' apply And.intro) <;> rfl)) rfl ⟨none, 0, 0, none, 0, 0, rfl, rfl, by omega, Bt.nil _ _, Fr.none _, rfl, by omega, Bt.nil _ _, Fr.none _, below_set9 hg2 (Nat.le_succ _) _ _ _ _ _ _ _ _ _⟩
set_option maxRecDepth 100000 in
set_option maxHeartbeats 16000000 in
theorem next28_end (A : Option Addr) (n c : Nat) (Nu Bl Se : Int) (Wt : Bool) (Gp Dl : Int) (Fl : Bool) (l : List Int) (t : Int) (w : World) (hv : vS n n Nu Bl Se Wt Gp Dl Fl = true) (ht : timeB t = true) : Calls Try.prog 28 #[.agg #[.slice A n c, .int .i64 n, .int .i64 Nu, .int .i64 Bl, .int .i64 Se, .bool Wt, .int .i64 Gp, .int .i64 Dl, .bool Fl], .int .i64 t] w (S3 szero [] 6 w) := by
  have V := fun w => validS46 A n c n Nu Bl Se Wt Gp Dl Fl w
  rw [hv] at V
  replace V := Lib.hid V
  have T := fun w => instant37 t w
  rw [ht] at T
  replace T := Lib.hid T
  clear hv ht
  go_enter Try.func28, Try.ntmps28
  go_wp2_with fail
  refine (V.out _).mono ?_
  rintro r w2 ⟨rfl, hb2⟩
  have hg2 := chain (w := w) (by go_grown) hb2
  have P2 := ((Cl.new (w := w) rfl [.slice A n c, .int .i64 n, .int .i64 Nu, .int .i64 Bl, .int .i64 Se, .bool Wt, .int .i64 Gp, .int .i64 Dl, .bool Fl] 40).below ((Below.refl _ _).alloc (Nat.le_refl _) _)).below hb2
  have Q2 := (Cl.new (P := w.heap.size + 1) (by simp) [.slice none 0 0, .int .i64 0, .int .i64 0, .int .i64 0, .int .i64 0, .bool false, .int .i64 0, .int .i64 0, .bool false] 40).below hb2
  have HP := Lib.hid P2
  have HQ := Lib.hid Q2
  have z2 := hb2.size
  simp at z2
  have p0 := P2.c 0 rfl
  have p1 := P2.c 1 rfl
  have p2 := P2.c 2 rfl
  have p3 := P2.c 3 rfl
  have p4 := P2.c 4 rfl
  have p5 := P2.c 5 rfl
  have p6 := P2.c 6 rfl
  have p7 := P2.c 7 rfl
  have p8 := P2.c 8 rfl
  have e0 := P2.f 0 rfl
  have zp := P2.1
  clear hb2
  have q0 := Q2.c 0 rfl
  have q1 := Q2.c 1 rfl
  have q2 := Q2.c 2 rfl
  have q3 := Q2.c 3 rfl
  have q4 := Q2.c 4 rfl
  have q5 := Q2.c 5 rfl
  have q6 := Q2.c 6 rfl
  have q7 := Q2.c 7 rfl
  have q8 := Q2.c 8 rfl
  have f0' := Q2.f 0 rfl
  have f1' := Q2.f 1 rfl
  have f2' := Q2.f 2 rfl
  have f3' := Q2.f 3 rfl
  have f4' := Q2.f 4 rfl
  have f5' := Q2.f 5 rfl
  have f6' := Q2.f 6 rfl
  have f7' := Q2.f 7 rfl
  have f8' := Q2.f 8 rfl
  have zq := Q2.1
  clear P2 Q2
  go_wp2_with (go_at_call 37; refine (T.out _).mono ?_; rintro r w3 ⟨rfl, rfl⟩)
  refine bodyPost_ret (v := .tuple #[.agg #[.slice none 0 0, .int .i64 0, .int .i64 0, .int .i64 0, .int .i64 0, .bool false, .int .i64 0, .int .i64 0, .bool false], .slice none 0 0, .int .i64 6]) (by simp [results, Try.results28, go_sem, q0, q1, q2, q3, q4, q5, q6, q7, q8, zq] <;> first | rfl | ((repeat' apply And.intro) <;> rfl)) rfl ⟨none, 0, 0, none, 0, 0, rfl, rfl, by omega, Bt.nil _ _, Fr.none _, rfl, by omega, Bt.nil _ _, Fr.none _, below_set9 hg2 (Nat.le_succ _) _ _ _ _ _ _ _ _ _⟩
set_option maxRecDepth 100000 in
set_option maxHeartbeats 16000000 in
theorem next28_fl (A : Option Addr) (n c : Nat) (At Nu Bl Se : Int) (Wt : Bool) (Gp Dl : Int) (l : List Int) (t : Int) (w : World) (hv : vS n At Nu Bl Se Wt Gp Dl true = true) (ht : timeB t = true) (ha : At < n) : Calls Try.prog 28 #[.agg #[.slice A n c, .int .i64 At, .int .i64 Nu, .int .i64 Bl, .int .i64 Se, .bool Wt, .int .i64 Gp, .int .i64 Dl, .bool true], .int .i64 t] w (S3 szero [] 6 w) := by
  have V := fun w => validS46 A n c At Nu Bl Se Wt Gp Dl true w
  rw [hv] at V
  replace V := Lib.hid V
  have T := fun w => instant37 t w
  rw [ht] at T
  replace T := Lib.hid T
  clear hv ht
  have hx : (At == (n : Int)) = false := by simp; omega
  clear ha
  go_enter Try.func28, Try.ntmps28
  go_wp2_with fail
  refine (V.out _).mono ?_
  rintro r w2 ⟨rfl, hb2⟩
  have hg2 := chain (w := w) (by go_grown) hb2
  have P2 := ((Cl.new (w := w) rfl [.slice A n c, .int .i64 At, .int .i64 Nu, .int .i64 Bl, .int .i64 Se, .bool Wt, .int .i64 Gp, .int .i64 Dl, .bool true] 40).below ((Below.refl _ _).alloc (Nat.le_refl _) _)).below hb2
  have Q2 := (Cl.new (P := w.heap.size + 1) (by simp) [.slice none 0 0, .int .i64 0, .int .i64 0, .int .i64 0, .int .i64 0, .bool false, .int .i64 0, .int .i64 0, .bool false] 40).below hb2
  have HP := Lib.hid P2
  have HQ := Lib.hid Q2
  have z2 := hb2.size
  simp at z2
  have p0 := P2.c 0 rfl
  have p1 := P2.c 1 rfl
  have p2 := P2.c 2 rfl
  have p3 := P2.c 3 rfl
  have p4 := P2.c 4 rfl
  have p5 := P2.c 5 rfl
  have p6 := P2.c 6 rfl
  have p7 := P2.c 7 rfl
  have p8 := P2.c 8 rfl
  have e0 := P2.f 0 rfl
  have zp := P2.1
  clear hb2
  have q0 := Q2.c 0 rfl
  have q1 := Q2.c 1 rfl
  have q2 := Q2.c 2 rfl
  have q3 := Q2.c 3 rfl
  have q4 := Q2.c 4 rfl
  have q5 := Q2.c 5 rfl
  have q6 := Q2.c 6 rfl
  have q7 := Q2.c 7 rfl
  have q8 := Q2.c 8 rfl
  have f0' := Q2.f 0 rfl
  have f1' := Q2.f 1 rfl
  have f2' := Q2.f 2 rfl
  have f3' := Q2.f 3 rfl
  have f4' := Q2.f 4 rfl
  have f5' := Q2.f 5 rfl
  have f6' := Q2.f 6 rfl
  have f7' := Q2.f 7 rfl
  have f8' := Q2.f 8 rfl
  have zq := Q2.1
  clear P2 Q2
  go_wp2_with (go_at_call 37; refine (T.out _).mono ?_; rintro r w3 ⟨rfl, rfl⟩)
  refine bodyPost_ret (v := .tuple #[.agg #[.slice none 0 0, .int .i64 0, .int .i64 0, .int .i64 0, .int .i64 0, .bool false, .int .i64 0, .int .i64 0, .bool false], .slice none 0 0, .int .i64 6]) (by simp [results, Try.results28, go_sem, q0, q1, q2, q3, q4, q5, q6, q7, q8, zq] <;> first | rfl | ((repeat' apply And.intro) <;> rfl)) rfl ⟨none, 0, 0, none, 0, 0, rfl, rfl, by omega, Bt.nil _ _, Fr.none _, rfl, by omega, Bt.nil _ _, Fr.none _, below_set9 hg2 (Nat.le_succ _) _ _ _ _ _ _ _ _ _⟩
set_option maxRecDepth 100000 in
set_option maxHeartbeats 16000000 in
theorem next28_wt (A : Option Addr) (n c : Nat) (At Nu Bl Se : Int) (Gp Dl : Int) (l : List Int) (t : Int) (w : World) (hv : vS n At Nu Bl Se true Gp Dl false = true) (ht : timeB t = true) (ha : At < n) : Calls Try.prog 28 #[.agg #[.slice A n c, .int .i64 At, .int .i64 Nu, .int .i64 Bl, .int .i64 Se, .bool true, .int .i64 Gp, .int .i64 Dl, .bool false], .int .i64 t] w (S3 szero [] 6 w) := by
  have V := fun w => validS46 A n c At Nu Bl Se true Gp Dl false w
  rw [hv] at V
  replace V := Lib.hid V
  have T := fun w => instant37 t w
  rw [ht] at T
  replace T := Lib.hid T
  clear hv ht
  have hx : (At == (n : Int)) = false := by simp; omega
  clear ha
  go_enter Try.func28, Try.ntmps28
  go_wp2_with fail
  refine (V.out _).mono ?_
  rintro r w2 ⟨rfl, hb2⟩
  have hg2 := chain (w := w) (by go_grown) hb2
  have P2 := ((Cl.new (w := w) rfl [.slice A n c, .int .i64 At, .int .i64 Nu, .int .i64 Bl, .int .i64 Se, .bool true, .int .i64 Gp, .int .i64 Dl, .bool false] 40).below ((Below.refl _ _).alloc (Nat.le_refl _) _)).below hb2
  have Q2 := (Cl.new (P := w.heap.size + 1) (by simp) [.slice none 0 0, .int .i64 0, .int .i64 0, .int .i64 0, .int .i64 0, .bool false, .int .i64 0, .int .i64 0, .bool false] 40).below hb2
  have HP := Lib.hid P2
  have HQ := Lib.hid Q2
  have z2 := hb2.size
  simp at z2
  have p0 := P2.c 0 rfl
  have p1 := P2.c 1 rfl
  have p2 := P2.c 2 rfl
  have p3 := P2.c 3 rfl
  have p4 := P2.c 4 rfl
  have p5 := P2.c 5 rfl
  have p6 := P2.c 6 rfl
  have p7 := P2.c 7 rfl
  have p8 := P2.c 8 rfl
  have e0 := P2.f 0 rfl
  have zp := P2.1
  clear hb2
  have q0 := Q2.c 0 rfl
  have q1 := Q2.c 1 rfl
  have q2 := Q2.c 2 rfl
  have q3 := Q2.c 3 rfl
  have q4 := Q2.c 4 rfl
  have q5 := Q2.c 5 rfl
  have q6 := Q2.c 6 rfl
  have q7 := Q2.c 7 rfl
  have q8 := Q2.c 8 rfl
  have f0' := Q2.f 0 rfl
  have f1' := Q2.f 1 rfl
  have f2' := Q2.f 2 rfl
  have f3' := Q2.f 3 rfl
  have f4' := Q2.f 4 rfl
  have f5' := Q2.f 5 rfl
  have f6' := Q2.f 6 rfl
  have f7' := Q2.f 7 rfl
  have f8' := Q2.f 8 rfl
  have zq := Q2.1
  clear P2 Q2
  go_wp2_with (go_at_call 37; refine (T.out _).mono ?_; rintro r w3 ⟨rfl, rfl⟩)
  refine bodyPost_ret (v := .tuple #[.agg #[.slice none 0 0, .int .i64 0, .int .i64 0, .int .i64 0, .int .i64 0, .bool false, .int .i64 0, .int .i64 0, .bool false], .slice none 0 0, .int .i64 6]) (by simp [results, Try.results28, go_sem, q0, q1, q2, q3, q4, q5, q6, q7, q8, zq] <;> first | rfl | ((repeat' apply And.intro) <;> rfl)) rfl ⟨none, 0, 0, none, 0, 0, rfl, rfl, by omega, Bt.nil _ _, Fr.none _, rfl, by omega, Bt.nil _ _, Fr.none _, below_set9 hg2 (Nat.le_succ _) _ _ _ _ _ _ _ _ _⟩
set_option maxRecDepth 100000 in
set_option maxHeartbeats 16000000 in
theorem next28_time (A : Option Addr) (n c : Nat) (At Nu Bl Se : Int) (Gp Dl : Int) (l : List Int) (t : Int) (w : World) (hv : vS n At Nu Bl Se false Gp Dl false = true) (ht : timeB t = true) (ha : At < n) (hx : t < Dl) : Calls Try.prog 28 #[.agg #[.slice A n c, .int .i64 At, .int .i64 Nu, .int .i64 Bl, .int .i64 Se, .bool false, .int .i64 Gp, .int .i64 Dl, .bool false], .int .i64 t] w (S3 szero [] 16 w) := by
  have V := fun w => validS46 A n c At Nu Bl Se false Gp Dl false w
  rw [hv] at V
  replace V := Lib.hid V
  have T := fun w => instant37 t w
  rw [ht] at T
  replace T := Lib.hid T
  clear hv ht
  have hy : (At == (n : Int)) = false := by simp; omega
  have hd : decide (t < Dl) = true := by simp [hx]
  clear ha
  go_enter Try.func28, Try.ntmps28
  go_wp2_with fail
  refine (V.out _).mono ?_
  rintro r w2 ⟨rfl, hb2⟩
  have hg2 := chain (w := w) (by go_grown) hb2
  have P2 := ((Cl.new (w := w) rfl [.slice A n c, .int .i64 At, .int .i64 Nu, .int .i64 Bl, .int .i64 Se, .bool false, .int .i64 Gp, .int .i64 Dl, .bool false] 40).below ((Below.refl _ _).alloc (Nat.le_refl _) _)).below hb2
  have Q2 := (Cl.new (P := w.heap.size + 1) (by simp) [.slice none 0 0, .int .i64 0, .int .i64 0, .int .i64 0, .int .i64 0, .bool false, .int .i64 0, .int .i64 0, .bool false] 40).below hb2
  have HP := Lib.hid P2
  have HQ := Lib.hid Q2
  have z2 := hb2.size
  simp at z2
  have p0 := P2.c 0 rfl
  have p1 := P2.c 1 rfl
  have p2 := P2.c 2 rfl
  have p3 := P2.c 3 rfl
  have p4 := P2.c 4 rfl
  have p5 := P2.c 5 rfl
  have p6 := P2.c 6 rfl
  have p7 := P2.c 7 rfl
  have p8 := P2.c 8 rfl
  have e0 := P2.f 0 rfl
  have zp := P2.1
  clear hb2
  have q0 := Q2.c 0 rfl
  have q1 := Q2.c 1 rfl
  have q2 := Q2.c 2 rfl
  have q3 := Q2.c 3 rfl
  have q4 := Q2.c 4 rfl
  have q5 := Q2.c 5 rfl
  have q6 := Q2.c 6 rfl
  have q7 := Q2.c 7 rfl
  have q8 := Q2.c 8 rfl
  have f0' := Q2.f 0 rfl
  have f1' := Q2.f 1 rfl
  have f2' := Q2.f 2 rfl
  have f3' := Q2.f 3 rfl
  have f4' := Q2.f 4 rfl
  have f5' := Q2.f 5 rfl
  have f6' := Q2.f 6 rfl
  have f7' := Q2.f 7 rfl
  have f8' := Q2.f 8 rfl
  have zq := Q2.1
  clear P2 Q2
  go_wp2_with (go_at_call 37; refine (T.out _).mono ?_; rintro r w3 ⟨rfl, rfl⟩)
  refine bodyPost_ret (v := .tuple #[.agg #[.slice none 0 0, .int .i64 0, .int .i64 0, .int .i64 0, .int .i64 0, .bool false, .int .i64 0, .int .i64 0, .bool false], .slice none 0 0, .int .i64 16]) (by simp [results, Try.results28, go_sem, q0, q1, q2, q3, q4, q5, q6, q7, q8, zq] <;> first | rfl | ((repeat' apply And.intro) <;> rfl)) rfl ⟨none, 0, 0, none, 0, 0, rfl, rfl, by omega, Bt.nil _ _, Fr.none _, rfl, by omega, Bt.nil _ _, Fr.none _, below_set9 hg2 (Nat.le_succ _) _ _ _ _ _ _ _ _ _⟩
end Go.Proofs.Ytfjeediecmhedaa
