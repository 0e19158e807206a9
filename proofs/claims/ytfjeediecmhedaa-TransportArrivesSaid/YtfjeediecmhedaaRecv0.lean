/-
  What Receive answers, in plain terms; the contract of failed; Receive where nothing is received. No condition but the slices' shape.
-/
import Derived.Test.YtfjeediecmhedaaSend
set_option linter.unusedVariables false
set_option linter.unusedSimpArgs false
namespace Go.Proofs.Ytfjeediecmhedaa
open Go.RowKit
/-- a receiver -/
structure RS where
  l : List Int
  Le : Int
  Nu : Int
  Bl : Int
  Gt : Int
  Bu : Bool
  Dn : Bool
  Dl : Int
  Fl : Bool
def rzero : RS := ⟨[], 0, 0, 0, 0, false, false, 0, false⟩
def RS.ok (s : RS) : Bool := vR s.l.length s.Le s.Nu s.Bl s.Gt s.Bu s.Dn s.Dl s.Fl
/-- a receiver, a frame and an error -/
def RP (s : RS) (fr : List Int) (e : Int) (w : World) (r : Ending) (w' : World) : Prop :=
  ∃ A n c B m d, r = .returned (.tuple #[.agg #[.slice A n c, .int .i64 s.Le, .int .i64 s.Nu, .int .i64 s.Bl, .int .i64 s.Gt, .bool s.Bu, .bool s.Dn, .int .i64 s.Dl, .bool s.Fl], .slice B m d, .int .i64 e]) ∧ n = s.l.length ∧ n ≤ c ∧ Bt w' A s.l ∧ Fr w.heap.size A ∧ m = fr.length ∧ m ≤ d ∧ Bt w' B fr ∧ Fr w.heap.size B ∧ Below w.heap.size w w'
def rcvM (s : RS) (f : List Int) (t : Int) : RS × List Int × Int :=
  if kindM f = 0 then (⟨(f.drop 1).take (f.getD 0 0 % 16).toNat, f.getD 0 0 % 16, 0, s.Bl, 0, false, true, 0, false⟩, [], 0)
  else if kindM f = 1 then (⟨f.drop 2, f.getD 0 0 % 16 * 256 + f.getD 1 0, 1, s.Bl, 0, true, false, t + 1000000, false⟩, pad [48, s.Bl, 0], 0)
  else if kindM f = 2 then
    (if s.Bu = false then (s, [], 0)
    else if s.Dl < t ∨ f.getD 0 0 % 16 ≠ s.Nu then (⟨[], 0, 0, s.Bl, 0, false, false, 0, true⟩, [], 0)
    else if (s.l ++ (f.drop 1).take (min 7 (s.Le.toNat - s.l.length))).length = s.Le.toNat then (⟨s.l ++ (f.drop 1).take (min 7 (s.Le.toNat - s.l.length)), s.Le, 0, s.Bl, 0, false, true, 0, false⟩, [], 0)
    else if s.Bl = 0 then (⟨s.l ++ (f.drop 1).take (min 7 (s.Le.toNat - s.l.length)), s.Le, (s.Nu + 1) % 16, s.Bl, s.Gt, true, false, t + 1000000, false⟩, [], 0)
    else if s.Gt + 1 = s.Bl then (⟨s.l ++ (f.drop 1).take (min 7 (s.Le.toNat - s.l.length)), s.Le, (s.Nu + 1) % 16, s.Bl, 0, true, false, t + 1000000, false⟩, pad [48, s.Bl, 0], 0)
    else (⟨s.l ++ (f.drop 1).take (min 7 (s.Le.toNat - s.l.length)), s.Le, (s.Nu + 1) % 16, s.Bl, s.Gt + 1, true, false, t + 1000000, false⟩, [], 0))
  else if kindM f = 3 then (s, [], 0)
  else (rzero, [], 3)
theorem kind_len {f : List Int} (h : 0 ≤ kindM f) : f.length = 8 := by
  by_cases e : f.length = 8
  · exact e
  · unfold kindM at h; rw [if_neg e] at h; omega
theorem kind35_at (F : Option Addr) (cF : Nat) (f : List Int) (k : Int) (w : World) (hb : Bt w F f) (hB : Byt f) (hc : 8 ≤ cF) (hk : kindM f = k) (h0 : 0 ≤ k) :
    Calls Try.prog 35 #[.slice F 8 cF] w fun r w' => r = .returned (.tuple #[.int .i64 k, .bool true]) ∧ Below w.heap.size w w' := by
  refine (kind35 F 8 cF f w (kind_len (by omega)) hb hB hc).mono ?_
  rintro r w' ⟨h, hb⟩
  rw [hk, if_neg (by omega), decide_eq_true h0] at h
  exact ⟨h, hb⟩
theorem kind35_no (F : Option Addr) (m cF : Nat) (f : List Int) (w : World) (hl : f.length = m) (hb : Bt w F f) (hB : Byt f) (hc : m ≤ cF) (hk : kindM f < 0) :
    Calls Try.prog 35 #[.slice F m cF] w fun r w' => r = .returned (.tuple #[.int .i64 0, .bool false]) ∧ Below w.heap.size w w' := by
  refine (kind35 F m cF f w hl hb hB hc).mono ?_
  rintro r w' ⟨h, hb⟩
  rw [if_pos hk, decide_eq_false (by omega)] at h
  exact ⟨h, hb⟩
theorem kind35_any (F : Option Addr) (m cF : Nat) (f : List Int) (w : World) (hl : f.length = m) (hb : Bt w F f) (hB : Byt f) (hc : m ≤ cF) :
    ∃ (v : Int) (o : Bool), ∀ w, Bt w F f → Calls Try.prog 35 #[.slice F m cF] w fun r w' => r = .returned (.tuple #[.int .i64 v, .bool o]) ∧ Below w.heap.size w w' :=
  ⟨_, _, fun w hb => (kind35 F m cF f w hl hb hB hc).mono fun r w' h => h⟩
set_option maxRecDepth 100000 in
set_option maxHeartbeats 2000000 in
theorem recv13_arg (A : Option Addr) (n c : Nat) (Le Nu Bl Gt : Int) (Bu Dn : Bool) (Dl : Int) (Fl : Bool) (l : List Int) (F : Option Addr) (m cF : Nat) (f : List Int) (t : Int) (w : World) (hl : l.length = n) (hb : Bt w A l) (hc : n ≤ c) (hfl : f.length = m) (hfb : Bt w F f) (hfB : Byt f) (hfc : m ≤ cF) (hv : vR n Le Nu Bl Gt Bu Dn Dl Fl = false) : Calls Try.prog 13 #[.agg #[.slice A n c, .int .i64 Le, .int .i64 Nu, .int .i64 Bl, .int .i64 Gt, .bool Bu, .bool Dn, .int .i64 Dl, .bool Fl], .slice F m cF, .int .i64 t] w (RP rzero [] 1 w) := by
  obtain ⟨kv, ko, K⟩ := kind35_any F m cF f w hfl hfb hfB hfc
  replace K := Lib.hid K
  have V := fun w => validR36 A n c Le Nu Bl Gt Bu Dn Dl Fl w
  rw [hv] at V
  replace V := Lib.hid V
  clear hv
  have HFB := Lib.hid hfb
  go_enter Try.func13, Try.ntmps13
  go_wp2_with fail
  refine (K.out _ (HFB.out.below (by go_grown))).mono ?_
  rintro r w1 ⟨rfl, hb1⟩
  have hg1 := chain (w := w) (by go_grown) hb1
  have P1 := ((Cl.new (w := w) rfl [.slice A n c, .int .i64 Le, .int .i64 Nu, .int .i64 Bl, .int .i64 Gt, .bool Bu, .bool Dn, .int .i64 Dl, .bool Fl] 30).below ((Below.refl _ _).alloc (Nat.le_refl _) _)).below hb1
  have Q1 := (Cl.new (P := w.heap.size + 1) (by simp) [.slice none 0 0, .int .i64 0, .int .i64 0, .int .i64 0, .int .i64 0, .bool false, .bool false, .int .i64 0, .bool false] 30).below hb1
  have HP := Lib.hid P1
  have HQ := Lib.hid Q1
  obtain ⟨p0, p1, p2, p3, p4, p5, p6, p7, p8⟩ := P1.cells9
  have zp := P1.1
  clear P1 Q1 hb1
  go_wp2_with fail
  refine (V.out _).mono ?_
  rintro r w2 ⟨rfl, hb2⟩
  have hg2 := chain hg1 hb2
  have P2 := HP.out.below hb2
  have Q2 := HQ.out.below hb2
  clear p0 p1 p2 p3 p4 p5 p6 p7 p8 zp HP HQ hb2 hg1
  have HP := Lib.hid P2
  have HQ := Lib.hid Q2
  obtain ⟨q0, q1, q2, q3, q4, q5, q6, q7, q8⟩ := Q2.cells9
  obtain ⟨f0, f1, f2, f3, f4, f5, f6, f7, f8⟩ := Q2.free9
  have zq := Q2.1
  clear P2 Q2
  go_wp2_with fail
  refine bodyPost_ret (v := .tuple #[.agg #[.slice none 0 0, .int .i64 0, .int .i64 0, .int .i64 0, .int .i64 0, .bool false, .bool false, .int .i64 0, .bool false], .slice none 0 0, .int .i64 1]) (by simp [results, Try.results13, go_sem, q0, q1, q2, q3, q4, q5, q6, q7, q8, zq] <;> first | rfl | ((repeat' apply And.intro) <;> rfl)) rfl ⟨none, 0, 0, none, 0, 0, rfl, rfl, by omega, Bt.nil _ _, Fr.none _, rfl, by omega, Bt.nil _ _, Fr.none _, below_set9 hg2 (by omega) _ _ _ _ _ _ _ _ _⟩
set_option maxRecDepth 100000 in
set_option maxHeartbeats 2000000 in
theorem recv13_range (A : Option Addr) (n c : Nat) (Le Nu Bl Gt : Int) (Bu Dn : Bool) (Dl : Int) (Fl : Bool) (l : List Int) (F : Option Addr) (m cF : Nat) (f : List Int) (t : Int) (w : World) (hl : l.length = n) (hb : Bt w A l) (hc : n ≤ c) (hfl : f.length = m) (hfb : Bt w F f) (hfB : Byt f) (hfc : m ≤ cF) (hv : vR n Le Nu Bl Gt Bu Dn Dl Fl = true) (ht : timeB t = false) : Calls Try.prog 13 #[.agg #[.slice A n c, .int .i64 Le, .int .i64 Nu, .int .i64 Bl, .int .i64 Gt, .bool Bu, .bool Dn, .int .i64 Dl, .bool Fl], .slice F m cF, .int .i64 t] w (RP rzero [] 2 w) := by
  obtain ⟨kv, ko, K⟩ := kind35_any F m cF f w hfl hfb hfB hfc
  replace K := Lib.hid K
  have T := fun w => instant37 t w
  rw [ht] at T
  replace T := Lib.hid T
  clear ht
  have V := fun w => validR36 A n c Le Nu Bl Gt Bu Dn Dl Fl w
  rw [hv] at V
  replace V := Lib.hid V
  clear hv
  have HFB := Lib.hid hfb
  go_enter Try.func13, Try.ntmps13
  go_wp2_with fail
  refine (K.out _ (HFB.out.below (by go_grown))).mono ?_
  rintro r w1 ⟨rfl, hb1⟩
  have hg1 := chain (w := w) (by go_grown) hb1
  have P1 := ((Cl.new (w := w) rfl [.slice A n c, .int .i64 Le, .int .i64 Nu, .int .i64 Bl, .int .i64 Gt, .bool Bu, .bool Dn, .int .i64 Dl, .bool Fl] 30).below ((Below.refl _ _).alloc (Nat.le_refl _) _)).below hb1
  have Q1 := (Cl.new (P := w.heap.size + 1) (by simp) [.slice none 0 0, .int .i64 0, .int .i64 0, .int .i64 0, .int .i64 0, .bool false, .bool false, .int .i64 0, .bool false] 30).below hb1
  have HP := Lib.hid P1
  have HQ := Lib.hid Q1
  obtain ⟨p0, p1, p2, p3, p4, p5, p6, p7, p8⟩ := P1.cells9
  have zp := P1.1
  clear P1 Q1 hb1
  go_wp2_with fail
  refine (V.out _).mono ?_
  rintro r w2 ⟨rfl, hb2⟩
  have hg2 := chain hg1 hb2
  have P2 := HP.out.below hb2
  have Q2 := HQ.out.below hb2
  clear p0 p1 p2 p3 p4 p5 p6 p7 p8 zp HP HQ hb2 hg1
  have HP := Lib.hid P2
  have HQ := Lib.hid Q2
  obtain ⟨q0, q1, q2, q3, q4, q5, q6, q7, q8⟩ := Q2.cells9
  obtain ⟨f0, f1, f2, f3, f4, f5, f6, f7, f8⟩ := Q2.free9
  have zq := Q2.1
  clear P2 Q2
  go_wp2_with (go_at_call 37; refine (T.out _).mono ?_; rintro r w3 ⟨rfl, rfl⟩)
  refine bodyPost_ret (v := .tuple #[.agg #[.slice none 0 0, .int .i64 0, .int .i64 0, .int .i64 0, .int .i64 0, .bool false, .bool false, .int .i64 0, .bool false], .slice none 0 0, .int .i64 2]) (by simp [results, Try.results13, go_sem, q0, q1, q2, q3, q4, q5, q6, q7, q8, zq] <;> first | rfl | ((repeat' apply And.intro) <;> rfl)) rfl ⟨none, 0, 0, none, 0, 0, rfl, rfl, by omega, Bt.nil _ _, Fr.none _, rfl, by omega, Bt.nil _ _, Fr.none _, below_set9 hg2 (by omega) _ _ _ _ _ _ _ _ _⟩
set_option maxRecDepth 100000 in
set_option maxHeartbeats 2000000 in
theorem recv13_form (A : Option Addr) (n c : Nat) (Le Nu Bl Gt : Int) (Bu Dn : Bool) (Dl : Int) (Fl : Bool) (l : List Int) (F : Option Addr) (m cF : Nat) (f : List Int) (t : Int) (w : World) (hl : l.length = n) (hb : Bt w A l) (hc : n ≤ c) (hfl : f.length = m) (hfb : Bt w F f) (hfB : Byt f) (hfc : m ≤ cF) (hv : vR n Le Nu Bl Gt Bu Dn Dl Fl = true) (ht : timeB t = true) (hk : kindM f < 0) : Calls Try.prog 13 #[.agg #[.slice A n c, .int .i64 Le, .int .i64 Nu, .int .i64 Bl, .int .i64 Gt, .bool Bu, .bool Dn, .int .i64 Dl, .bool Fl], .slice F m cF, .int .i64 t] w (RP rzero [] 3 w) := by
  have K := fun w h => kind35_no F m cF f w hfl h hfB hfc hk
  replace K := Lib.hid K
  have T := fun w => instant37 t w
  rw [ht] at T
  replace T := Lib.hid T
  clear ht
  have V := fun w => validR36 A n c Le Nu Bl Gt Bu Dn Dl Fl w
  rw [hv] at V
  replace V := Lib.hid V
  clear hv
  have HFB := Lib.hid hfb
  go_enter Try.func13, Try.ntmps13
  go_wp2_with fail
  refine (K.out _ (HFB.out.below (by go_grown))).mono ?_
  rintro r w1 ⟨rfl, hb1⟩
  have hg1 := chain (w := w) (by go_grown) hb1
  have P1 := ((Cl.new (w := w) rfl [.slice A n c, .int .i64 Le, .int .i64 Nu, .int .i64 Bl, .int .i64 Gt, .bool Bu, .bool Dn, .int .i64 Dl, .bool Fl] 30).below ((Below.refl _ _).alloc (Nat.le_refl _) _)).below hb1
  have Q1 := (Cl.new (P := w.heap.size + 1) (by simp) [.slice none 0 0, .int .i64 0, .int .i64 0, .int .i64 0, .int .i64 0, .bool false, .bool false, .int .i64 0, .bool false] 30).below hb1
  have HP := Lib.hid P1
  have HQ := Lib.hid Q1
  obtain ⟨p0, p1, p2, p3, p4, p5, p6, p7, p8⟩ := P1.cells9
  have zp := P1.1
  clear P1 Q1 hb1
  go_wp2_with fail
  refine (V.out _).mono ?_
  rintro r w2 ⟨rfl, hb2⟩
  have hg2 := chain hg1 hb2
  have P2 := HP.out.below hb2
  have Q2 := HQ.out.below hb2
  clear p0 p1 p2 p3 p4 p5 p6 p7 p8 zp HP HQ hb2 hg1
  have HP := Lib.hid P2
  have HQ := Lib.hid Q2
  obtain ⟨q0, q1, q2, q3, q4, q5, q6, q7, q8⟩ := Q2.cells9
  obtain ⟨f0, f1, f2, f3, f4, f5, f6, f7, f8⟩ := Q2.free9
  have zq := Q2.1
  clear P2 Q2
  go_wp2_with (go_at_call 37; refine (T.out _).mono ?_; rintro r w3 ⟨rfl, rfl⟩)
  refine bodyPost_ret (v := .tuple #[.agg #[.slice none 0 0, .int .i64 0, .int .i64 0, .int .i64 0, .int .i64 0, .bool false, .bool false, .int .i64 0, .bool false], .slice none 0 0, .int .i64 3]) (by simp [results, Try.results13, go_sem, q0, q1, q2, q3, q4, q5, q6, q7, q8, zq] <;> first | rfl | ((repeat' apply And.intro) <;> rfl)) rfl ⟨none, 0, 0, none, 0, 0, rfl, rfl, by omega, Bt.nil _ _, Fr.none _, rfl, by omega, Bt.nil _ _, Fr.none _, below_set9 hg2 (by omega) _ _ _ _ _ _ _ _ _⟩
end Go.Proofs.Ytfjeediecmhedaa
