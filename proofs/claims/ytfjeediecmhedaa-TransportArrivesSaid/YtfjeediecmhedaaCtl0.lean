/-
  Control where it refuses. No condition but the slices' shape.
-/
import Derived.Test.YtfjeediecmhedaaNext0
import Derived.Test.YtfjeediecmhedaaHeld3
import Derived.Test.YtfjeediecmhedaaRSend
set_option linter.unusedVariables false
set_option linter.unusedSimpArgs false
namespace Go.Proofs.Ytfjeediecmhedaa
open Go.RowKit
set_option maxRecDepth 100000 in
set_option maxHeartbeats 16000000 in
theorem ctl27_arg (A : Option Addr) (n c : Nat) (At Nu Bl Se : Int) (Wt : Bool) (Gp Dl : Int) (Fl : Bool) (l : List Int) (F : Option Addr) (m cF : Nat) (f : List Int) (t : Int) (w : World) (hfl : f.length = m) (hfb : Bt w F f) (hfB : Byt f) (hfc : m ≤ cF) (hv : vS n At Nu Bl Se Wt Gp Dl Fl = false) : Calls Try.prog 27 #[.agg #[.slice A n c, .int .i64 At, .int .i64 Nu, .int .i64 Bl, .int .i64 Se, .bool Wt, .int .i64 Gp, .int .i64 Dl, .bool Fl], .slice F m cF, .int .i64 t] w (S2 szero 1 w) := by
  obtain ⟨kv, ko, K⟩ := kind35_any F m cF f w hfl hfb hfB hfc
  replace K := Lib.hid K
  have HFB := Lib.hid hfb
  clear hfb hfB
  have V := fun w => validS46 A n c At Nu Bl Se Wt Gp Dl Fl w
  rw [hv] at V
  replace V := Lib.hid V
  clear hv
  go_enter Try.func27, Try.ntmps27
  go_wp2_with fail
  refine (K.out _ (HFB.out.below (by go_grown))).mono ?_
  rintro r w1 ⟨rfl, hb1⟩
  have hg1 := chain (w := w) (by go_grown) hb1
  have P1 := ((Cl.new (w := w) rfl [.slice A n c, .int .i64 At, .int .i64 Nu, .int .i64 Bl, .int .i64 Se, .bool Wt, .int .i64 Gp, .int .i64 Dl, .bool Fl] 40).below ((Below.refl _ _).alloc (Nat.le_refl _) _)).below hb1
  have Q1 := (Cl.new (P := w.heap.size + 1) (by simp) [.slice none 0 0, .int .i64 0, .int .i64 0, .int .i64 0, .int .i64 0, .bool false, .int .i64 0, .int .i64 0, .bool false] 40).below hb1
  have HP := Lib.hid P1
  have HQ := Lib.hid Q1
  have p0 := P1.c 0 rfl
  have p1 := P1.c 1 rfl
  have p2 := P1.c 2 rfl
  have p3 := P1.c 3 rfl
  have p4 := P1.c 4 rfl
  have p5 := P1.c 5 rfl
  have p6 := P1.c 6 rfl
  have p7 := P1.c 7 rfl
  have p8 := P1.c 8 rfl
  have zp := P1.1
  clear P1 Q1 hb1
  go_wp2_with fail
  refine (V.out _).mono ?_
  rintro r w2 ⟨rfl, hb2⟩
  have hg2 := chain hg1 hb2
  have P2 := HP.out.below hb2
  have Q2 := HQ.out.below hb2
  clear p0 p1 p2 p3 p4 p5 p6 p7 p8 zp HP HQ hb2 hg1
  have p0 := P2.c 0 rfl
  have p1 := P2.c 1 rfl
  have p2 := P2.c 2 rfl
  have p3 := P2.c 3 rfl
  have p4 := P2.c 4 rfl
  have p5 := P2.c 5 rfl
  have p6 := P2.c 6 rfl
  have p7 := P2.c 7 rfl
  have p8 := P2.c 8 rfl
  have zp := P2.1
  have e0 := P2.f 0 rfl
  have HP := Lib.hid P2
  have HQ := Lib.hid Q2
  have q0 := Q2.c 0 rfl
  have q1 := Q2.c 1 rfl
  have q2 := Q2.c 2 rfl
  have q3 := Q2.c 3 rfl
  have q4 := Q2.c 4 rfl
  have q5 := Q2.c 5 rfl
  have q6 := Q2.c 6 rfl
  have q7 := Q2.c 7 rfl
  have q8 := Q2.c 8 rfl
  have f0' := Q2.f 0 rfl
  have f1' := Q2.f 1 rfl
  have f2' := Q2.f 2 rfl
  have f3' := Q2.f 3 rfl
  have f4' := Q2.f 4 rfl
  have f5' := Q2.f 5 rfl
  have f6' := Q2.f 6 rfl
  have f7' := Q2.f 7 rfl
  have f8' := Q2.f 8 rfl
  have zq := Q2.1
  clear P2 Q2
  go_wp2_with fail
  refine bodyPost_ret (v := .tuple #[.agg #[.slice none 0 0, .int .i64 0, .int .i64 0, .int .i64 0, .int .i64 0, .bool false, .int .i64 0, .int .i64 0, .bool false], .int .i64 1]) (by simp [results, Try.results27, go_sem, q0, q1, q2, q3, q4, q5, q6, q7, q8, zq] <;> first | rfl | ((repeat' apply And.intro) <;> rfl)) rfl ⟨none, 0, 0, rfl, rfl, by omega, Bt.nil _ _, Fr.none _, below_set9 hg2 (Nat.le_succ _) _ _ _ _ _ _ _ _ _⟩
set_option maxRecDepth 100000 in
set_option maxHeartbeats 16000000 in
theorem ctl27_range (A : Option Addr) (n c : Nat) (At Nu Bl Se : Int) (Wt : Bool) (Gp Dl : Int) (Fl : Bool) (l : List Int) (F : Option Addr) (m cF : Nat) (f : List Int) (t : Int) (w : World) (hfl : f.length = m) (hfb : Bt w F f) (hfB : Byt f) (hfc : m ≤ cF) (hv : vS n At Nu Bl Se Wt Gp Dl Fl = true) (ht : timeB t = false) : Calls Try.prog 27 #[.agg #[.slice A n c, .int .i64 At, .int .i64 Nu, .int .i64 Bl, .int .i64 Se, .bool Wt, .int .i64 Gp, .int .i64 Dl, .bool Fl], .slice F m cF, .int .i64 t] w (S2 szero 2 w) := by
  obtain ⟨kv, ko, K⟩ := kind35_any F m cF f w hfl hfb hfB hfc
  replace K := Lib.hid K
  have HFB := Lib.hid hfb
  clear hfb hfB
  have V := fun w => validS46 A n c At Nu Bl Se Wt Gp Dl Fl w
  rw [hv] at V
  replace V := Lib.hid V
  have T := fun w => instant37 t w
  rw [ht] at T
  replace T := Lib.hid T
  clear hv ht
  go_enter Try.func27, Try.ntmps27
  go_wp2_with fail
  refine (K.out _ (HFB.out.below (by go_grown))).mono ?_
  rintro r w1 ⟨rfl, hb1⟩
  have hg1 := chain (w := w) (by go_grown) hb1
  have P1 := ((Cl.new (w := w) rfl [.slice A n c, .int .i64 At, .int .i64 Nu, .int .i64 Bl, .int .i64 Se, .bool Wt, .int .i64 Gp, .int .i64 Dl, .bool Fl] 40).below ((Below.refl _ _).alloc (Nat.le_refl _) _)).below hb1
  have Q1 := (Cl.new (P := w.heap.size + 1) (by simp) [.slice none 0 0, .int .i64 0, .int .i64 0, .int .i64 0, .int .i64 0, .bool false, .int .i64 0, .int .i64 0, .bool false] 40).below hb1
  have HP := Lib.hid P1
  have HQ := Lib.hid Q1
  have p0 := P1.c 0 rfl
  have p1 := P1.c 1 rfl
  have p2 := P1.c 2 rfl
  have p3 := P1.c 3 rfl
  have p4 := P1.c 4 rfl
  have p5 := P1.c 5 rfl
  have p6 := P1.c 6 rfl
  have p7 := P1.c 7 rfl
  have p8 := P1.c 8 rfl
  have zp := P1.1
  clear P1 Q1 hb1
  go_wp2_with fail
  refine (V.out _).mono ?_
  rintro r w2 ⟨rfl, hb2⟩
  have hg2 := chain hg1 hb2
  have P2 := HP.out.below hb2
  have Q2 := HQ.out.below hb2
  clear p0 p1 p2 p3 p4 p5 p6 p7 p8 zp HP HQ hb2 hg1
  have p0 := P2.c 0 rfl
  have p1 := P2.c 1 rfl
  have p2 := P2.c 2 rfl
  have p3 := P2.c 3 rfl
  have p4 := P2.c 4 rfl
  have p5 := P2.c 5 rfl
  have p6 := P2.c 6 rfl
  have p7 := P2.c 7 rfl
  have p8 := P2.c 8 rfl
  have zp := P2.1
  have e0 := P2.f 0 rfl
  have HP := Lib.hid P2
  have HQ := Lib.hid Q2
  have q0 := Q2.c 0 rfl
  have q1 := Q2.c 1 rfl
  have q2 := Q2.c 2 rfl
  have q3 := Q2.c 3 rfl
  have q4 := Q2.c 4 rfl
  have q5 := Q2.c 5 rfl
  have q6 := Q2.c 6 rfl
  have q7 := Q2.c 7 rfl
  have q8 := Q2.c 8 rfl
  have f0' := Q2.f 0 rfl
  have f1' := Q2.f 1 rfl
  have f2' := Q2.f 2 rfl
  have f3' := Q2.f 3 rfl
  have f4' := Q2.f 4 rfl
  have f5' := Q2.f 5 rfl
  have f6' := Q2.f 6 rfl
  have f7' := Q2.f 7 rfl
  have f8' := Q2.f 8 rfl
  have zq := Q2.1
  clear P2 Q2
  go_wp2_with (go_at_call 37; refine (T.out _).mono ?_; rintro r w3 ⟨rfl, rfl⟩)
  refine bodyPost_ret (v := .tuple #[.agg #[.slice none 0 0, .int .i64 0, .int .i64 0, .int .i64 0, .int .i64 0, .bool false, .int .i64 0, .int .i64 0, .bool false], .int .i64 2]) (by simp [results, Try.results27, go_sem, q0, q1, q2, q3, q4, q5, q6, q7, q8, zq] <;> first | rfl | ((repeat' apply And.intro) <;> rfl)) rfl ⟨none, 0, 0, rfl, rfl, by omega, Bt.nil _ _, Fr.none _, below_set9 hg2 (Nat.le_succ _) _ _ _ _ _ _ _ _ _⟩
set_option maxRecDepth 100000 in
set_option maxHeartbeats 16000000 in
theorem ctl27_none (A : Option Addr) (n c : Nat) (At Nu Bl Se : Int) (Wt : Bool) (Gp Dl : Int) (Fl : Bool) (l : List Int) (F : Option Addr) (m cF : Nat) (f : List Int) (t : Int) (w : World) (hfl : f.length = m) (hfb : Bt w F f) (hfB : Byt f) (hfc : m ≤ cF) (hv : vS n At Nu Bl Se Wt Gp Dl Fl = true) (ht : timeB t = true) (hk : kindM f < 0) : Calls Try.prog 27 #[.agg #[.slice A n c, .int .i64 At, .int .i64 Nu, .int .i64 Bl, .int .i64 Se, .bool Wt, .int .i64 Gp, .int .i64 Dl, .bool Fl], .slice F m cF, .int .i64 t] w (S2 szero 3 w) := by
  have K := fun w h => kind35_no F m cF f w hfl h hfB hfc hk
  replace K := Lib.hid K
  have HFB := Lib.hid hfb
  clear hfb hfB hk
  have V := fun w => validS46 A n c At Nu Bl Se Wt Gp Dl Fl w
  rw [hv] at V
  replace V := Lib.hid V
  have T := fun w => instant37 t w
  rw [ht] at T
  replace T := Lib.hid T
  clear hv ht
  go_enter Try.func27, Try.ntmps27
  go_wp2_with fail
  refine (K.out _ (HFB.out.below (by go_grown))).mono ?_
  rintro r w1 ⟨rfl, hb1⟩
  have hg1 := chain (w := w) (by go_grown) hb1
  have P1 := ((Cl.new (w := w) rfl [.slice A n c, .int .i64 At, .int .i64 Nu, .int .i64 Bl, .int .i64 Se, .bool Wt, .int .i64 Gp, .int .i64 Dl, .bool Fl] 40).below ((Below.refl _ _).alloc (Nat.le_refl _) _)).below hb1
  have Q1 := (Cl.new (P := w.heap.size + 1) (by simp) [.slice none 0 0, .int .i64 0, .int .i64 0, .int .i64 0, .int .i64 0, .bool false, .int .i64 0, .int .i64 0, .bool false] 40).below hb1
  have HP := Lib.hid P1
  have HQ := Lib.hid Q1
  have p0 := P1.c 0 rfl
  have p1 := P1.c 1 rfl
  have p2 := P1.c 2 rfl
  have p3 := P1.c 3 rfl
  have p4 := P1.c 4 rfl
  have p5 := P1.c 5 rfl
  have p6 := P1.c 6 rfl
  have p7 := P1.c 7 rfl
  have p8 := P1.c 8 rfl
  have zp := P1.1
  clear P1 Q1 hb1
  go_wp2_with fail
  refine (V.out _).mono ?_
  rintro r w2 ⟨rfl, hb2⟩
  have hg2 := chain hg1 hb2
  have P2 := HP.out.below hb2
  have Q2 := HQ.out.below hb2
  clear p0 p1 p2 p3 p4 p5 p6 p7 p8 zp HP HQ hb2 hg1
  have p0 := P2.c 0 rfl
  have p1 := P2.c 1 rfl
  have p2 := P2.c 2 rfl
  have p3 := P2.c 3 rfl
  have p4 := P2.c 4 rfl
  have p5 := P2.c 5 rfl
  have p6 := P2.c 6 rfl
  have p7 := P2.c 7 rfl
  have p8 := P2.c 8 rfl
  have zp := P2.1
  have e0 := P2.f 0 rfl
  have HP := Lib.hid P2
  have HQ := Lib.hid Q2
  have q0 := Q2.c 0 rfl
  have q1 := Q2.c 1 rfl
  have q2 := Q2.c 2 rfl
  have q3 := Q2.c 3 rfl
  have q4 := Q2.c 4 rfl
  have q5 := Q2.c 5 rfl
  have q6 := Q2.c 6 rfl
  have q7 := Q2.c 7 rfl
  have q8 := Q2.c 8 rfl
  have f0' := Q2.f 0 rfl
  have f1' := Q2.f 1 rfl
  have f2' := Q2.f 2 rfl
  have f3' := Q2.f 3 rfl
  have f4' := Q2.f 4 rfl
  have f5' := Q2.f 5 rfl
  have f6' := Q2.f 6 rfl
  have f7' := Q2.f 7 rfl
  have f8' := Q2.f 8 rfl
  have zq := Q2.1
  clear P2 Q2
  go_wp2_with (go_at_call 37; refine (T.out _).mono ?_; rintro r w3 ⟨rfl, rfl⟩)
  refine bodyPost_ret (v := .tuple #[.agg #[.slice none 0 0, .int .i64 0, .int .i64 0, .int .i64 0, .int .i64 0, .bool false, .int .i64 0, .int .i64 0, .bool false], .int .i64 3]) (by simp [results, Try.results27, go_sem, q0, q1, q2, q3, q4, q5, q6, q7, q8, zq] <;> first | rfl | ((repeat' apply And.intro) <;> rfl)) rfl ⟨none, 0, 0, rfl, rfl, by omega, Bt.nil _ _, Fr.none _, below_set9 hg2 (Nat.le_succ _) _ _ _ _ _ _ _ _ _⟩
set_option maxRecDepth 100000 in
set_option maxHeartbeats 16000000 in
theorem ctl27_other (A : Option Addr) (n c : Nat) (At Nu Bl Se : Int) (Wt : Bool) (Gp Dl : Int) (Fl : Bool) (l : List Int) (F : Option Addr) (cF : Nat) (f : List Int) (t : Int) (w : World) (k : Int) (hfb : Bt w F f) (hfB : Byt f) (hfc : 8 ≤ cF) (hk : kindM f = k) (h0 : 0 ≤ k) (h3 : k < 3) (hv : vS n At Nu Bl Se Wt Gp Dl Fl = true) (ht : timeB t = true) : Calls Try.prog 27 #[.agg #[.slice A n c, .int .i64 At, .int .i64 Nu, .int .i64 Bl, .int .i64 Se, .bool Wt, .int .i64 Gp, .int .i64 Dl, .bool Fl], .slice F 8 cF, .int .i64 t] w (S2 szero 3 w) := by
  have K := fun w h => kind35_at F cF f k w h hfB hfc hk h0
  replace K := Lib.hid K
  have HFB := Lib.hid hfb
  have hk3 : (k != 3) = true := by simp; omega
  clear hfb hfB hk h0 h3
  have V := fun w => validS46 A n c At Nu Bl Se Wt Gp Dl Fl w
  rw [hv] at V
  replace V := Lib.hid V
  have T := fun w => instant37 t w
  rw [ht] at T
  replace T := Lib.hid T
  clear hv ht
  go_enter Try.func27, Try.ntmps27
  go_wp2_with fail
  refine (K.out _ (HFB.out.below (by go_grown))).mono ?_
  rintro r w1 ⟨rfl, hb1⟩
  have hg1 := chain (w := w) (by go_grown) hb1
  have P1 := ((Cl.new (w := w) rfl [.slice A n c, .int .i64 At, .int .i64 Nu, .int .i64 Bl, .int .i64 Se, .bool Wt, .int .i64 Gp, .int .i64 Dl, .bool Fl] 40).below ((Below.refl _ _).alloc (Nat.le_refl _) _)).below hb1
  have Q1 := (Cl.new (P := w.heap.size + 1) (by simp) [.slice none 0 0, .int .i64 0, .int .i64 0, .int .i64 0, .int .i64 0, .bool false, .int .i64 0, .int .i64 0, .bool false] 40).below hb1
  have HP := Lib.hid P1
  have HQ := Lib.hid Q1
  have p0 := P1.c 0 rfl
  have p1 := P1.c 1 rfl
  have p2 := P1.c 2 rfl
  have p3 := P1.c 3 rfl
  have p4 := P1.c 4 rfl
  have p5 := P1.c 5 rfl
  have p6 := P1.c 6 rfl
  have p7 := P1.c 7 rfl
  have p8 := P1.c 8 rfl
  have zp := P1.1
  clear P1 Q1 hb1
  go_wp2_with fail
  refine (V.out _).mono ?_
  rintro r w2 ⟨rfl, hb2⟩
  have hg2 := chain hg1 hb2
  have P2 := HP.out.below hb2
  have Q2 := HQ.out.below hb2
  clear p0 p1 p2 p3 p4 p5 p6 p7 p8 zp HP HQ hb2 hg1
  have p0 := P2.c 0 rfl
  have p1 := P2.c 1 rfl
  have p2 := P2.c 2 rfl
  have p3 := P2.c 3 rfl
  have p4 := P2.c 4 rfl
  have p5 := P2.c 5 rfl
  have p6 := P2.c 6 rfl
  have p7 := P2.c 7 rfl
  have p8 := P2.c 8 rfl
  have zp := P2.1
  have e0 := P2.f 0 rfl
  have HP := Lib.hid P2
  have HQ := Lib.hid Q2
  have q0 := Q2.c 0 rfl
  have q1 := Q2.c 1 rfl
  have q2 := Q2.c 2 rfl
  have q3 := Q2.c 3 rfl
  have q4 := Q2.c 4 rfl
  have q5 := Q2.c 5 rfl
  have q6 := Q2.c 6 rfl
  have q7 := Q2.c 7 rfl
  have q8 := Q2.c 8 rfl
  have f0' := Q2.f 0 rfl
  have f1' := Q2.f 1 rfl
  have f2' := Q2.f 2 rfl
  have f3' := Q2.f 3 rfl
  have f4' := Q2.f 4 rfl
  have f5' := Q2.f 5 rfl
  have f6' := Q2.f 6 rfl
  have f7' := Q2.f 7 rfl
  have f8' := Q2.f 8 rfl
  have zq := Q2.1
  clear P2 Q2
  go_wp2_with (go_at_call 37; refine (T.out _).mono ?_; rintro r w3 ⟨rfl, rfl⟩)
  refine bodyPost_ret (v := .tuple #[.agg #[.slice none 0 0, .int .i64 0, .int .i64 0, .int .i64 0, .int .i64 0, .bool false, .int .i64 0, .int .i64 0, .bool false], .int .i64 3]) (by simp [results, Try.results27, go_sem, q0, q1, q2, q3, q4, q5, q6, q7, q8, zq] <;> first | rfl | ((repeat' apply And.intro) <;> rfl)) rfl ⟨none, 0, 0, rfl, rfl, by omega, Bt.nil _ _, Fr.none _, below_set9 hg2 (Nat.le_succ _) _ _ _ _ _ _ _ _ _⟩
set_option maxRecDepth 100000 in
set_option maxHeartbeats 16000000 in
theorem ctl27_state (A : Option Addr) (n c : Nat) (At Nu Bl Se : Int) (Gp Dl : Int) (Fl : Bool) (l : List Int) (F : Option Addr) (cF : Nat) (f : List Int) (t : Int) (w : World) (hfb : Bt w F f) (hfB : Byt f) (hfc : 8 ≤ cF) (hk : kindM f = 3) (hv : vS n At Nu Bl Se false Gp Dl Fl = true) (ht : timeB t = true) : Calls Try.prog 27 #[.agg #[.slice A n c, .int .i64 At, .int .i64 Nu, .int .i64 Bl, .int .i64 Se, .bool false, .int .i64 Gp, .int .i64 Dl, .bool Fl], .slice F 8 cF, .int .i64 t] w (S2 szero 6 w) := by
  have K := fun w h => kind35_at F cF f 3 w h hfB hfc hk (by decide)
  replace K := Lib.hid K
  have HFB := Lib.hid hfb
  clear hfb hfB hk
  have V := fun w => validS46 A n c At Nu Bl Se false Gp Dl Fl w
  rw [hv] at V
  replace V := Lib.hid V
  have T := fun w => instant37 t w
  rw [ht] at T
  replace T := Lib.hid T
  clear hv ht
  go_enter Try.func27, Try.ntmps27
  go_wp2_with fail
  refine (K.out _ (HFB.out.below (by go_grown))).mono ?_
  rintro r w1 ⟨rfl, hb1⟩
  have hg1 := chain (w := w) (by go_grown) hb1
  have P1 := ((Cl.new (w := w) rfl [.slice A n c, .int .i64 At, .int .i64 Nu, .int .i64 Bl, .int .i64 Se, .bool false, .int .i64 Gp, .int .i64 Dl, .bool Fl] 40).below ((Below.refl _ _).alloc (Nat.le_refl _) _)).below hb1
  have Q1 := (Cl.new (P := w.heap.size + 1) (by simp) [.slice none 0 0, .int .i64 0, .int .i64 0, .int .i64 0, .int .i64 0, .bool false, .int .i64 0, .int .i64 0, .bool false] 40).below hb1
  have HP := Lib.hid P1
  have HQ := Lib.hid Q1
  have p0 := P1.c 0 rfl
  have p1 := P1.c 1 rfl
  have p2 := P1.c 2 rfl
  have p3 := P1.c 3 rfl
  have p4 := P1.c 4 rfl
  have p5 := P1.c 5 rfl
  have p6 := P1.c 6 rfl
  have p7 := P1.c 7 rfl
  have p8 := P1.c 8 rfl
  have zp := P1.1
  clear P1 Q1 hb1
  go_wp2_with fail
  refine (V.out _).mono ?_
  rintro r w2 ⟨rfl, hb2⟩
  have hg2 := chain hg1 hb2
  have P2 := HP.out.below hb2
  have Q2 := HQ.out.below hb2
  clear p0 p1 p2 p3 p4 p5 p6 p7 p8 zp HP HQ hb2 hg1
  have p0 := P2.c 0 rfl
  have p1 := P2.c 1 rfl
  have p2 := P2.c 2 rfl
  have p3 := P2.c 3 rfl
  have p4 := P2.c 4 rfl
  have p5 := P2.c 5 rfl
  have p6 := P2.c 6 rfl
  have p7 := P2.c 7 rfl
  have p8 := P2.c 8 rfl
  have zp := P2.1
  have e0 := P2.f 0 rfl
  have HP := Lib.hid P2
  have HQ := Lib.hid Q2
  have q0 := Q2.c 0 rfl
  have q1 := Q2.c 1 rfl
  have q2 := Q2.c 2 rfl
  have q3 := Q2.c 3 rfl
  have q4 := Q2.c 4 rfl
  have q5 := Q2.c 5 rfl
  have q6 := Q2.c 6 rfl
  have q7 := Q2.c 7 rfl
  have q8 := Q2.c 8 rfl
  have f0' := Q2.f 0 rfl
  have f1' := Q2.f 1 rfl
  have f2' := Q2.f 2 rfl
  have f3' := Q2.f 3 rfl
  have f4' := Q2.f 4 rfl
  have f5' := Q2.f 5 rfl
  have f6' := Q2.f 6 rfl
  have f7' := Q2.f 7 rfl
  have f8' := Q2.f 8 rfl
  have zq := Q2.1
  clear P2 Q2
  go_wp2_with (go_at_call 37; refine (T.out _).mono ?_; rintro r w3 ⟨rfl, rfl⟩)
  refine bodyPost_ret (v := .tuple #[.agg #[.slice none 0 0, .int .i64 0, .int .i64 0, .int .i64 0, .int .i64 0, .bool false, .int .i64 0, .int .i64 0, .bool false], .int .i64 6]) (by simp [results, Try.results27, go_sem, q0, q1, q2, q3, q4, q5, q6, q7, q8, zq] <;> first | rfl | ((repeat' apply And.intro) <;> rfl)) rfl ⟨none, 0, 0, rfl, rfl, by omega, Bt.nil _ _, Fr.none _, below_set9 hg2 (Nat.le_succ _) _ _ _ _ _ _ _ _ _⟩
set_option maxRecDepth 100000 in
set_option maxHeartbeats 16000000 in
theorem ctl27_time (A : Option Addr) (n c : Nat) (At Nu Bl Se : Int) (Gp Dl : Int) (Fl : Bool) (l : List Int) (F : Option Addr) (cF : Nat) (f : List Int) (t : Int) (w : World) (hfb : Bt w F f) (hfB : Byt f) (hfc : 8 ≤ cF) (hk : kindM f = 3) (hv : vS n At Nu Bl Se true Gp Dl Fl = true) (ht : timeB t = true) (hx : Dl < t) : Calls Try.prog 27 #[.agg #[.slice A n c, .int .i64 At, .int .i64 Nu, .int .i64 Bl, .int .i64 Se, .bool true, .int .i64 Gp, .int .i64 Dl, .bool Fl], .slice F 8 cF, .int .i64 t] w (S2 szero 16 w) := by
  have K := fun w h => kind35_at F cF f 3 w h hfB hfc hk (by decide)
  replace K := Lib.hid K
  have HFB := Lib.hid hfb
  clear hfb hfB hk
  have V := fun w => validS46 A n c At Nu Bl Se true Gp Dl Fl w
  rw [hv] at V
  replace V := Lib.hid V
  have T := fun w => instant37 t w
  rw [ht] at T
  replace T := Lib.hid T
  clear hv ht
  have hd : decide (Dl < t) = true := by simp [hx]
  clear hx
  go_enter Try.func27, Try.ntmps27
  go_wp2_with fail
  refine (K.out _ (HFB.out.below (by go_grown))).mono ?_
  rintro r w1 ⟨rfl, hb1⟩
  have hg1 := chain (w := w) (by go_grown) hb1
  have P1 := ((Cl.new (w := w) rfl [.slice A n c, .int .i64 At, .int .i64 Nu, .int .i64 Bl, .int .i64 Se, .bool true, .int .i64 Gp, .int .i64 Dl, .bool Fl] 40).below ((Below.refl _ _).alloc (Nat.le_refl _) _)).below hb1
  have Q1 := (Cl.new (P := w.heap.size + 1) (by simp) [.slice none 0 0, .int .i64 0, .int .i64 0, .int .i64 0, .int .i64 0, .bool false, .int .i64 0, .int .i64 0, .bool false] 40).below hb1
  have HP := Lib.hid P1
  have HQ := Lib.hid Q1
  have p0 := P1.c 0 rfl
  have p1 := P1.c 1 rfl
  have p2 := P1.c 2 rfl
  have p3 := P1.c 3 rfl
  have p4 := P1.c 4 rfl
  have p5 := P1.c 5 rfl
  have p6 := P1.c 6 rfl
  have p7 := P1.c 7 rfl
  have p8 := P1.c 8 rfl
  have zp := P1.1
  clear P1 Q1 hb1
  go_wp2_with fail
  refine (V.out _).mono ?_
  rintro r w2 ⟨rfl, hb2⟩
  have hg2 := chain hg1 hb2
  have P2 := HP.out.below hb2
  have Q2 := HQ.out.below hb2
  clear p0 p1 p2 p3 p4 p5 p6 p7 p8 zp HP HQ hb2 hg1
  have p0 := P2.c 0 rfl
  have p1 := P2.c 1 rfl
  have p2 := P2.c 2 rfl
  have p3 := P2.c 3 rfl
  have p4 := P2.c 4 rfl
  have p5 := P2.c 5 rfl
  have p6 := P2.c 6 rfl
  have p7 := P2.c 7 rfl
  have p8 := P2.c 8 rfl
  have zp := P2.1
  have e0 := P2.f 0 rfl
  have HP := Lib.hid P2
  have HQ := Lib.hid Q2
  have q0 := Q2.c 0 rfl
  have q1 := Q2.c 1 rfl
  have q2 := Q2.c 2 rfl
  have q3 := Q2.c 3 rfl
  have q4 := Q2.c 4 rfl
  have q5 := Q2.c 5 rfl
  have q6 := Q2.c 6 rfl
  have q7 := Q2.c 7 rfl
  have q8 := Q2.c 8 rfl
  have f0' := Q2.f 0 rfl
  have f1' := Q2.f 1 rfl
  have f2' := Q2.f 2 rfl
  have f3' := Q2.f 3 rfl
  have f4' := Q2.f 4 rfl
  have f5' := Q2.f 5 rfl
  have f6' := Q2.f 6 rfl
  have f7' := Q2.f 7 rfl
  have f8' := Q2.f 8 rfl
  have zq := Q2.1
  clear P2 Q2
  go_wp2_with (go_at_call 37; refine (T.out _).mono ?_; rintro r w3 ⟨rfl, rfl⟩)
  refine bodyPost_ret (v := .tuple #[.agg #[.slice none 0 0, .int .i64 0, .int .i64 0, .int .i64 0, .int .i64 0, .bool false, .int .i64 0, .int .i64 0, .bool false], .int .i64 16]) (by simp [results, Try.results27, go_sem, q0, q1, q2, q3, q4, q5, q6, q7, q8, zq] <;> first | rfl | ((repeat' apply And.intro) <;> rfl)) rfl ⟨none, 0, 0, rfl, rfl, by omega, Bt.nil _ _, Fr.none _, below_set9 hg2 (Nat.le_succ _) _ _ _ _ _ _ _ _ _⟩
end Go.Proofs.Ytfjeediecmhedaa
