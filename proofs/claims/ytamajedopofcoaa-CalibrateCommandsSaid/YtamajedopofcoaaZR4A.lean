/-
  The contract of the reference's command where it refuses. No condition but the slices' shape.
-/
import Derived.Test.YtamajedopofcoaaZCmN
import Derived.Test.YtamajedopofcoaaZE
set_option linter.unusedVariables false
set_option linter.unusedSimpArgs false
namespace Go.Proofs.Ytamajedopofcoaa
open Go.RowKit
set_option maxRecDepth 100000 in
set_option maxHeartbeats 16000000 in
theorem r42_inv (A : Option Addr) (n c : Nat) (A2 : Option Addr) (n2 c2 : Nat) (Ac Pe : Int) (A3 : Option Addr) (m c3 : Nat) (R W : List Int) (ch : List (Int × Int)) (A4 : Option Addr) (mm c4 : Nat) (l : List MV) (B : Option Addr) (nb c5 : Nat) (w : World) (hl : R.length = n) (hb : Ik .i64 w A R) (hc : n ≤ c) (hl2 : W.length = n2) (hb2 : Ik .i64 w A2 W) (hc2 : n2 ≤ c2) (hl3 : ch.length = m) (hb3 : Ik .i64 w A3 (flat ch)) (hc3 : m ≤ c3) (hs : n ≤ 5000) (hs2 : n2 ≤ 5000) (hs3 : m ≤ 5000) (hv : vP R W Ac Pe ch = false) : Calls Try.prog 42 #[.agg #[.slice A n c, .slice A2 n2 c2, .int .i64 Ac, .int .i64 Pe, .slice A3 m c3], .slice A4 mm c4, .slice B nb c5] w (fun r w' => ∃ X1 n1' k1 X2 n2' k2 a1 a2 X3 n3' k3 vm va, r = .returned (.tuple #[.agg #[.slice X1 n1' k1, .slice X2 n2' k2, .int .i64 a1, .int .i64 a2, .slice X3 n3' k3], vm, va, .int .i64 1]) ∧ Below w.heap.size w w') := by
  have KV := fun w h h2 h3 => rvalid12 A n c A2 n2 c2 Ac Pe A3 m c3 R W ch w hl h hc hl2 h2 hc2 hl3 h3 hc3 hs hs2 hs3
  rw [hv] at KV
  replace KV := Lib.hid KV
  have HB1 := Lib.hid hb
  have HB2 := Lib.hid hb2
  have HB3 := Lib.hid hb3
  have HP0 := Lib.hid ((Cl.new (w := w) rfl [.slice A n c, .slice A2 n2 c2, .int .i64 Ac, .int .i64 Pe, .slice A3 m c3] 25).below ((Below.refl _ _).alloc (Nat.le_refl _) (.cells #[.slice none 0 0, .slice none 0 0, .int .i64 0, .int .i64 0, .slice none 0 0] 25)))
  have HQ0 := Lib.hid (Cl.new (P := w.heap.size + 1) (w := w.alloc (.cells #[.slice A n c, .slice A2 n2 c2, .int .i64 Ac, .int .i64 Pe, .slice A3 m c3] 25)) (by simp) [.slice none 0 0, .slice none 0 0, .int .i64 0, .int .i64 0, .slice none 0 0] 25)
  have HG0 := Lib.hid (show Below w.heap.size w ((w.alloc (.cells #[.slice A n c, .slice A2 n2 c2, .int .i64 Ac, .int .i64 Pe, .slice A3 m c3] 25)).alloc (.cells #[.slice none 0 0, .slice none 0 0, .int .i64 0, .int .i64 0, .slice none 0 0] 25)) by go_grown)
  clear hl hl2 hl3 hb hb2 hb3
  go_enter Try.func42, Try.ntmps42
  have p0 := HP0.out.c 0 rfl
  have p1 := HP0.out.c 1 rfl
  have p2 := HP0.out.c 2 rfl
  have p3 := HP0.out.c 3 rfl
  have p4 := HP0.out.c 4 rfl
  have zp := HP0.out.1
  go_wp2_with fail
  refine (KV.out _ (HB1.out.below HG0.out) (HB2.out.below HG0.out) (HB3.out.below HG0.out)).mono ?_
  rintro r w1 ⟨rfl, hbw1⟩
  have HP1 := Lib.hid (HP0.out.below hbw1)
  have HQ1 := Lib.hid (HQ0.out.below hbw1)
  have HG1 := Lib.hid (chain HG0.out hbw1)
  clear hbw1 HP0 HQ0 HG0
  clear p0 p1 p2 p3 p4 zp KV
  have p0 := HP1.out.c 0 rfl
  have p1 := HP1.out.c 1 rfl
  have p2 := HP1.out.c 2 rfl
  have p3 := HP1.out.c 3 rfl
  have p4 := HP1.out.c 4 rfl
  have q0 := HQ1.out.c 0 rfl
  have q1 := HQ1.out.c 1 rfl
  have q2 := HQ1.out.c 2 rfl
  have q3 := HQ1.out.c 3 rfl
  have q4 := HQ1.out.c 4 rfl
  have f0 := HQ1.out.f 0 rfl
  have f1 := HQ1.out.f 1 rfl
  have f2 := HQ1.out.f 2 rfl
  have f3 := HQ1.out.f 3 rfl
  have f4 := HQ1.out.f 4 rfl
  have zp := HP1.out.1
  have zq := HQ1.out.1
  go_wp2_with fail
  refine bodyPost_ret (v := .tuple #[.agg #[.slice A n c, .slice A2 n2 c2, .int .i64 Ac, .int .i64 Pe, .slice A3 m c3], .slice A4 mm c4, .slice none 0 0, .int .i64 1]) (by simp [results, Try.results42, go_sem, q0, f0, q1, f1, q2, f2, q3, f3, q4, f4, zq] <;> first | rfl | ((repeat' apply And.intro) <;> rfl)) rfl ⟨A, n, c, A2, n2, c2, Ac, Pe, A3, m, c3, _, _, rfl, below_set5 HG1.out (by omega) _ _ _ _ _⟩
set_option maxRecDepth 100000 in
set_option maxHeartbeats 16000000 in
theorem r42_bad (A : Option Addr) (n c : Nat) (A2 : Option Addr) (n2 c2 : Nat) (Ac Pe : Int) (A3 : Option Addr) (m c3 : Nat) (R W : List Int) (ch : List (Int × Int)) (A4 : Option Addr) (mm c4 : Nat) (l : List MV) (B : Option Addr) (nb c5 : Nat) (w : World) (hl : R.length = n) (hb : Ik .i64 w A R) (hc : n ≤ c) (hl2 : W.length = n2) (hb2 : Ik .i64 w A2 W) (hc2 : n2 ≤ c2) (hl3 : ch.length = m) (hb3 : Ik .i64 w A3 (flat ch)) (hc3 : m ≤ c3) (hs : n ≤ 5000) (hs2 : n2 ≤ 5000) (hs3 : m ≤ 5000) (hlm : l.length = mm) (hcv : Cv w A4 (flatM l)) (hmo : Mo [] w l) (hcm : mm ≤ c4) (hv : vP R W Ac Pe ch = true) (hm8 : (decide (mm ≤ 8) && !l.any bV) = false) : Calls Try.prog 42 #[.agg #[.slice A n c, .slice A2 n2 c2, .int .i64 Ac, .int .i64 Pe, .slice A3 m c3], .slice A4 mm c4, .slice B nb c5] w (fun r w' => ∃ X1 n1' k1 X2 n2' k2 a1 a2 X3 n3' k3 vm va, r = .returned (.tuple #[.agg #[.slice X1 n1' k1, .slice X2 n2' k2, .int .i64 a1, .int .i64 a2, .slice X3 n3' k3], vm, va, .int .i64 1]) ∧ Below w.heap.size w w') := by
  have KV := fun w h h2 h3 => rvalid12 A n c A2 n2 c2 Ac Pe A3 m c3 R W ch w hl h hc hl2 h2 hc2 hl3 h3 hc3 hs hs2 hs3
  rw [hv] at KV
  replace KV := Lib.hid KV
  have KM := fun w h h' => rmeas55 A4 mm c4 l w hlm h h' hcm
  rw [hm8] at KM
  replace KM := Lib.hid KM
  have HCV := Lib.hid hcv
  have HMO := Lib.hid hmo
  have HB1 := Lib.hid hb
  have HB2 := Lib.hid hb2
  have HB3 := Lib.hid hb3
  have HP0 := Lib.hid ((Cl.new (w := w) rfl [.slice A n c, .slice A2 n2 c2, .int .i64 Ac, .int .i64 Pe, .slice A3 m c3] 25).below ((Below.refl _ _).alloc (Nat.le_refl _) (.cells #[.slice none 0 0, .slice none 0 0, .int .i64 0, .int .i64 0, .slice none 0 0] 25)))
  have HQ0 := Lib.hid (Cl.new (P := w.heap.size + 1) (w := w.alloc (.cells #[.slice A n c, .slice A2 n2 c2, .int .i64 Ac, .int .i64 Pe, .slice A3 m c3] 25)) (by simp) [.slice none 0 0, .slice none 0 0, .int .i64 0, .int .i64 0, .slice none 0 0] 25)
  have HG0 := Lib.hid (show Below w.heap.size w ((w.alloc (.cells #[.slice A n c, .slice A2 n2 c2, .int .i64 Ac, .int .i64 Pe, .slice A3 m c3] 25)).alloc (.cells #[.slice none 0 0, .slice none 0 0, .int .i64 0, .int .i64 0, .slice none 0 0] 25)) by go_grown)
  clear hl hl2 hl3 hb hb2 hb3 hlm hcv hmo hm8
  go_enter Try.func42, Try.ntmps42
  have p0 := HP0.out.c 0 rfl
  have p1 := HP0.out.c 1 rfl
  have p2 := HP0.out.c 2 rfl
  have p3 := HP0.out.c 3 rfl
  have p4 := HP0.out.c 4 rfl
  have zp := HP0.out.1
  go_wp2_with fail
  refine (KV.out _ (HB1.out.below HG0.out) (HB2.out.below HG0.out) (HB3.out.below HG0.out)).mono ?_
  rintro r w1 ⟨rfl, hbw1⟩
  have HP1 := Lib.hid (HP0.out.below hbw1)
  have HQ1 := Lib.hid (HQ0.out.below hbw1)
  have HG1 := Lib.hid (chain HG0.out hbw1)
  clear hbw1 HP0 HQ0 HG0
  clear p0 p1 p2 p3 p4 zp KV
  go_wp2_with fail
  refine (KM.out _ (HCV.out.below HG1.out) (HMO.out.below HG1.out)).mono ?_
  rintro r w2 ⟨rfl, hbw2⟩
  have HP2 := Lib.hid (HP1.out.below hbw2)
  have HQ2 := Lib.hid (HQ1.out.below hbw2)
  have HG2 := Lib.hid (chain HG1.out hbw2)
  clear hbw2 HP1 HQ1 HG1
  clear KM
  have p0 := HP2.out.c 0 rfl
  have p1 := HP2.out.c 1 rfl
  have p2 := HP2.out.c 2 rfl
  have p3 := HP2.out.c 3 rfl
  have p4 := HP2.out.c 4 rfl
  have q0 := HQ2.out.c 0 rfl
  have q1 := HQ2.out.c 1 rfl
  have q2 := HQ2.out.c 2 rfl
  have q3 := HQ2.out.c 3 rfl
  have q4 := HQ2.out.c 4 rfl
  have f0 := HQ2.out.f 0 rfl
  have f1 := HQ2.out.f 1 rfl
  have f2 := HQ2.out.f 2 rfl
  have f3 := HQ2.out.f 3 rfl
  have f4 := HQ2.out.f 4 rfl
  have zp := HP2.out.1
  have zq := HQ2.out.1
  go_wp2_with fail
  refine bodyPost_ret (v := .tuple #[.agg #[.slice A n c, .slice A2 n2 c2, .int .i64 Ac, .int .i64 Pe, .slice A3 m c3], .slice A4 mm c4, .slice none 0 0, .int .i64 1]) (by simp [results, Try.results42, go_sem, q0, f0, q1, f1, q2, f2, q3, f3, q4, f4, zq] <;> first | rfl | ((repeat' apply And.intro) <;> rfl)) rfl ⟨A, n, c, A2, n2, c2, Ac, Pe, A3, m, c3, _, _, rfl, below_set5 HG2.out (by omega) _ _ _ _ _⟩
set_option maxRecDepth 100000 in
set_option maxHeartbeats 16000000 in
theorem r42_form (A : Option Addr) (n c : Nat) (A2 : Option Addr) (n2 c2 : Nat) (Ac Pe : Int) (A3 : Option Addr) (m c3 : Nat) (R W : List Int) (ch : List (Int × Int)) (A4 : Option Addr) (mm c4 : Nat) (l : List MV) (B : Option Addr) (nb c5 : Nat) (w : World) (hl : R.length = n) (hb : Ik .i64 w A R) (hc : n ≤ c) (hl2 : W.length = n2) (hb2 : Ik .i64 w A2 W) (hc2 : n2 ≤ c2) (hl3 : ch.length = m) (hb3 : Ik .i64 w A3 (flat ch)) (hc3 : m ≤ c3) (hs : n ≤ 5000) (hs2 : n2 ≤ 5000) (hs3 : m ≤ 5000) (hlm : l.length = mm) (hcv : Cv w A4 (flatM l)) (hmo : Mo [] w l) (hcm : mm ≤ c4) (hv : vP R W Ac Pe ch = true) (hm8 : (decide (mm ≤ 8) && !l.any bV) = true) (K56 : ∀ w1, Below w.heap.size w w1 → Calls Try.prog 56 #[.slice B nb c5] w1 fun r w' => r = .returned (.bool false) ∧ w1 = w') : Calls Try.prog 42 #[.agg #[.slice A n c, .slice A2 n2 c2, .int .i64 Ac, .int .i64 Pe, .slice A3 m c3], .slice A4 mm c4, .slice B nb c5] w (fun r w' => ∃ X1 n1' k1 X2 n2' k2 a1 a2 X3 n3' k3 vm va, r = .returned (.tuple #[.agg #[.slice X1 n1' k1, .slice X2 n2' k2, .int .i64 a1, .int .i64 a2, .slice X3 n3' k3], vm, va, .int .i64 3]) ∧ Below w.heap.size w w') := by
  have KV := fun w h h2 h3 => rvalid12 A n c A2 n2 c2 Ac Pe A3 m c3 R W ch w hl h hc hl2 h2 hc2 hl3 h3 hc3 hs hs2 hs3
  rw [hv] at KV
  replace KV := Lib.hid KV
  have KM := fun w h h' => rmeas55 A4 mm c4 l w hlm h h' hcm
  rw [hm8] at KM
  replace KM := Lib.hid KM
  have HCV := Lib.hid hcv
  have HMO := Lib.hid hmo
  have HB1 := Lib.hid hb
  have HB2 := Lib.hid hb2
  have HB3 := Lib.hid hb3
  have HP0 := Lib.hid ((Cl.new (w := w) rfl [.slice A n c, .slice A2 n2 c2, .int .i64 Ac, .int .i64 Pe, .slice A3 m c3] 25).below ((Below.refl _ _).alloc (Nat.le_refl _) (.cells #[.slice none 0 0, .slice none 0 0, .int .i64 0, .int .i64 0, .slice none 0 0] 25)))
  have HQ0 := Lib.hid (Cl.new (P := w.heap.size + 1) (w := w.alloc (.cells #[.slice A n c, .slice A2 n2 c2, .int .i64 Ac, .int .i64 Pe, .slice A3 m c3] 25)) (by simp) [.slice none 0 0, .slice none 0 0, .int .i64 0, .int .i64 0, .slice none 0 0] 25)
  have HG0 := Lib.hid (show Below w.heap.size w ((w.alloc (.cells #[.slice A n c, .slice A2 n2 c2, .int .i64 Ac, .int .i64 Pe, .slice A3 m c3] 25)).alloc (.cells #[.slice none 0 0, .slice none 0 0, .int .i64 0, .int .i64 0, .slice none 0 0] 25)) by go_grown)
  replace K56 := Lib.hid K56
  clear hl hl2 hl3 hb hb2 hb3 hlm hcv hmo hm8
  go_enter Try.func42, Try.ntmps42
  have p0 := HP0.out.c 0 rfl
  have p1 := HP0.out.c 1 rfl
  have p2 := HP0.out.c 2 rfl
  have p3 := HP0.out.c 3 rfl
  have p4 := HP0.out.c 4 rfl
  have zp := HP0.out.1
  go_wp2_with fail
  refine (KV.out _ (HB1.out.below HG0.out) (HB2.out.below HG0.out) (HB3.out.below HG0.out)).mono ?_
  rintro r w1 ⟨rfl, hbw1⟩
  have HP1 := Lib.hid (HP0.out.below hbw1)
  have HQ1 := Lib.hid (HQ0.out.below hbw1)
  have HG1 := Lib.hid (chain HG0.out hbw1)
  clear hbw1 HP0 HQ0 HG0
  clear p0 p1 p2 p3 p4 zp KV
  go_wp2_with fail
  refine (KM.out _ (HCV.out.below HG1.out) (HMO.out.below HG1.out)).mono ?_
  rintro r w2 ⟨rfl, hbw2⟩
  have HP2 := Lib.hid (HP1.out.below hbw2)
  have HQ2 := Lib.hid (HQ1.out.below hbw2)
  have HG2 := Lib.hid (chain HG1.out hbw2)
  clear hbw2 HP1 HQ1 HG1
  clear KM
  go_wp2_with fail
  refine (K56.out _ HG2.out).mono ?_
  rintro r w3 ⟨rfl, rfl⟩
  have p0 := HP2.out.c 0 rfl
  have p1 := HP2.out.c 1 rfl
  have p2 := HP2.out.c 2 rfl
  have p3 := HP2.out.c 3 rfl
  have p4 := HP2.out.c 4 rfl
  have q0 := HQ2.out.c 0 rfl
  have q1 := HQ2.out.c 1 rfl
  have q2 := HQ2.out.c 2 rfl
  have q3 := HQ2.out.c 3 rfl
  have q4 := HQ2.out.c 4 rfl
  have f0 := HQ2.out.f 0 rfl
  have f1 := HQ2.out.f 1 rfl
  have f2 := HQ2.out.f 2 rfl
  have f3 := HQ2.out.f 3 rfl
  have f4 := HQ2.out.f 4 rfl
  have zp := HP2.out.1
  have zq := HQ2.out.1
  go_wp2_with fail
  refine bodyPost_ret (v := .tuple #[.agg #[.slice A n c, .slice A2 n2 c2, .int .i64 Ac, .int .i64 Pe, .slice A3 m c3], .slice A4 mm c4, .slice none 0 0, .int .i64 3]) (by simp [results, Try.results42, go_sem, q0, f0, q1, f1, q2, f2, q3, f3, q4, f4, zq] <;> first | rfl | ((repeat' apply And.intro) <;> rfl)) rfl ⟨A, n, c, A2, n2, c2, Ac, Pe, A3, m, c3, _, _, rfl, below_set5 HG2.out (by omega) _ _ _ _ _⟩
end Go.Proofs.Ytamajedopofcoaa
