/-
  The law TransportSenders of inputs that are too large, or that are refused. No condition but the slices' shape.
-/
import Derived.Test.YtfjeediecmhedaaSnd
import Derived.Test.YtfjeediecmhedaaSendsCore
import Derived.Test.YtfjeediecmhedaaRefVal
set_option linter.unusedVariables false
set_option linter.unusedSimpArgs false
namespace Go.Proofs.Ytfjeediecmhedaa
open Go.RowKit
set_option maxRecDepth 100000 in
set_option maxHeartbeats 16000000 in
theorem senders_big (A : Option Addr) (n c : Nat) (At Nu Bl Se : Int) (Wt : Bool) (Gp Dl : Int) (Fl : Bool) (l : List Int) (F : Option Addr) (m cF : Nat) (f : List Int) (t : Int) (w : World) (h : 1100 < n ∨ (¬ 1100 < n ∧ 20 < m)) : Calls Try.prog 8 #[.agg #[.slice A n c, .int .i64 At, .int .i64 Nu, .int .i64 Bl, .int .i64 Se, .bool Wt, .int .i64 Gp, .int .i64 Dl, .bool Fl], .slice F m cF, .int .i64 t] w fun x w' => x = .returned (.bool true) ∧ Below w.heap.size w w' := by
  rcases h with h | ⟨h, h2⟩
  · have LG := fun w => long15 A n c w
    rw [decide_eq_true h] at LG
    replace LG := Lib.hid LG
    clear h
    go_enter Try.func8, Try.ntmps8
    go_wp2_with fail
    refine (awake10 _).mono ?_
    rintro x w1 ⟨rfl, hb1⟩
    have hg1 := chain (w := w) (by go_grown) hb1
    have P1 := (Cl.new (w := w) rfl [.slice A n c, .int .i64 At, .int .i64 Nu, .int .i64 Bl, .int .i64 Se, .bool Wt, .int .i64 Gp, .int .i64 Dl, .bool Fl] 40).below hb1
    have HP := Lib.hid P1
    have HG := Lib.hid hg1
    have HS := Lib.hid hg1.size
    clear P1 hb1 hg1
    have p0 := HP.out.c 0 rfl
    have p1 := HP.out.c 1 rfl
    have p2 := HP.out.c 2 rfl
    have p3 := HP.out.c 3 rfl
    have p4 := HP.out.c 4 rfl
    have p5 := HP.out.c 5 rfl
    have p6 := HP.out.c 6 rfl
    have p7 := HP.out.c 7 rfl
    have p8 := HP.out.c 8 rfl
    have zp := HP.out.1
    go_wp2_with fail
    refine (LG.out _).mono ?_
    rintro x w2 ⟨rfl, rfl⟩
    go_wp2_with fail
    refine (awake10 _).mono ?_
    rintro x w2 ⟨rfl, hb2⟩
    have hg2 := chain HG.out hb2
    go_wp2
    go_ret
    exact ⟨rfl, hg2⟩
  · have LG := fun w => long15 A n c w
    rw [decide_eq_false h] at LG
    replace LG := Lib.hid LG
    have hm : decide ((20 : Int) < (m : Int)) = true := by simp; omega
    clear h
    go_enter Try.func8, Try.ntmps8
    go_wp2_with fail
    refine (awake10 _).mono ?_
    rintro x w1 ⟨rfl, hb1⟩
    have hg1 := chain (w := w) (by go_grown) hb1
    have P1 := (Cl.new (w := w) rfl [.slice A n c, .int .i64 At, .int .i64 Nu, .int .i64 Bl, .int .i64 Se, .bool Wt, .int .i64 Gp, .int .i64 Dl, .bool Fl] 40).below hb1
    have HP := Lib.hid P1
    have HG := Lib.hid hg1
    have HS := Lib.hid hg1.size
    clear P1 hb1 hg1
    have p0 := HP.out.c 0 rfl
    have p1 := HP.out.c 1 rfl
    have p2 := HP.out.c 2 rfl
    have p3 := HP.out.c 3 rfl
    have p4 := HP.out.c 4 rfl
    have p5 := HP.out.c 5 rfl
    have p6 := HP.out.c 6 rfl
    have p7 := HP.out.c 7 rfl
    have p8 := HP.out.c 8 rfl
    have zp := HP.out.1
    go_wp2_with fail
    refine (LG.out _).mono ?_
    rintro x w2 ⟨rfl, rfl⟩
    go_wp2_with fail
    refine (awake10 _).mono ?_
    rintro x w2 ⟨rfl, hb2⟩
    have hg2 := chain HG.out hb2
    go_wp2
    go_ret
    exact ⟨rfl, hg2⟩
set_option maxRecDepth 100000 in
set_option maxHeartbeats 16000000 in
theorem senders_arg (A : Option Addr) (n c : Nat) (At Nu Bl Se : Int) (Wt : Bool) (Gp Dl : Int) (Fl : Bool) (l : List Int) (F : Option Addr) (m cF : Nat) (f : List Int) (t : Int) (w : World) (hl : l.length = n) (hb : Bt w A l) (hc : n ≤ c) (hfl : f.length = m) (hfb : Bt w F f) (hfB : Byt f) (hfc : m ≤ cF) (h : ¬ 1100 < n) (hm : ¬ 20 < m) (hv : vS n At Nu Bl Se Wt Gp Dl Fl = false) : Calls Try.prog 8 #[.agg #[.slice A n c, .int .i64 At, .int .i64 Nu, .int .i64 Bl, .int .i64 Se, .bool Wt, .int .i64 Gp, .int .i64 Dl, .bool Fl], .slice F m cF, .int .i64 t] w fun x w' => x = .returned (.bool true) ∧ Below w.heap.size w w' := by
  have LG := fun w => long15 A n c w
  rw [decide_eq_false h] at LG
  replace LG := Lib.hid LG
  have hm' : decide ((20 : Int) < (m : Int)) = false := by simp; omega
  have K := fun w => next28_arg A n c At Nu Bl Se Wt Gp Dl Fl l t w hv
  replace K := Lib.hid K
  have K2 := fun w h => ctl27_arg A n c At Nu Bl Se Wt Gp Dl Fl l F m cF f t w hfl h hfB hfc hv
  replace K2 := Lib.hid K2
  have K3 := fun w => exp29_arg A n c At Nu Bl Se Wt Gp Dl Fl l t w hv
  replace K3 := Lib.hid K3
  have V := fun w => refS30 A n c At Nu Bl Se Wt Gp Dl Fl w
  rw [hv] at V
  replace V := Lib.hid V
  have HFB := Lib.hid hfb
  clear hl hb hfl hfb hfB h hm hv
  go_enter Try.func8, Try.ntmps8
  go_wp2_with fail
  refine (awake10 _).mono ?_
  rintro x w1 ⟨rfl, hb1⟩
  have hg1 := chain (w := w) (by go_grown) hb1
  have P1 := (Cl.new (w := w) rfl [.slice A n c, .int .i64 At, .int .i64 Nu, .int .i64 Bl, .int .i64 Se, .bool Wt, .int .i64 Gp, .int .i64 Dl, .bool Fl] 40).below hb1
  have HP := Lib.hid P1
  have HG := Lib.hid hg1
  have HS := Lib.hid hg1.size
  clear P1 hb1 hg1
  have p0 := HP.out.c 0 rfl
  have p1 := HP.out.c 1 rfl
  have p2 := HP.out.c 2 rfl
  have p3 := HP.out.c 3 rfl
  have p4 := HP.out.c 4 rfl
  have p5 := HP.out.c 5 rfl
  have p6 := HP.out.c 6 rfl
  have p7 := HP.out.c 7 rfl
  have p8 := HP.out.c 8 rfl
  have zp := HP.out.1
  go_wp2_with fail
  refine (LG.out _).mono ?_
  rintro x w2 ⟨rfl, rfl⟩
  go_wp2_with fail
  refine (K.out _).mono ?_
  rintro x w2 ⟨A2, n2, c2, B2, m2, d2, rfl, hn2, hc2, _, _, hm2, _, _, _, hb2⟩
  obtain rfl : n2 = 0 := hn2
  obtain rfl : m2 = 0 := hm2
  have hh2 : Below w1.heap.size w1 w2 := hb2
  have hg2 := chain HG.out hb2
  have P2 := HP.out.below hh2
  clear p0 p1 p2 p3 p4 p5 p6 p7 p8 zp
  clear HP HG HS
  have HP := Lib.hid P2
  have HG := Lib.hid hg2
  have HS := Lib.hid hg2.size
  clear hg2 hh2 hb2 P2
  have p0 := HP.out.c 0 rfl
  have p1 := HP.out.c 1 rfl
  have p2 := HP.out.c 2 rfl
  have p3 := HP.out.c 3 rfl
  have p4 := HP.out.c 4 rfl
  have p5 := HP.out.c 5 rfl
  have p6 := HP.out.c 6 rfl
  have p7 := HP.out.c 7 rfl
  have p8 := HP.out.c 8 rfl
  have zp := HP.out.1
  go_wp2_with fail
  refine (K2.out _ (HFB.out.below ((show Below w.heap.size w w2 from HG.out).alloc HS.out _))).mono ?_
  rintro x w3 ⟨A3, n3, c3, rfl, hn3, hc3, _, _, hb3⟩
  obtain rfl : n3 = 0 := hn3
  have hh3 : Below w2.heap.size w2 w3 := ((Below.refl _ _).alloc (Nat.le_refl _) (.cells #[.slice A2 0 c2, .int .i64 0, .int .i64 0, .int .i64 0, .int .i64 0, .bool false, .int .i64 0, .int .i64 0, .bool false] 40) : Below w2.heap.size w2 (w2.alloc (.cells #[.slice A2 0 c2, .int .i64 0, .int .i64 0, .int .i64 0, .int .i64 0, .bool false, .int .i64 0, .int .i64 0, .bool false] 40))).trans (hb3.mono (by simp))
  have hg3 := chain (HG.out.alloc HS.out (.cells #[.slice A2 0 c2, .int .i64 0, .int .i64 0, .int .i64 0, .int .i64 0, .bool false, .int .i64 0, .int .i64 0, .bool false] 40)) hb3
  have P3 := HP.out.below hh3
  have X3 := (Cl.new (w := w2) rfl [.slice A2 0 c2, .int .i64 0, .int .i64 0, .int .i64 0, .int .i64 0, .bool false, .int .i64 0, .int .i64 0, .bool false] 40).below hb3
  clear p0 p1 p2 p3 p4 p5 p6 p7 p8 zp
  clear HP HG HS
  have HP := Lib.hid P3
  have HX := Lib.hid X3
  have HG := Lib.hid hg3
  have HS := Lib.hid hg3.size
  clear hg3 hh3 hb3 P3 X3
  have p0 := HP.out.c 0 rfl
  have p1 := HP.out.c 1 rfl
  have p2 := HP.out.c 2 rfl
  have p3 := HP.out.c 3 rfl
  have p4 := HP.out.c 4 rfl
  have p5 := HP.out.c 5 rfl
  have p6 := HP.out.c 6 rfl
  have p7 := HP.out.c 7 rfl
  have p8 := HP.out.c 8 rfl
  have zp := HP.out.1
  go_wp2_with fail
  refine (K3.out _).mono ?_
  rintro x w4 ⟨A4, n4, c4, rfl, hn4, hc4, _, hb4⟩
  obtain rfl : n4 = 0 := hn4
  have hh4 : Below w3.heap.size w3 w4 := ((Below.refl _ _).alloc (Nat.le_refl _) (.cells #[.slice A3 0 c3, .int .i64 0, .int .i64 0, .int .i64 0, .int .i64 0, .bool false, .int .i64 0, .int .i64 0, .bool false] 40) : Below w3.heap.size w3 (w3.alloc (.cells #[.slice A3 0 c3, .int .i64 0, .int .i64 0, .int .i64 0, .int .i64 0, .bool false, .int .i64 0, .int .i64 0, .bool false] 40))).trans (hb4.mono (by simp))
  have hg4 := chain (HG.out.alloc HS.out (.cells #[.slice A3 0 c3, .int .i64 0, .int .i64 0, .int .i64 0, .int .i64 0, .bool false, .int .i64 0, .int .i64 0, .bool false] 40)) hb4
  have P4 := HP.out.below hh4
  have X4 := HX.out.below hh4
  have Y4 := (Cl.new (w := w3) rfl [.slice A3 0 c3, .int .i64 0, .int .i64 0, .int .i64 0, .int .i64 0, .bool false, .int .i64 0, .int .i64 0, .bool false] 40).below hb4
  clear p0 p1 p2 p3 p4 p5 p6 p7 p8 zp
  clear HP HX HG HS
  have HP := Lib.hid P4
  have HX := Lib.hid X4
  have HY := Lib.hid Y4
  have HG := Lib.hid hg4
  have HS := Lib.hid hg4.size
  clear hg4 hh4 hb4 P4 X4 Y4
  have p0 := HP.out.c 0 rfl
  have p1 := HP.out.c 1 rfl
  have p2 := HP.out.c 2 rfl
  have p3 := HP.out.c 3 rfl
  have p4 := HP.out.c 4 rfl
  have p5 := HP.out.c 5 rfl
  have p6 := HP.out.c 6 rfl
  have p7 := HP.out.c 7 rfl
  have p8 := HP.out.c 8 rfl
  have zp := HP.out.1
  go_wp2_with fail
  refine (V.out _).mono ?_
  rintro x w5 ⟨rfl, hb5⟩
  have hh5 : Below w4.heap.size w4 w5 := ((Below.refl _ _).alloc (Nat.le_refl _) (.cells #[.slice A4 0 c4, .int .i64 0, .int .i64 0, .int .i64 0, .int .i64 0, .bool false, .int .i64 0, .int .i64 0, .bool false] 40) : Below w4.heap.size w4 (w4.alloc (.cells #[.slice A4 0 c4, .int .i64 0, .int .i64 0, .int .i64 0, .int .i64 0, .bool false, .int .i64 0, .int .i64 0, .bool false] 40))).trans (hb5.mono (by simp))
  have hg5 := chain (HG.out.alloc HS.out (.cells #[.slice A4 0 c4, .int .i64 0, .int .i64 0, .int .i64 0, .int .i64 0, .bool false, .int .i64 0, .int .i64 0, .bool false] 40)) hb5
  have P5 := HP.out.below hh5
  have X5 := HX.out.below hh5
  have Y5 := HY.out.below hh5
  have Z5 := (Cl.new (w := w4) rfl [.slice A4 0 c4, .int .i64 0, .int .i64 0, .int .i64 0, .int .i64 0, .bool false, .int .i64 0, .int .i64 0, .bool false] 40).below hb5
  clear p0 p1 p2 p3 p4 p5 p6 p7 p8 zp
  clear HP HX HY HG HS
  have HP := Lib.hid P5
  have HX := Lib.hid X5
  have HY := Lib.hid Y5
  have HZ := Lib.hid Z5
  have HG := Lib.hid hg5
  have HS := Lib.hid hg5.size
  clear hg5 hh5 hb5 P5 X5 Y5 Z5
  have x0 := HX.out.c 0 rfl
  have x1 := HX.out.c 1 rfl
  have x2 := HX.out.c 2 rfl
  have x3 := HX.out.c 3 rfl
  have x4 := HX.out.c 4 rfl
  have x5 := HX.out.c 5 rfl
  have x6 := HX.out.c 6 rfl
  have x7 := HX.out.c 7 rfl
  have x8 := HX.out.c 8 rfl
  have zx := HX.out.1
  go_wp2_with fail
  refine (same20 A2 none 0 c2 0 0 0 0 0 false 0 0 false [] _ rfl (Bt.nil _ _) (Bt.nil _ _)).mono ?_
  rintro x w6 ⟨rfl, hb6⟩
  have hh6 : Below w5.heap.size w5 w6 := ((Below.refl _ _).alloc (Nat.le_refl _) (.cells #[.slice none 0 0, .int .i64 0, .int .i64 0, .int .i64 0, .int .i64 0, .bool false, .int .i64 0, .int .i64 0, .bool false] 40) : Below w5.heap.size w5 (w5.alloc (.cells #[.slice none 0 0, .int .i64 0, .int .i64 0, .int .i64 0, .int .i64 0, .bool false, .int .i64 0, .int .i64 0, .bool false] 40))).trans (hb6.mono (by simp))
  have hg6 := chain (HG.out.alloc HS.out (.cells #[.slice none 0 0, .int .i64 0, .int .i64 0, .int .i64 0, .int .i64 0, .bool false, .int .i64 0, .int .i64 0, .bool false] 40)) hb6
  have P6 := HP.out.below hh6
  have X6 := HX.out.below hh6
  have Y6 := HY.out.below hh6
  have Z6 := HZ.out.below hh6
  have O6 := (Cl.new (w := w5) rfl [.slice none 0 0, .int .i64 0, .int .i64 0, .int .i64 0, .int .i64 0, .bool false, .int .i64 0, .int .i64 0, .bool false] 40).below hb6
  clear x0 x1 x2 x3 x4 x5 x6 x7 x8 zx
  clear HP HX HY HZ HG HS
  have HP := Lib.hid P6
  have HX := Lib.hid X6
  have HY := Lib.hid Y6
  have HZ := Lib.hid Z6
  have HO := Lib.hid O6
  have HG := Lib.hid hg6
  have HS := Lib.hid hg6.size
  clear hg6 hh6 hb6 P6 X6 Y6 Z6 O6
  have y0 := HY.out.c 0 rfl
  have y1 := HY.out.c 1 rfl
  have y2 := HY.out.c 2 rfl
  have y3 := HY.out.c 3 rfl
  have y4 := HY.out.c 4 rfl
  have y5 := HY.out.c 5 rfl
  have y6 := HY.out.c 6 rfl
  have y7 := HY.out.c 7 rfl
  have y8 := HY.out.c 8 rfl
  have zy := HY.out.1
  have o0 := HO.out.c 0 rfl
  have o1 := HO.out.c 1 rfl
  have o2 := HO.out.c 2 rfl
  have o3 := HO.out.c 3 rfl
  have o4 := HO.out.c 4 rfl
  have o5 := HO.out.c 5 rfl
  have o6 := HO.out.c 6 rfl
  have o7 := HO.out.c 7 rfl
  have o8 := HO.out.c 8 rfl
  have zo := HO.out.1
  go_wp2_with fail
  refine (same20 A3 none 0 c3 0 0 0 0 0 false 0 0 false [] _ rfl (Bt.nil _ _) (Bt.nil _ _)).mono ?_
  rintro x w7 ⟨rfl, hb7⟩
  have hh7 : Below w6.heap.size w6 w7 := hb7
  have hg7 := chain HG.out hb7
  have P7 := HP.out.below hh7
  have X7 := HX.out.below hh7
  have Y7 := HY.out.below hh7
  have Z7 := HZ.out.below hh7
  have O7 := HO.out.below hh7
  clear y0 y1 y2 y3 y4 y5 y6 y7 y8 zy o0 o1 o2 o3 o4 o5 o6 o7 o8 zo
  clear HP HX HY HZ HO HG HS
  have HP := Lib.hid P7
  have HX := Lib.hid X7
  have HY := Lib.hid Y7
  have HZ := Lib.hid Z7
  have HO := Lib.hid O7
  have HG := Lib.hid hg7
  have HS := Lib.hid hg7.size
  clear hg7 hh7 hb7 P7 X7 Y7 Z7 O7
  have z0 := HZ.out.c 0 rfl
  have z1 := HZ.out.c 1 rfl
  have z2 := HZ.out.c 2 rfl
  have z3 := HZ.out.c 3 rfl
  have z4 := HZ.out.c 4 rfl
  have z5 := HZ.out.c 5 rfl
  have z6 := HZ.out.c 6 rfl
  have z7 := HZ.out.c 7 rfl
  have z8 := HZ.out.c 8 rfl
  have zz := HZ.out.1
  have o0 := HO.out.c 0 rfl
  have o1 := HO.out.c 1 rfl
  have o2 := HO.out.c 2 rfl
  have o3 := HO.out.c 3 rfl
  have o4 := HO.out.c 4 rfl
  have o5 := HO.out.c 5 rfl
  have o6 := HO.out.c 6 rfl
  have o7 := HO.out.c 7 rfl
  have o8 := HO.out.c 8 rfl
  have zo := HO.out.1
  go_wp2_with fail
  refine (same20 A4 none 0 c4 0 0 0 0 0 false 0 0 false [] _ rfl (Bt.nil _ _) (Bt.nil _ _)).mono ?_
  rintro x w8 ⟨rfl, hb8⟩
  have hh8 : Below w7.heap.size w7 w8 := hb8
  have hg8 := chain HG.out hb8
  have P8 := HP.out.below hh8
  have X8 := HX.out.below hh8
  have Y8 := HY.out.below hh8
  have Z8 := HZ.out.below hh8
  have O8 := HO.out.below hh8
  clear z0 z1 z2 z3 z4 z5 z6 z7 z8 zz o0 o1 o2 o3 o4 o5 o6 o7 o8 zo
  clear HP HX HY HZ HO HG HS
  have HP := Lib.hid P8
  have HX := Lib.hid X8
  have HY := Lib.hid Y8
  have HZ := Lib.hid Z8
  have HO := Lib.hid O8
  have HG := Lib.hid hg8
  have HS := Lib.hid hg8.size
  clear hg8 hh8 hb8 P8 X8 Y8 Z8 O8
  go_wp2
  go_ret
  exact ⟨rfl, HG.out⟩
set_option maxRecDepth 100000 in
set_option maxHeartbeats 16000000 in
theorem senders_range (A : Option Addr) (n c : Nat) (At Nu Bl Se : Int) (Wt : Bool) (Gp Dl : Int) (Fl : Bool) (l : List Int) (F : Option Addr) (m cF : Nat) (f : List Int) (t : Int) (w : World) (hl : l.length = n) (hb : Bt w A l) (hc : n ≤ c) (hfl : f.length = m) (hfb : Bt w F f) (hfB : Byt f) (hfc : m ≤ cF) (h : ¬ 1100 < n) (hm : ¬ 20 < m) (hv : vS n At Nu Bl Se Wt Gp Dl Fl = true) (ht : timeB t = false) : Calls Try.prog 8 #[.agg #[.slice A n c, .int .i64 At, .int .i64 Nu, .int .i64 Bl, .int .i64 Se, .bool Wt, .int .i64 Gp, .int .i64 Dl, .bool Fl], .slice F m cF, .int .i64 t] w fun x w' => x = .returned (.bool true) ∧ Below w.heap.size w w' := by
  have LG := fun w => long15 A n c w
  rw [decide_eq_false h] at LG
  replace LG := Lib.hid LG
  have hm' : decide ((20 : Int) < (m : Int)) = false := by simp; omega
  have K := fun w => next28_range A n c At Nu Bl Se Wt Gp Dl Fl l t w hv ht
  replace K := Lib.hid K
  have K2 := fun w h => ctl27_range A n c At Nu Bl Se Wt Gp Dl Fl l F m cF f t w hfl h hfB hfc hv ht
  replace K2 := Lib.hid K2
  have K3 := fun w => exp29_range A n c At Nu Bl Se Wt Gp Dl Fl l t w hv ht
  replace K3 := Lib.hid K3
  have V := fun w => refS30 A n c At Nu Bl Se Wt Gp Dl Fl w
  rw [hv] at V
  replace V := Lib.hid V
  have U := fun w => time21 t w
  rw [ht] at U
  replace U := Lib.hid U
  have HFB := Lib.hid hfb
  clear hl hb hfl hfb hfB h hm hv ht
  go_enter Try.func8, Try.ntmps8
  go_wp2_with fail
  refine (awake10 _).mono ?_
  rintro x w1 ⟨rfl, hb1⟩
  have hg1 := chain (w := w) (by go_grown) hb1
  have P1 := (Cl.new (w := w) rfl [.slice A n c, .int .i64 At, .int .i64 Nu, .int .i64 Bl, .int .i64 Se, .bool Wt, .int .i64 Gp, .int .i64 Dl, .bool Fl] 40).below hb1
  have HP := Lib.hid P1
  have HG := Lib.hid hg1
  have HS := Lib.hid hg1.size
  clear P1 hb1 hg1
  have p0 := HP.out.c 0 rfl
  have p1 := HP.out.c 1 rfl
  have p2 := HP.out.c 2 rfl
  have p3 := HP.out.c 3 rfl
  have p4 := HP.out.c 4 rfl
  have p5 := HP.out.c 5 rfl
  have p6 := HP.out.c 6 rfl
  have p7 := HP.out.c 7 rfl
  have p8 := HP.out.c 8 rfl
  have zp := HP.out.1
  go_wp2_with fail
  refine (LG.out _).mono ?_
  rintro x w2 ⟨rfl, rfl⟩
  go_wp2_with fail
  refine (K.out _).mono ?_
  rintro x w2 ⟨A2, n2, c2, B2, m2, d2, rfl, hn2, hc2, _, _, hm2, _, _, _, hb2⟩
  obtain rfl : n2 = 0 := hn2
  obtain rfl : m2 = 0 := hm2
  have hh2 : Below w1.heap.size w1 w2 := hb2
  have hg2 := chain HG.out hb2
  have P2 := HP.out.below hh2
  clear p0 p1 p2 p3 p4 p5 p6 p7 p8 zp
  clear HP HG HS
  have HP := Lib.hid P2
  have HG := Lib.hid hg2
  have HS := Lib.hid hg2.size
  clear hg2 hh2 hb2 P2
  have p0 := HP.out.c 0 rfl
  have p1 := HP.out.c 1 rfl
  have p2 := HP.out.c 2 rfl
  have p3 := HP.out.c 3 rfl
  have p4 := HP.out.c 4 rfl
  have p5 := HP.out.c 5 rfl
  have p6 := HP.out.c 6 rfl
  have p7 := HP.out.c 7 rfl
  have p8 := HP.out.c 8 rfl
  have zp := HP.out.1
  go_wp2_with fail
  refine (K2.out _ (HFB.out.below ((show Below w.heap.size w w2 from HG.out).alloc HS.out _))).mono ?_
  rintro x w3 ⟨A3, n3, c3, rfl, hn3, hc3, _, _, hb3⟩
  obtain rfl : n3 = 0 := hn3
  have hh3 : Below w2.heap.size w2 w3 := ((Below.refl _ _).alloc (Nat.le_refl _) (.cells #[.slice A2 0 c2, .int .i64 0, .int .i64 0, .int .i64 0, .int .i64 0, .bool false, .int .i64 0, .int .i64 0, .bool false] 40) : Below w2.heap.size w2 (w2.alloc (.cells #[.slice A2 0 c2, .int .i64 0, .int .i64 0, .int .i64 0, .int .i64 0, .bool false, .int .i64 0, .int .i64 0, .bool false] 40))).trans (hb3.mono (by simp))
  have hg3 := chain (HG.out.alloc HS.out (.cells #[.slice A2 0 c2, .int .i64 0, .int .i64 0, .int .i64 0, .int .i64 0, .bool false, .int .i64 0, .int .i64 0, .bool false] 40)) hb3
  have P3 := HP.out.below hh3
  have X3 := (Cl.new (w := w2) rfl [.slice A2 0 c2, .int .i64 0, .int .i64 0, .int .i64 0, .int .i64 0, .bool false, .int .i64 0, .int .i64 0, .bool false] 40).below hb3
  clear p0 p1 p2 p3 p4 p5 p6 p7 p8 zp
  clear HP HG HS
  have HP := Lib.hid P3
  have HX := Lib.hid X3
  have HG := Lib.hid hg3
  have HS := Lib.hid hg3.size
  clear hg3 hh3 hb3 P3 X3
  have p0 := HP.out.c 0 rfl
  have p1 := HP.out.c 1 rfl
  have p2 := HP.out.c 2 rfl
  have p3 := HP.out.c 3 rfl
  have p4 := HP.out.c 4 rfl
  have p5 := HP.out.c 5 rfl
  have p6 := HP.out.c 6 rfl
  have p7 := HP.out.c 7 rfl
  have p8 := HP.out.c 8 rfl
  have zp := HP.out.1
  go_wp2_with fail
  refine (K3.out _).mono ?_
  rintro x w4 ⟨A4, n4, c4, rfl, hn4, hc4, _, hb4⟩
  obtain rfl : n4 = 0 := hn4
  have hh4 : Below w3.heap.size w3 w4 := ((Below.refl _ _).alloc (Nat.le_refl _) (.cells #[.slice A3 0 c3, .int .i64 0, .int .i64 0, .int .i64 0, .int .i64 0, .bool false, .int .i64 0, .int .i64 0, .bool false] 40) : Below w3.heap.size w3 (w3.alloc (.cells #[.slice A3 0 c3, .int .i64 0, .int .i64 0, .int .i64 0, .int .i64 0, .bool false, .int .i64 0, .int .i64 0, .bool false] 40))).trans (hb4.mono (by simp))
  have hg4 := chain (HG.out.alloc HS.out (.cells #[.slice A3 0 c3, .int .i64 0, .int .i64 0, .int .i64 0, .int .i64 0, .bool false, .int .i64 0, .int .i64 0, .bool false] 40)) hb4
  have P4 := HP.out.below hh4
  have X4 := HX.out.below hh4
  have Y4 := (Cl.new (w := w3) rfl [.slice A3 0 c3, .int .i64 0, .int .i64 0, .int .i64 0, .int .i64 0, .bool false, .int .i64 0, .int .i64 0, .bool false] 40).below hb4
  clear p0 p1 p2 p3 p4 p5 p6 p7 p8 zp
  clear HP HX HG HS
  have HP := Lib.hid P4
  have HX := Lib.hid X4
  have HY := Lib.hid Y4
  have HG := Lib.hid hg4
  have HS := Lib.hid hg4.size
  clear hg4 hh4 hb4 P4 X4 Y4
  have p0 := HP.out.c 0 rfl
  have p1 := HP.out.c 1 rfl
  have p2 := HP.out.c 2 rfl
  have p3 := HP.out.c 3 rfl
  have p4 := HP.out.c 4 rfl
  have p5 := HP.out.c 5 rfl
  have p6 := HP.out.c 6 rfl
  have p7 := HP.out.c 7 rfl
  have p8 := HP.out.c 8 rfl
  have zp := HP.out.1
  go_wp2_with fail
  refine (V.out _).mono ?_
  rintro x w5 ⟨rfl, hb5⟩
  have hh5 : Below w4.heap.size w4 w5 := ((Below.refl _ _).alloc (Nat.le_refl _) (.cells #[.slice A4 0 c4, .int .i64 0, .int .i64 0, .int .i64 0, .int .i64 0, .bool false, .int .i64 0, .int .i64 0, .bool false] 40) : Below w4.heap.size w4 (w4.alloc (.cells #[.slice A4 0 c4, .int .i64 0, .int .i64 0, .int .i64 0, .int .i64 0, .bool false, .int .i64 0, .int .i64 0, .bool false] 40))).trans (hb5.mono (by simp))
  have hg5 := chain (HG.out.alloc HS.out (.cells #[.slice A4 0 c4, .int .i64 0, .int .i64 0, .int .i64 0, .int .i64 0, .bool false, .int .i64 0, .int .i64 0, .bool false] 40)) hb5
  have P5 := HP.out.below hh5
  have X5 := HX.out.below hh5
  have Y5 := HY.out.below hh5
  have Z5 := (Cl.new (w := w4) rfl [.slice A4 0 c4, .int .i64 0, .int .i64 0, .int .i64 0, .int .i64 0, .bool false, .int .i64 0, .int .i64 0, .bool false] 40).below hb5
  clear p0 p1 p2 p3 p4 p5 p6 p7 p8 zp
  clear HP HX HY HG HS
  have HP := Lib.hid P5
  have HX := Lib.hid X5
  have HY := Lib.hid Y5
  have HZ := Lib.hid Z5
  have HG := Lib.hid hg5
  have HS := Lib.hid hg5.size
  clear hg5 hh5 hb5 P5 X5 Y5 Z5
  have x0 := HX.out.c 0 rfl
  have x1 := HX.out.c 1 rfl
  have x2 := HX.out.c 2 rfl
  have x3 := HX.out.c 3 rfl
  have x4 := HX.out.c 4 rfl
  have x5 := HX.out.c 5 rfl
  have x6 := HX.out.c 6 rfl
  have x7 := HX.out.c 7 rfl
  have x8 := HX.out.c 8 rfl
  have zx := HX.out.1
  go_wp2_with fail
  refine (U.out _).mono ?_
  rintro x w6 ⟨rfl, rfl⟩
  go_wp2_with fail
  refine (same20 A2 none 0 c2 0 0 0 0 0 false 0 0 false [] _ rfl (Bt.nil _ _) (Bt.nil _ _)).mono ?_
  rintro x w6 ⟨rfl, hb6⟩
  have hh6 : Below w5.heap.size w5 w6 := ((Below.refl _ _).alloc (Nat.le_refl _) (.cells #[.slice none 0 0, .int .i64 0, .int .i64 0, .int .i64 0, .int .i64 0, .bool false, .int .i64 0, .int .i64 0, .bool false] 40) : Below w5.heap.size w5 (w5.alloc (.cells #[.slice none 0 0, .int .i64 0, .int .i64 0, .int .i64 0, .int .i64 0, .bool false, .int .i64 0, .int .i64 0, .bool false] 40))).trans (hb6.mono (by simp))
  have hg6 := chain (HG.out.alloc HS.out (.cells #[.slice none 0 0, .int .i64 0, .int .i64 0, .int .i64 0, .int .i64 0, .bool false, .int .i64 0, .int .i64 0, .bool false] 40)) hb6
  have P6 := HP.out.below hh6
  have X6 := HX.out.below hh6
  have Y6 := HY.out.below hh6
  have Z6 := HZ.out.below hh6
  have O6 := (Cl.new (w := w5) rfl [.slice none 0 0, .int .i64 0, .int .i64 0, .int .i64 0, .int .i64 0, .bool false, .int .i64 0, .int .i64 0, .bool false] 40).below hb6
  clear x0 x1 x2 x3 x4 x5 x6 x7 x8 zx
  clear HP HX HY HZ HG HS
  have HP := Lib.hid P6
  have HX := Lib.hid X6
  have HY := Lib.hid Y6
  have HZ := Lib.hid Z6
  have HO := Lib.hid O6
  have HG := Lib.hid hg6
  have HS := Lib.hid hg6.size
  clear hg6 hh6 hb6 P6 X6 Y6 Z6 O6
  have y0 := HY.out.c 0 rfl
  have y1 := HY.out.c 1 rfl
  have y2 := HY.out.c 2 rfl
  have y3 := HY.out.c 3 rfl
  have y4 := HY.out.c 4 rfl
  have y5 := HY.out.c 5 rfl
  have y6 := HY.out.c 6 rfl
  have y7 := HY.out.c 7 rfl
  have y8 := HY.out.c 8 rfl
  have zy := HY.out.1
  have o0 := HO.out.c 0 rfl
  have o1 := HO.out.c 1 rfl
  have o2 := HO.out.c 2 rfl
  have o3 := HO.out.c 3 rfl
  have o4 := HO.out.c 4 rfl
  have o5 := HO.out.c 5 rfl
  have o6 := HO.out.c 6 rfl
  have o7 := HO.out.c 7 rfl
  have o8 := HO.out.c 8 rfl
  have zo := HO.out.1
  go_wp2_with fail
  refine (same20 A3 none 0 c3 0 0 0 0 0 false 0 0 false [] _ rfl (Bt.nil _ _) (Bt.nil _ _)).mono ?_
  rintro x w7 ⟨rfl, hb7⟩
  have hh7 : Below w6.heap.size w6 w7 := hb7
  have hg7 := chain HG.out hb7
  have P7 := HP.out.below hh7
  have X7 := HX.out.below hh7
  have Y7 := HY.out.below hh7
  have Z7 := HZ.out.below hh7
  have O7 := HO.out.below hh7
  clear y0 y1 y2 y3 y4 y5 y6 y7 y8 zy o0 o1 o2 o3 o4 o5 o6 o7 o8 zo
  clear HP HX HY HZ HO HG HS
  have HP := Lib.hid P7
  have HX := Lib.hid X7
  have HY := Lib.hid Y7
  have HZ := Lib.hid Z7
  have HO := Lib.hid O7
  have HG := Lib.hid hg7
  have HS := Lib.hid hg7.size
  clear hg7 hh7 hb7 P7 X7 Y7 Z7 O7
  have z0 := HZ.out.c 0 rfl
  have z1 := HZ.out.c 1 rfl
  have z2 := HZ.out.c 2 rfl
  have z3 := HZ.out.c 3 rfl
  have z4 := HZ.out.c 4 rfl
  have z5 := HZ.out.c 5 rfl
  have z6 := HZ.out.c 6 rfl
  have z7 := HZ.out.c 7 rfl
  have z8 := HZ.out.c 8 rfl
  have zz := HZ.out.1
  have o0 := HO.out.c 0 rfl
  have o1 := HO.out.c 1 rfl
  have o2 := HO.out.c 2 rfl
  have o3 := HO.out.c 3 rfl
  have o4 := HO.out.c 4 rfl
  have o5 := HO.out.c 5 rfl
  have o6 := HO.out.c 6 rfl
  have o7 := HO.out.c 7 rfl
  have o8 := HO.out.c 8 rfl
  have zo := HO.out.1
  go_wp2_with fail
  refine (same20 A4 none 0 c4 0 0 0 0 0 false 0 0 false [] _ rfl (Bt.nil _ _) (Bt.nil _ _)).mono ?_
  rintro x w8 ⟨rfl, hb8⟩
  have hh8 : Below w7.heap.size w7 w8 := hb8
  have hg8 := chain HG.out hb8
  have P8 := HP.out.below hh8
  have X8 := HX.out.below hh8
  have Y8 := HY.out.below hh8
  have Z8 := HZ.out.below hh8
  have O8 := HO.out.below hh8
  clear z0 z1 z2 z3 z4 z5 z6 z7 z8 zz o0 o1 o2 o3 o4 o5 o6 o7 o8 zo
  clear HP HX HY HZ HO HG HS
  have HP := Lib.hid P8
  have HX := Lib.hid X8
  have HY := Lib.hid Y8
  have HZ := Lib.hid Z8
  have HO := Lib.hid O8
  have HG := Lib.hid hg8
  have HS := Lib.hid hg8.size
  clear hg8 hh8 hb8 P8 X8 Y8 Z8 O8
  go_wp2
  go_ret
  exact ⟨rfl, HG.out⟩
end Go.Proofs.Ytfjeediecmhedaa
