/-
  The law TransportReceives of inputs that are too large, or that are refused. No condition but the slices' shape.
-/
import Derived.Test.YtfjeediecmhedaaTick
import Derived.Test.YtfjeediecmhedaaSendsCore
import Derived.Test.YtfjeediecmhedaaRefVal
set_option linter.unusedVariables false
set_option linter.unusedSimpArgs false
namespace Go.Proofs.Ytfjeediecmhedaa
open Go.RowKit
/-- Tick, by tickM -/
theorem tick14 (A : Option Addr) (n c : Nat) (Le Nu Bl Gt : Int) (Bu Dn : Bool) (Dl : Int) (Fl : Bool) (l : List Int) (t : Int) (w : World) (hl : l.length = n) (hb : Bt w A l) (hc : n ≤ c) (hv : vR n Le Nu Bl Gt Bu Dn Dl Fl = true) (ht : timeB t = true) :
    Calls Try.prog 14 #[.agg #[.slice A n c, .int .i64 Le, .int .i64 Nu, .int .i64 Bl, .int .i64 Gt, .bool Bu, .bool Dn, .int .i64 Dl, .bool Fl], .int .i64 t] w (RQ (tickM ⟨l, Le, Nu, Bl, Gt, Bu, Dn, Dl, Fl⟩ t) w) := by
  by_cases h : Bu = true ∧ Dl < t
  · obtain ⟨rfl, hx⟩ := h
    have e : tickM ⟨l, Le, Nu, Bl, Gt, true, Dn, Dl, Fl⟩ t = ⟨[], 0, 0, Bl, 0, false, false, 0, true⟩ := by unfold tickM; rw [if_pos ⟨rfl, hx⟩]
    rw [e]
    exact tick14_late A n c Le Nu Bl Gt Dn Dl Fl l t w hv ht hx
  · have e : tickM ⟨l, Le, Nu, Bl, Gt, Bu, Dn, Dl, Fl⟩ t = ⟨l, Le, Nu, Bl, Gt, Bu, Dn, Dl, Fl⟩ := by unfold tickM; rw [if_neg h]
    rw [e]
    exact tick14_same A n c Le Nu Bl Gt Bu Dn Dl Fl l t w hl hb hc hv ht (by cases Bu; exact .inl rfl; exact .inr ⟨rfl, by simp at h; omega⟩)
theorem tick26 (A : Option Addr) (n c : Nat) (Le Nu Bl Gt : Int) (Bu Dn : Bool) (Dl : Int) (Fl : Bool) (l : List Int) (t : Int) (w : World) (hl : l.length = n) (hb : Bt w A l) (hc : n ≤ c) :
    Calls Try.prog 26 #[.agg #[.slice A n c, .int .i64 Le, .int .i64 Nu, .int .i64 Bl, .int .i64 Gt, .bool Bu, .bool Dn, .int .i64 Dl, .bool Fl], .int .i64 t] w (RQ (tickM ⟨l, Le, Nu, Bl, Gt, Bu, Dn, Dl, Fl⟩ t) w) := by
  by_cases h : Bu = true ∧ Dl < t
  · obtain ⟨rfl, hx⟩ := h
    have e : tickM ⟨l, Le, Nu, Bl, Gt, true, Dn, Dl, Fl⟩ t = ⟨[], 0, 0, Bl, 0, false, false, 0, true⟩ := by unfold tickM; rw [if_pos ⟨rfl, hx⟩]
    rw [e]
    exact tick26_late A n c Le Nu Bl Gt Dn Dl Fl l t w hx
  · have e : tickM ⟨l, Le, Nu, Bl, Gt, Bu, Dn, Dl, Fl⟩ t = ⟨l, Le, Nu, Bl, Gt, Bu, Dn, Dl, Fl⟩ := by unfold tickM; rw [if_neg h]
    rw [e]
    exact tick26_same A n c Le Nu Bl Gt Bu Dn Dl Fl l t w hl hb hc (by cases Bu; exact .inl rfl; exact .inr ⟨rfl, by simp at h; omega⟩)
set_option maxRecDepth 100000 in
set_option maxHeartbeats 8000000 in
theorem receives_big (A : Option Addr) (n c : Nat) (Le Nu Bl Gt : Int) (Bu Dn : Bool) (Dl : Int) (Fl : Bool) (l : List Int) (F : Option Addr) (m cF : Nat) (f : List Int) (t : Int) (w : World) (h : 1100 < n ∨ (¬ 1100 < n ∧ 20 < m)) : Calls Try.prog 6 #[.agg #[.slice A n c, .int .i64 Le, .int .i64 Nu, .int .i64 Bl, .int .i64 Gt, .bool Bu, .bool Dn, .int .i64 Dl, .bool Fl], .slice F m cF, .int .i64 t] w fun x w' => x = .returned (.bool true) ∧ Below w.heap.size w w' := by
  have T := fun w => long15 A n c w
  rcases h with h | ⟨h, h2⟩
  · rw [decide_eq_true h] at T
    replace T := Lib.hid T
    clear h
    go_enter Try.func6, Try.ntmps6
    go_wp2_with fail
    refine (awake10 _).mono ?_
    rintro x w1 ⟨rfl, hb1⟩
    have hg1 := chain (w := w) (by go_grown) hb1
    have P1 := (Cl.new (w := w) rfl [.slice A n c, .int .i64 Le, .int .i64 Nu, .int .i64 Bl, .int .i64 Gt, .bool Bu, .bool Dn, .int .i64 Dl, .bool Fl] 30).below hb1
    have p0 := P1.c 0 rfl
    have p1 := P1.c 1 rfl
    have p2 := P1.c 2 rfl
    have p3 := P1.c 3 rfl
    have p4 := P1.c 4 rfl
    have p5 := P1.c 5 rfl
    have p6 := P1.c 6 rfl
    have p7 := P1.c 7 rfl
    have p8 := P1.c 8 rfl
    have zp := P1.1
    have HP1 := Lib.hid P1
    clear P1 hb1
    go_wp2_with fail
    refine (T.out _).mono ?_
    rintro x w2 ⟨rfl, rfl⟩
    go_wp2_with fail
    refine (awake10 _).mono ?_
    rintro x w2 ⟨rfl, hb2⟩
    have hg2 := chain hg1 hb2
    go_wp2
    go_ret
    exact ⟨rfl, hg2⟩
  · rw [decide_eq_false h] at T
    replace T := Lib.hid T
    have hm : decide ((20 : Int) < (m : Int)) = true := by simp; omega
    clear h
    go_enter Try.func6, Try.ntmps6
    go_wp2_with fail
    refine (awake10 _).mono ?_
    rintro x w1 ⟨rfl, hb1⟩
    have hg1 := chain (w := w) (by go_grown) hb1
    have P1 := (Cl.new (w := w) rfl [.slice A n c, .int .i64 Le, .int .i64 Nu, .int .i64 Bl, .int .i64 Gt, .bool Bu, .bool Dn, .int .i64 Dl, .bool Fl] 30).below hb1
    have p0 := P1.c 0 rfl
    have p1 := P1.c 1 rfl
    have p2 := P1.c 2 rfl
    have p3 := P1.c 3 rfl
    have p4 := P1.c 4 rfl
    have p5 := P1.c 5 rfl
    have p6 := P1.c 6 rfl
    have p7 := P1.c 7 rfl
    have p8 := P1.c 8 rfl
    have zp := P1.1
    have HP1 := Lib.hid P1
    clear P1 hb1
    go_wp2_with fail
    refine (T.out _).mono ?_
    rintro x w2 ⟨rfl, rfl⟩
    go_wp2_with fail
    refine (awake10 _).mono ?_
    rintro x w2 ⟨rfl, hb2⟩
    have hg2 := chain hg1 hb2
    go_wp2
    go_ret
    exact ⟨rfl, hg2⟩
set_option maxRecDepth 100000 in
set_option maxHeartbeats 8000000 in
theorem receives_arg (A : Option Addr) (n c : Nat) (Le Nu Bl Gt : Int) (Bu Dn : Bool) (Dl : Int) (Fl : Bool) (l : List Int) (F : Option Addr) (m cF : Nat) (f : List Int) (t : Int) (w : World) (hl : l.length = n) (hb : Bt w A l) (hc : n ≤ c) (hfl : f.length = m) (hfb : Bt w F f) (hfB : Byt f) (hfc : m ≤ cF) (h : ¬ 1100 < n) (hm : ¬ 20 < m) (hv : vR n Le Nu Bl Gt Bu Dn Dl Fl = false) : Calls Try.prog 6 #[.agg #[.slice A n c, .int .i64 Le, .int .i64 Nu, .int .i64 Bl, .int .i64 Gt, .bool Bu, .bool Dn, .int .i64 Dl, .bool Fl], .slice F m cF, .int .i64 t] w fun x w' => x = .returned (.bool true) ∧ Below w.heap.size w w' := by
  have T := fun w => long15 A n c w
  rw [decide_eq_false h] at T
  replace T := Lib.hid T
  have hm' : decide ((20 : Int) < (m : Int)) = false := by simp; omega
  have K := fun w h h2 => recv13_arg A n c Le Nu Bl Gt Bu Dn Dl Fl l F m cF f t w hl h hc hfl h2 hfB hfc hv
  replace K := Lib.hid K
  have Q := fun w => tick14_no A n c Le Nu Bl Gt Bu Dn Dl Fl l t w (.inl hv)
  replace Q := Lib.hid Q
  have V := fun w => refR23 A n c Le Nu Bl Gt Bu Dn Dl Fl w
  rw [hv] at V
  replace V := Lib.hid V
  clear hv
  have HL := Lib.hid hl
  have HB := Lib.hid hb
  have HFL := Lib.hid hfl
  have HFB := Lib.hid hfb
  clear hl hb hfl hfb hfB h hm
  go_enter Try.func6, Try.ntmps6
  go_wp2_with fail
  refine (awake10 _).mono ?_
  rintro x w1 ⟨rfl, hb1⟩
  have hg1 := chain (w := w) (by go_grown) hb1
  have P1 := (Cl.new (w := w) rfl [.slice A n c, .int .i64 Le, .int .i64 Nu, .int .i64 Bl, .int .i64 Gt, .bool Bu, .bool Dn, .int .i64 Dl, .bool Fl] 30).below hb1
  have p0 := P1.c 0 rfl
  have p1 := P1.c 1 rfl
  have p2 := P1.c 2 rfl
  have p3 := P1.c 3 rfl
  have p4 := P1.c 4 rfl
  have p5 := P1.c 5 rfl
  have p6 := P1.c 6 rfl
  have p7 := P1.c 7 rfl
  have p8 := P1.c 8 rfl
  have zp := P1.1
  have HP1 := Lib.hid P1
  clear P1 hb1
  go_wp2_with fail
  refine (T.out _).mono ?_
  rintro x w2 ⟨rfl, rfl⟩
  go_wp2_with fail
  refine (K.out _ (HB.out.below hg1) (HFB.out.below hg1)).mono ?_
  rintro x w2 ⟨A2, n2, c2, B2, m2, d2, rfl, hn2, hc2, _, _, hm2, _, _, _, hb2⟩
  obtain rfl : n2 = 0 := hn2
  obtain rfl : m2 = 0 := hm2
  have hg2 := chain hg1 hb2
  have P2 := HP1.out.below hb2
  clear p0 p1 p2 p3 p4 p5 p6 p7 p8 zp HP1 hb2
  have p0 := P2.c 0 rfl
  have p1 := P2.c 1 rfl
  have p2 := P2.c 2 rfl
  have p3 := P2.c 3 rfl
  have p4 := P2.c 4 rfl
  have p5 := P2.c 5 rfl
  have p6 := P2.c 6 rfl
  have p7 := P2.c 7 rfl
  have p8 := P2.c 8 rfl
  have zp := P2.1
  have HP2 := Lib.hid P2
  have hs2 := hg2.size
  clear P2
  go_wp2_with fail
  refine (Q.out _).mono ?_
  rintro x w3 ⟨A3, n3, c3, rfl, hn3, hc3, _, hb3⟩
  obtain rfl : n3 = 0 := hn3
  have hg3 := chain (hg2.alloc hs2 (.cells #[.slice A2 0 c2, .int .i64 0, .int .i64 0, .int .i64 0, .int .i64 0, .bool false, .bool false, .int .i64 0, .bool false] 30)) hb3
  have P3 := (HP2.out.below ((Below.refl _ _).alloc (Nat.le_refl _) (.cells #[.slice A2 0 c2, .int .i64 0, .int .i64 0, .int .i64 0, .int .i64 0, .bool false, .bool false, .int .i64 0, .bool false] 30) : Below w2.heap.size w2 (w2.alloc (.cells #[.slice A2 0 c2, .int .i64 0, .int .i64 0, .int .i64 0, .int .i64 0, .bool false, .bool false, .int .i64 0, .bool false] 30)))).below hb3
  have X3 := (Cl.new (w := w2) rfl [.slice A2 0 c2, .int .i64 0, .int .i64 0, .int .i64 0, .int .i64 0, .bool false, .bool false, .int .i64 0, .bool false] 30).below hb3
  clear p0 p1 p2 p3 p4 p5 p6 p7 p8 zp HP2 hb3
  have p0 := P3.c 0 rfl
  have p1 := P3.c 1 rfl
  have p2 := P3.c 2 rfl
  have p3 := P3.c 3 rfl
  have p4 := P3.c 4 rfl
  have p5 := P3.c 5 rfl
  have p6 := P3.c 6 rfl
  have p7 := P3.c 7 rfl
  have p8 := P3.c 8 rfl
  have zp := P3.1
  have x0 := X3.c 0 rfl
  have x1 := X3.c 1 rfl
  have x2 := X3.c 2 rfl
  have x3 := X3.c 3 rfl
  have x4 := X3.c 4 rfl
  have x5 := X3.c 5 rfl
  have x6 := X3.c 6 rfl
  have x7 := X3.c 7 rfl
  have x8 := X3.c 8 rfl
  have zx := X3.1
  have HP3 := Lib.hid P3
  have HX3 := Lib.hid X3
  have hs3 := hg3.size
  clear P3 X3
  go_wp2_with fail
  refine (V.out _).mono ?_
  rintro x w4 ⟨rfl, hb4⟩
  have hg4 := chain (hg3.alloc hs3 (.cells #[.slice A3 0 c3, .int .i64 0, .int .i64 0, .int .i64 0, .int .i64 0, .bool false, .bool false, .int .i64 0, .bool false] 30)) hb4
  have X4 := (HX3.out.below ((Below.refl _ _).alloc (Nat.le_refl _) (.cells #[.slice A3 0 c3, .int .i64 0, .int .i64 0, .int .i64 0, .int .i64 0, .bool false, .bool false, .int .i64 0, .bool false] 30) : Below w3.heap.size w3 (w3.alloc (.cells #[.slice A3 0 c3, .int .i64 0, .int .i64 0, .int .i64 0, .int .i64 0, .bool false, .bool false, .int .i64 0, .bool false] 30)))).below hb4
  have Y4 := (Cl.new (w := w3) rfl [.slice A3 0 c3, .int .i64 0, .int .i64 0, .int .i64 0, .int .i64 0, .bool false, .bool false, .int .i64 0, .bool false] 30).below hb4
  clear p0 p1 p2 p3 p4 p5 p6 p7 p8 zp HP3 x0 x1 x2 x3 x4 x5 x6 x7 x8 zx HX3 hb4
  have x0 := X4.c 0 rfl
  have x1 := X4.c 1 rfl
  have x2 := X4.c 2 rfl
  have x3 := X4.c 3 rfl
  have x4 := X4.c 4 rfl
  have x5 := X4.c 5 rfl
  have x6 := X4.c 6 rfl
  have x7 := X4.c 7 rfl
  have x8 := X4.c 8 rfl
  have zx := X4.1
  have y0 := Y4.c 0 rfl
  have y1 := Y4.c 1 rfl
  have y2 := Y4.c 2 rfl
  have y3 := Y4.c 3 rfl
  have y4 := Y4.c 4 rfl
  have y5 := Y4.c 5 rfl
  have y6 := Y4.c 6 rfl
  have y7 := Y4.c 7 rfl
  have y8 := Y4.c 8 rfl
  have zy := Y4.1
  have HY4 := Lib.hid Y4
  have hs4 := hg4.size
  clear X4 Y4
  go_wp2_with fail
  refine (same24 A2 none 0 c2 0 0 0 0 0 false false 0 false [] _ rfl (Bt.nil _ _) (Bt.nil _ _)).mono ?_
  rintro x w5 ⟨rfl, hb5⟩
  have hg5 := chain (hg4.alloc hs4 (.cells #[.slice none 0 0, .int .i64 0, .int .i64 0, .int .i64 0, .int .i64 0, .bool false, .bool false, .int .i64 0, .bool false] 30)) hb5
  have Y5 := (HY4.out.below ((Below.refl _ _).alloc (Nat.le_refl _) (.cells #[.slice none 0 0, .int .i64 0, .int .i64 0, .int .i64 0, .int .i64 0, .bool false, .bool false, .int .i64 0, .bool false] 30) : Below w4.heap.size w4 (w4.alloc (.cells #[.slice none 0 0, .int .i64 0, .int .i64 0, .int .i64 0, .int .i64 0, .bool false, .bool false, .int .i64 0, .bool false] 30)))).below hb5
  have Z5 := (Cl.new (w := w4) rfl [.slice none 0 0, .int .i64 0, .int .i64 0, .int .i64 0, .int .i64 0, .bool false, .bool false, .int .i64 0, .bool false] 30).below hb5
  clear x0 x1 x2 x3 x4 x5 x6 x7 x8 zx y0 y1 y2 y3 y4 y5 y6 y7 y8 zy HY4 hb5
  have y0 := Y5.c 0 rfl
  have y1 := Y5.c 1 rfl
  have y2 := Y5.c 2 rfl
  have y3 := Y5.c 3 rfl
  have y4 := Y5.c 4 rfl
  have y5 := Y5.c 5 rfl
  have y6 := Y5.c 6 rfl
  have y7 := Y5.c 7 rfl
  have y8 := Y5.c 8 rfl
  have zy := Y5.1
  have z0 := Z5.c 0 rfl
  have z1 := Z5.c 1 rfl
  have z2 := Z5.c 2 rfl
  have z3 := Z5.c 3 rfl
  have z4 := Z5.c 4 rfl
  have z5 := Z5.c 5 rfl
  have z6 := Z5.c 6 rfl
  have z7 := Z5.c 7 rfl
  have z8 := Z5.c 8 rfl
  have zz := Z5.1
  clear Y5 Z5
  go_wp2_with fail
  refine (same24 A3 none 0 c3 0 0 0 0 0 false false 0 false [] _ rfl (Bt.nil _ _) (Bt.nil _ _)).mono ?_
  rintro x w6 ⟨rfl, hb6⟩
  have hg6 := chain hg5 hb6
  go_wp2
  go_ret
  exact ⟨rfl, hg6⟩
set_option maxRecDepth 100000 in
set_option maxHeartbeats 8000000 in
theorem receives_range (A : Option Addr) (n c : Nat) (Le Nu Bl Gt : Int) (Bu Dn : Bool) (Dl : Int) (Fl : Bool) (l : List Int) (F : Option Addr) (m cF : Nat) (f : List Int) (t : Int) (w : World) (hl : l.length = n) (hb : Bt w A l) (hc : n ≤ c) (hfl : f.length = m) (hfb : Bt w F f) (hfB : Byt f) (hfc : m ≤ cF) (h : ¬ 1100 < n) (hm : ¬ 20 < m) (hv : vR n Le Nu Bl Gt Bu Dn Dl Fl = true) (ht : timeB t = false) : Calls Try.prog 6 #[.agg #[.slice A n c, .int .i64 Le, .int .i64 Nu, .int .i64 Bl, .int .i64 Gt, .bool Bu, .bool Dn, .int .i64 Dl, .bool Fl], .slice F m cF, .int .i64 t] w fun x w' => x = .returned (.bool true) ∧ Below w.heap.size w w' := by
  have T := fun w => long15 A n c w
  rw [decide_eq_false h] at T
  replace T := Lib.hid T
  have hm' : decide ((20 : Int) < (m : Int)) = false := by simp; omega
  have K := fun w h h2 => recv13_range A n c Le Nu Bl Gt Bu Dn Dl Fl l F m cF f t w hl h hc hfl h2 hfB hfc hv ht
  replace K := Lib.hid K
  have Q := fun w => tick14_no A n c Le Nu Bl Gt Bu Dn Dl Fl l t w (.inr ⟨hv, ht⟩)
  replace Q := Lib.hid Q
  have V := fun w => refR23 A n c Le Nu Bl Gt Bu Dn Dl Fl w
  rw [hv] at V
  replace V := Lib.hid V
  have U := fun w => time21 t w
  rw [ht] at U
  replace U := Lib.hid U
  clear hv ht
  have HL := Lib.hid hl
  have HB := Lib.hid hb
  have HFL := Lib.hid hfl
  have HFB := Lib.hid hfb
  clear hl hb hfl hfb hfB h hm
  go_enter Try.func6, Try.ntmps6
  go_wp2_with fail
  refine (awake10 _).mono ?_
  rintro x w1 ⟨rfl, hb1⟩
  have hg1 := chain (w := w) (by go_grown) hb1
  have P1 := (Cl.new (w := w) rfl [.slice A n c, .int .i64 Le, .int .i64 Nu, .int .i64 Bl, .int .i64 Gt, .bool Bu, .bool Dn, .int .i64 Dl, .bool Fl] 30).below hb1
  have p0 := P1.c 0 rfl
  have p1 := P1.c 1 rfl
  have p2 := P1.c 2 rfl
  have p3 := P1.c 3 rfl
  have p4 := P1.c 4 rfl
  have p5 := P1.c 5 rfl
  have p6 := P1.c 6 rfl
  have p7 := P1.c 7 rfl
  have p8 := P1.c 8 rfl
  have zp := P1.1
  have HP1 := Lib.hid P1
  clear P1 hb1
  go_wp2_with fail
  refine (T.out _).mono ?_
  rintro x w2 ⟨rfl, rfl⟩
  go_wp2_with fail
  refine (K.out _ (HB.out.below hg1) (HFB.out.below hg1)).mono ?_
  rintro x w2 ⟨A2, n2, c2, B2, m2, d2, rfl, hn2, hc2, _, _, hm2, _, _, _, hb2⟩
  obtain rfl : n2 = 0 := hn2
  obtain rfl : m2 = 0 := hm2
  have hg2 := chain hg1 hb2
  have P2 := HP1.out.below hb2
  clear p0 p1 p2 p3 p4 p5 p6 p7 p8 zp HP1 hb2
  have p0 := P2.c 0 rfl
  have p1 := P2.c 1 rfl
  have p2 := P2.c 2 rfl
  have p3 := P2.c 3 rfl
  have p4 := P2.c 4 rfl
  have p5 := P2.c 5 rfl
  have p6 := P2.c 6 rfl
  have p7 := P2.c 7 rfl
  have p8 := P2.c 8 rfl
  have zp := P2.1
  have HP2 := Lib.hid P2
  have hs2 := hg2.size
  clear P2
  go_wp2_with fail
  refine (Q.out _).mono ?_
  rintro x w3 ⟨A3, n3, c3, rfl, hn3, hc3, _, hb3⟩
  obtain rfl : n3 = 0 := hn3
  have hg3 := chain (hg2.alloc hs2 (.cells #[.slice A2 0 c2, .int .i64 0, .int .i64 0, .int .i64 0, .int .i64 0, .bool false, .bool false, .int .i64 0, .bool false] 30)) hb3
  have P3 := (HP2.out.below ((Below.refl _ _).alloc (Nat.le_refl _) (.cells #[.slice A2 0 c2, .int .i64 0, .int .i64 0, .int .i64 0, .int .i64 0, .bool false, .bool false, .int .i64 0, .bool false] 30) : Below w2.heap.size w2 (w2.alloc (.cells #[.slice A2 0 c2, .int .i64 0, .int .i64 0, .int .i64 0, .int .i64 0, .bool false, .bool false, .int .i64 0, .bool false] 30)))).below hb3
  have X3 := (Cl.new (w := w2) rfl [.slice A2 0 c2, .int .i64 0, .int .i64 0, .int .i64 0, .int .i64 0, .bool false, .bool false, .int .i64 0, .bool false] 30).below hb3
  clear p0 p1 p2 p3 p4 p5 p6 p7 p8 zp HP2 hb3
  have p0 := P3.c 0 rfl
  have p1 := P3.c 1 rfl
  have p2 := P3.c 2 rfl
  have p3 := P3.c 3 rfl
  have p4 := P3.c 4 rfl
  have p5 := P3.c 5 rfl
  have p6 := P3.c 6 rfl
  have p7 := P3.c 7 rfl
  have p8 := P3.c 8 rfl
  have zp := P3.1
  have x0 := X3.c 0 rfl
  have x1 := X3.c 1 rfl
  have x2 := X3.c 2 rfl
  have x3 := X3.c 3 rfl
  have x4 := X3.c 4 rfl
  have x5 := X3.c 5 rfl
  have x6 := X3.c 6 rfl
  have x7 := X3.c 7 rfl
  have x8 := X3.c 8 rfl
  have zx := X3.1
  have HP3 := Lib.hid P3
  have HX3 := Lib.hid X3
  have hs3 := hg3.size
  clear P3 X3
  go_wp2_with fail
  refine (V.out _).mono ?_
  rintro x w4 ⟨rfl, hb4⟩
  have hg4 := chain (hg3.alloc hs3 (.cells #[.slice A3 0 c3, .int .i64 0, .int .i64 0, .int .i64 0, .int .i64 0, .bool false, .bool false, .int .i64 0, .bool false] 30)) hb4
  have X4 := (HX3.out.below ((Below.refl _ _).alloc (Nat.le_refl _) (.cells #[.slice A3 0 c3, .int .i64 0, .int .i64 0, .int .i64 0, .int .i64 0, .bool false, .bool false, .int .i64 0, .bool false] 30) : Below w3.heap.size w3 (w3.alloc (.cells #[.slice A3 0 c3, .int .i64 0, .int .i64 0, .int .i64 0, .int .i64 0, .bool false, .bool false, .int .i64 0, .bool false] 30)))).below hb4
  have Y4 := (Cl.new (w := w3) rfl [.slice A3 0 c3, .int .i64 0, .int .i64 0, .int .i64 0, .int .i64 0, .bool false, .bool false, .int .i64 0, .bool false] 30).below hb4
  clear p0 p1 p2 p3 p4 p5 p6 p7 p8 zp HP3 x0 x1 x2 x3 x4 x5 x6 x7 x8 zx HX3 hb4
  have x0 := X4.c 0 rfl
  have x1 := X4.c 1 rfl
  have x2 := X4.c 2 rfl
  have x3 := X4.c 3 rfl
  have x4 := X4.c 4 rfl
  have x5 := X4.c 5 rfl
  have x6 := X4.c 6 rfl
  have x7 := X4.c 7 rfl
  have x8 := X4.c 8 rfl
  have zx := X4.1
  have y0 := Y4.c 0 rfl
  have y1 := Y4.c 1 rfl
  have y2 := Y4.c 2 rfl
  have y3 := Y4.c 3 rfl
  have y4 := Y4.c 4 rfl
  have y5 := Y4.c 5 rfl
  have y6 := Y4.c 6 rfl
  have y7 := Y4.c 7 rfl
  have y8 := Y4.c 8 rfl
  have zy := Y4.1
  have HY4 := Lib.hid Y4
  have hs4 := hg4.size
  clear X4 Y4
  go_wp2_with fail
  refine (U.out _).mono ?_
  rintro x w5 ⟨rfl, rfl⟩
  go_wp2_with fail
  refine (same24 A2 none 0 c2 0 0 0 0 0 false false 0 false [] _ rfl (Bt.nil _ _) (Bt.nil _ _)).mono ?_
  rintro x w5 ⟨rfl, hb5⟩
  have hg5 := chain (hg4.alloc hs4 (.cells #[.slice none 0 0, .int .i64 0, .int .i64 0, .int .i64 0, .int .i64 0, .bool false, .bool false, .int .i64 0, .bool false] 30)) hb5
  have Y5 := (HY4.out.below ((Below.refl _ _).alloc (Nat.le_refl _) (.cells #[.slice none 0 0, .int .i64 0, .int .i64 0, .int .i64 0, .int .i64 0, .bool false, .bool false, .int .i64 0, .bool false] 30) : Below w4.heap.size w4 (w4.alloc (.cells #[.slice none 0 0, .int .i64 0, .int .i64 0, .int .i64 0, .int .i64 0, .bool false, .bool false, .int .i64 0, .bool false] 30)))).below hb5
  have Z5 := (Cl.new (w := w4) rfl [.slice none 0 0, .int .i64 0, .int .i64 0, .int .i64 0, .int .i64 0, .bool false, .bool false, .int .i64 0, .bool false] 30).below hb5
  clear x0 x1 x2 x3 x4 x5 x6 x7 x8 zx y0 y1 y2 y3 y4 y5 y6 y7 y8 zy HY4 hb5
  have y0 := Y5.c 0 rfl
  have y1 := Y5.c 1 rfl
  have y2 := Y5.c 2 rfl
  have y3 := Y5.c 3 rfl
  have y4 := Y5.c 4 rfl
  have y5 := Y5.c 5 rfl
  have y6 := Y5.c 6 rfl
  have y7 := Y5.c 7 rfl
  have y8 := Y5.c 8 rfl
  have zy := Y5.1
  have z0 := Z5.c 0 rfl
  have z1 := Z5.c 1 rfl
  have z2 := Z5.c 2 rfl
  have z3 := Z5.c 3 rfl
  have z4 := Z5.c 4 rfl
  have z5 := Z5.c 5 rfl
  have z6 := Z5.c 6 rfl
  have z7 := Z5.c 7 rfl
  have z8 := Z5.c 8 rfl
  have zz := Z5.1
  clear Y5 Z5
  go_wp2_with fail
  refine (same24 A3 none 0 c3 0 0 0 0 0 false false 0 false [] _ rfl (Bt.nil _ _) (Bt.nil _ _)).mono ?_
  rintro x w6 ⟨rfl, hb6⟩
  have hg6 := chain hg5 hb6
  go_wp2
  go_ret
  exact ⟨rfl, hg6⟩
end Go.Proofs.Ytfjeediecmhedaa
