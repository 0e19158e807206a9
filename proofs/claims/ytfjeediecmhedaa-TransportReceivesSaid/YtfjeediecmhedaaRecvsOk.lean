/-
  The law TransportReceives of valid inputs. No condition but the slices' shape.
-/
import Derived.Test.YtfjeediecmhedaaRecvsCore
import Derived.Test.YtfjeediecmhedaaHeld3
import Derived.Test.YtfjeediecmhedaaRRecv
set_option linter.unusedVariables false
set_option linter.unusedSimpArgs false
namespace Go.Proofs.Ytfjeediecmhedaa
open Go.RowKit
set_option maxRecDepth 100000 in
set_option maxHeartbeats 8000000 in
theorem receives_ok (A : Option Addr) (n c : Nat) (Le Nu Bl Gt : Int) (Bu Dn : Bool) (Dl : Int) (Fl : Bool) (l : List Int) (F : Option Addr) (m cF : Nat) (f : List Int) (t : Int) (w : World) (hl : l.length = n) (hb : Bt w A l) (hc : n ≤ c) (hfl : f.length = m) (hfb : Bt w F f) (hfB : Byt f) (hfc : m ≤ cF) (h : ¬ 1100 < n) (hm : ¬ 20 < m) (hv : vR n Le Nu Bl Gt Bu Dn Dl Fl = true) (ht : timeB t = true) : Calls Try.prog 6 #[.agg #[.slice A n c, .int .i64 Le, .int .i64 Nu, .int .i64 Bl, .int .i64 Gt, .bool Bu, .bool Dn, .int .i64 Dl, .bool Fl], .slice F m cF, .int .i64 t] w fun x w' => x = .returned (.bool true) ∧ Below w.heap.size w w' := by
  have T := fun w => long15 A n c w
  rw [decide_eq_false h] at T
  replace T := Lib.hid T
  have hm' : decide ((20 : Int) < (m : Int)) = false := by simp; omega
  obtain ⟨S, hS⟩ : ∃ S, S = (rcvM ⟨l, Le, Nu, Bl, Gt, Bu, Dn, Dl, Fl⟩ f t).1 := ⟨_, rfl⟩
  obtain ⟨fr, hfr⟩ : ∃ fr, fr = (rcvM ⟨l, Le, Nu, Bl, Gt, Bu, Dn, Dl, Fl⟩ f t).2.1 := ⟨_, rfl⟩
  obtain ⟨ee, hee⟩ : ∃ ee, ee = (rcvM ⟨l, Le, Nu, Bl, Gt, Bu, Dn, Dl, Fl⟩ f t).2.2 := ⟨_, rfl⟩
  obtain ⟨U, hU⟩ : ∃ U, U = tickM ⟨l, Le, Nu, Bl, Gt, Bu, Dn, Dl, Fl⟩ t := ⟨_, rfl⟩
  have K1 : ∀ w, Bt w A l → Bt w F f → Calls Try.prog 13 #[.agg #[.slice A n c, .int .i64 Le, .int .i64 Nu, .int .i64 Bl, .int .i64 Gt, .bool Bu, .bool Dn, .int .i64 Dl, .bool Fl], .slice F m cF, .int .i64 t] w (RP S fr ee w) := fun w h h2 => by
    refine (recv13 A n c ⟨l, Le, Nu, Bl, Gt, Bu, Dn, Dl, Fl⟩ F m cF f t w hl h hc hfl h2 hfB hfc).mono ?_
    rintro r w' (⟨h, _⟩ | ⟨_, h, _⟩ | ⟨_, _, h⟩)
    · rw [show RS.ok ⟨l, Le, Nu, Bl, Gt, Bu, Dn, Dl, Fl⟩ = vR l.length Le Nu Bl Gt Bu Dn Dl Fl from rfl, hl, hv] at h; cases h
    · rw [ht] at h; cases h
    · rw [hS, hfr, hee]; exact h
  have K2 : ∀ w, Bt w A l → Bt w F f → Calls Try.prog 25 #[.agg #[.slice A n c, .int .i64 Le, .int .i64 Nu, .int .i64 Bl, .int .i64 Gt, .bool Bu, .bool Dn, .int .i64 Dl, .bool Fl], .slice F m cF, .int .i64 t] w (RP S fr ee w) := fun w h h2 => by
    rw [hS, hfr, hee]
    exact rrecv25 A n c Le Nu Bl Gt Bu Dn Dl Fl l F m cF f t w hl h hc hfl h2 hfB hfc hv ht
  have Q1 : ∀ w, Bt w A l → Calls Try.prog 14 #[.agg #[.slice A n c, .int .i64 Le, .int .i64 Nu, .int .i64 Bl, .int .i64 Gt, .bool Bu, .bool Dn, .int .i64 Dl, .bool Fl], .int .i64 t] w (RQ U w) := fun w h => by
    rw [hU]; exact tick14 A n c Le Nu Bl Gt Bu Dn Dl Fl l t w hl h hc hv ht
  have Q2 : ∀ w, Bt w A l → Calls Try.prog 26 #[.agg #[.slice A n c, .int .i64 Le, .int .i64 Nu, .int .i64 Bl, .int .i64 Gt, .bool Bu, .bool Dn, .int .i64 Dl, .bool Fl], .int .i64 t] w (RQ U w) := fun w h => by
    rw [hU]; exact tick26 A n c Le Nu Bl Gt Bu Dn Dl Fl l t w hl h hc
  have S1 := fun A B n c d w => same24 A B n c d S.Le S.Nu S.Bl S.Gt S.Bu S.Dn S.Dl S.Fl S.l w
  have S2 := fun A B n c d w => same24 A B n c d U.Le U.Nu U.Bl U.Gt U.Bu U.Dn U.Dl U.Fl U.l w
  have V := fun w => refR23 A n c Le Nu Bl Gt Bu Dn Dl Fl w
  rw [hv] at V
  have TM := fun w => time21 t w
  rw [ht] at TM
  replace K1 := Lib.hid K1
  replace K2 := Lib.hid K2
  replace Q1 := Lib.hid Q1
  replace Q2 := Lib.hid Q2
  replace S1 := Lib.hid S1
  replace S2 := Lib.hid S2
  replace V := Lib.hid V
  replace TM := Lib.hid TM
  clear hS hfr hee hU hv ht
  have HL := Lib.hid hl
  have HB := Lib.hid hb
  have HFL := Lib.hid hfl
  have HFB := Lib.hid hfb
  clear hl hb hfl hfb hfB h hm
  go_enter Try.func6, Try.ntmps6
  go_wp2_with fail
  refine (awake10 _).mono ?_
  rintro x w1 ⟨rfl, hb1⟩
  have hg1 := chain (w := w) (by go_grown) hb1
  have P1 := (Cl.new (w := w) rfl [.slice A n c, .int .i64 Le, .int .i64 Nu, .int .i64 Bl, .int .i64 Gt, .bool Bu, .bool Dn, .int .i64 Dl, .bool Fl] 30).below hb1
  have p0 := P1.c 0 rfl
  have p1 := P1.c 1 rfl
  have p2 := P1.c 2 rfl
  have p3 := P1.c 3 rfl
  have p4 := P1.c 4 rfl
  have p5 := P1.c 5 rfl
  have p6 := P1.c 6 rfl
  have p7 := P1.c 7 rfl
  have p8 := P1.c 8 rfl
  have zp := P1.1
  have HP1 := Lib.hid P1
  clear P1 hb1
  go_wp2_with fail
  refine (T.out _).mono ?_
  rintro x w2 ⟨rfl, rfl⟩
  go_wp2_with fail
  refine (K1.out _ (HB.out.below hg1) (HFB.out.below hg1)).mono ?_
  rintro x w2 ⟨A2, n2, c2, B2, m2, d2, rfl, hn2, hc2, hbt2, _, hm2, hd2, hbf2, _, hb2⟩
  have hg2 := chain hg1 hb2
  have P2 := HP1.out.below hb2
  clear p0 p1 p2 p3 p4 p5 p6 p7 p8 zp HP1 hb2
  have p0 := P2.c 0 rfl
  have p1 := P2.c 1 rfl
  have p2 := P2.c 2 rfl
  have p3 := P2.c 3 rfl
  have p4 := P2.c 4 rfl
  have p5 := P2.c 5 rfl
  have p6 := P2.c 6 rfl
  have p7 := P2.c 7 rfl
  have p8 := P2.c 8 rfl
  have zp := P2.1
  have HP2 := Lib.hid P2
  have HT2 := Lib.hid hbt2
  have HF2 := Lib.hid hbf2
  have HN2 := Lib.hid hn2
  have HM2 := Lib.hid hm2
  have HG2 := Lib.hid hg2
  have hs2 := hg2.size
  clear P2 hbt2 hbf2 hg2 hn2 hm2
  go_wp2_with fail
  refine (Q1.out _ ((HB.out.below HG2.out).below ((Below.refl _ _).alloc (Nat.le_refl _) (.cells #[.slice A2 n2 c2, .int .i64 S.Le, .int .i64 S.Nu, .int .i64 S.Bl, .int .i64 S.Gt, .bool S.Bu, .bool S.Dn, .int .i64 S.Dl, .bool S.Fl] 30) : Below w2.heap.size w2 (w2.alloc (.cells #[.slice A2 n2 c2, .int .i64 S.Le, .int .i64 S.Nu, .int .i64 S.Bl, .int .i64 S.Gt, .bool S.Bu, .bool S.Dn, .int .i64 S.Dl, .bool S.Fl] 30))))).mono ?_
  rintro x w3 ⟨A3, n3, c3, rfl, hn3, hc3, hbt3, hb3⟩
  have hg3 := chain (HG2.out.alloc hs2 (.cells #[.slice A2 n2 c2, .int .i64 S.Le, .int .i64 S.Nu, .int .i64 S.Bl, .int .i64 S.Gt, .bool S.Bu, .bool S.Dn, .int .i64 S.Dl, .bool S.Fl] 30)) hb3
  have hh3 : Below w2.heap.size w2 w3 := (((Below.refl _ _).alloc (Nat.le_refl _) (.cells #[.slice A2 n2 c2, .int .i64 S.Le, .int .i64 S.Nu, .int .i64 S.Bl, .int .i64 S.Gt, .bool S.Bu, .bool S.Dn, .int .i64 S.Dl, .bool S.Fl] 30) : Below w2.heap.size w2 (w2.alloc (.cells #[.slice A2 n2 c2, .int .i64 S.Le, .int .i64 S.Nu, .int .i64 S.Bl, .int .i64 S.Gt, .bool S.Bu, .bool S.Dn, .int .i64 S.Dl, .bool S.Fl] 30)))).trans (hb3.mono (by simp))
  have P3 := (HP2.out.below ((Below.refl _ _).alloc (Nat.le_refl _) (.cells #[.slice A2 n2 c2, .int .i64 S.Le, .int .i64 S.Nu, .int .i64 S.Bl, .int .i64 S.Gt, .bool S.Bu, .bool S.Dn, .int .i64 S.Dl, .bool S.Fl] 30) : Below w2.heap.size w2 (w2.alloc (.cells #[.slice A2 n2 c2, .int .i64 S.Le, .int .i64 S.Nu, .int .i64 S.Bl, .int .i64 S.Gt, .bool S.Bu, .bool S.Dn, .int .i64 S.Dl, .bool S.Fl] 30)))).below hb3
  have X3 := (Cl.new (w := w2) rfl [.slice A2 n2 c2, .int .i64 S.Le, .int .i64 S.Nu, .int .i64 S.Bl, .int .i64 S.Gt, .bool S.Bu, .bool S.Dn, .int .i64 S.Dl, .bool S.Fl] 30).below hb3
  have T3 := HT2.out.below hh3
  have F3 := HF2.out.below hh3
  clear p0 p1 p2 p3 p4 p5 p6 p7 p8 zp HP2 hb3 hh3 HT2 HF2 HG2
  have p0 := P3.c 0 rfl
  have p1 := P3.c 1 rfl
  have p2 := P3.c 2 rfl
  have p3 := P3.c 3 rfl
  have p4 := P3.c 4 rfl
  have p5 := P3.c 5 rfl
  have p6 := P3.c 6 rfl
  have p7 := P3.c 7 rfl
  have p8 := P3.c 8 rfl
  have zp := P3.1
  have HP3 := Lib.hid P3
  have HX3 := Lib.hid X3
  have HT3 := Lib.hid T3
  have HF3 := Lib.hid F3
  have HU3 := Lib.hid hbt3
  have HN3 := Lib.hid hn3
  have HG3 := Lib.hid hg3
  have hs3 := hg3.size
  clear P3 X3 T3 F3 hbt3 hn3 hg3
  go_wp2_with fail
  refine (V.out _).mono ?_
  rintro x w4 ⟨rfl, hb4⟩
  have hg4 := chain (HG3.out.alloc hs3 (.cells #[.slice A3 n3 c3, .int .i64 U.Le, .int .i64 U.Nu, .int .i64 U.Bl, .int .i64 U.Gt, .bool U.Bu, .bool U.Dn, .int .i64 U.Dl, .bool U.Fl] 30)) hb4
  have hh4 : Below w3.heap.size w3 w4 := (((Below.refl _ _).alloc (Nat.le_refl _) (.cells #[.slice A3 n3 c3, .int .i64 U.Le, .int .i64 U.Nu, .int .i64 U.Bl, .int .i64 U.Gt, .bool U.Bu, .bool U.Dn, .int .i64 U.Dl, .bool U.Fl] 30) : Below w3.heap.size w3 (w3.alloc (.cells #[.slice A3 n3 c3, .int .i64 U.Le, .int .i64 U.Nu, .int .i64 U.Bl, .int .i64 U.Gt, .bool U.Bu, .bool U.Dn, .int .i64 U.Dl, .bool U.Fl] 30)))).trans (hb4.mono (by simp))
  have P4 := HP3.out.below hh4
  have X4 := HX3.out.below hh4
  have Y4 := (Cl.new (w := w3) rfl [.slice A3 n3 c3, .int .i64 U.Le, .int .i64 U.Nu, .int .i64 U.Bl, .int .i64 U.Gt, .bool U.Bu, .bool U.Dn, .int .i64 U.Dl, .bool U.Fl] 30).below hb4
  have T4 := HT3.out.below hh4
  have F4 := HF3.out.below hh4
  have U4 := HU3.out.below hh4
  clear p0 p1 p2 p3 p4 p5 p6 p7 p8 zp HP3 hb4 hh4 HT3 HF3 HG3 HX3 HU3
  have p0 := P4.c 0 rfl
  have p1 := P4.c 1 rfl
  have p2 := P4.c 2 rfl
  have p3 := P4.c 3 rfl
  have p4 := P4.c 4 rfl
  have p5 := P4.c 5 rfl
  have p6 := P4.c 6 rfl
  have p7 := P4.c 7 rfl
  have p8 := P4.c 8 rfl
  have zp := P4.1
  have HP4 := Lib.hid P4
  have HX4 := Lib.hid X4
  have HY4 := Lib.hid Y4
  have HT4 := Lib.hid T4
  have HF4 := Lib.hid F4
  have HU4 := Lib.hid U4
  have HG4 := Lib.hid hg4
  have hs4 := hg4.size
  clear P4 X4 Y4 T4 F4 U4 hg4
  go_wp2_with fail
  refine (TM.out _).mono ?_
  rintro x w5 ⟨rfl, rfl⟩
  go_wp2_with fail
  refine (K2.out _ (HB.out.below HG4.out) (HFB.out.below HG4.out)).mono ?_
  rintro x w6 ⟨A6, n6, c6, B6, m6, d6, rfl, hn6, hc6, hbt6, _, hm6, hd6, hbf6, _, hb6⟩
  obtain rfl : n6 = n2 := by rw [hn6, HN2.out]
  obtain rfl : m6 = m2 := by rw [hm6, HM2.out]
  clear hn6 hm6
  have hg6 := chain HG4.out hb6
  have hs6 := hg6.size
  have hA6 : Below w6.heap.size w6 (w6.alloc (.cells #[.slice A6 n6 c6, .int .i64 S.Le, .int .i64 S.Nu, .int .i64 S.Bl, .int .i64 S.Gt, .bool S.Bu, .bool S.Dn, .int .i64 S.Dl, .bool S.Fl] 30)) := (Below.refl _ _).alloc (Nat.le_refl _) _
  have P6 := (HP4.out.below hb6).below hA6
  have X6 := (HX4.out.below hb6).below hA6
  have Y6 := (HY4.out.below hb6).below hA6
  have Z6 := Cl.new (w := w6) rfl [.slice A6 n6 c6, .int .i64 S.Le, .int .i64 S.Nu, .int .i64 S.Bl, .int .i64 S.Gt, .bool S.Bu, .bool S.Dn, .int .i64 S.Dl, .bool S.Fl] 30
  have T6 := (HT4.out.below hb6).below hA6
  have F6 := (HF4.out.below hb6).below hA6
  have U6 := (HU4.out.below hb6).below hA6
  have T6' := hbt6.below hA6
  have F6' := hbf6.below hA6
  have I6 := (HB.out.below hg6).below hA6
  have G6 := hg6.alloc hs6 (.cells #[.slice A6 n6 c6, .int .i64 S.Le, .int .i64 S.Nu, .int .i64 S.Bl, .int .i64 S.Gt, .bool S.Bu, .bool S.Dn, .int .i64 S.Dl, .bool S.Fl] 30)
  go_upto_region 14 with fail
  obtain ⟨w8, hw8⟩ : ∃ wx, wx = w6.alloc (.cells #[.slice A6 n6 c6, .int .i64 S.Le, .int .i64 S.Nu, .int .i64 S.Bl, .int .i64 S.Gt, .bool S.Bu, .bool S.Dn, .int .i64 S.Dl, .bool S.Fl] 30) := ⟨_, rfl⟩
  rw [← hw8] at P6 X6 Y6 Z6 T6 F6 U6 T6' F6' I6 G6 ⊢
  clear hw8 p0 p1 p2 p3 p4 p5 p6 p7 p8 zp HP4 hb6 HT4 HF4 HG4 HX4 HY4 HU4 hA6 hbt6 hbf6 hg6 hs6 hs4 hs3 hs2
  have p0 := P6.c 0 rfl
  have p1 := P6.c 1 rfl
  have p2 := P6.c 2 rfl
  have p3 := P6.c 3 rfl
  have p4 := P6.c 4 rfl
  have p5 := P6.c 5 rfl
  have p6 := P6.c 6 rfl
  have p7 := P6.c 7 rfl
  have p8 := P6.c 8 rfl
  have zp := P6.1
  have x0 := X6.c 0 rfl
  have x1 := X6.c 1 rfl
  have x2 := X6.c 2 rfl
  have x3 := X6.c 3 rfl
  have x4 := X6.c 4 rfl
  have x5 := X6.c 5 rfl
  have x6 := X6.c 6 rfl
  have x7 := X6.c 7 rfl
  have x8 := X6.c 8 rfl
  have zx := X6.1
  have y0 := Y6.c 0 rfl
  have y1 := Y6.c 1 rfl
  have y2 := Y6.c 2 rfl
  have y3 := Y6.c 3 rfl
  have y4 := Y6.c 4 rfl
  have y5 := Y6.c 5 rfl
  have y6 := Y6.c 6 rfl
  have y7 := Y6.c 7 rfl
  have y8 := Y6.c 8 rfl
  have zy := Y6.1
  have z0 := Z6.c 0 rfl
  have z1 := Z6.c 1 rfl
  have z2 := Z6.c 2 rfl
  have z3 := Z6.c 3 rfl
  have z4 := Z6.c 4 rfl
  have z5 := Z6.c 5 rfl
  have z6 := Z6.c 6 rfl
  have z7 := Z6.c 7 rfl
  have z8 := Z6.c 8 rfl
  have zz := Z6.1
  have HT := Lib.hid T6
  have HF := Lib.hid F6
  have HU := Lib.hid U6
  have HT' := Lib.hid T6'
  have HF' := Lib.hid F6'
  have HI := Lib.hid I6
  have HG := Lib.hid G6
  clear P6 X6 Y6 Z6 T6 F6 U6 T6' F6' I6 G6
  refine region_K (fun W' => (∀ b o, b < w8.heap.size → W'.cell? ⟨b, o, none⟩ = w8.cell? ⟨b, o, none⟩) ∧ Below w8.heap.size w8 W') 20 (by kernel_rfl) (Kp.mk (Below.refl _ _).drew) (fun hHeld => ?_)
  refine K_takeD (i := 0) (v := ?_) rfl (by kernel_rfl) (by kernel_rfl) (by kernel_rfl) (by kernel_rfl) (by kernel_rfl) (fun _ _ _ h => h) (Or.inl ⟨by kernel_rfl, ?_⟩) hHeld ?_
  rotate_left 1
  · intro W8 hSw
    (try dsimp only at hSw)
    go_simp
    all_goals with_reducible rfl
  try simp only [Act.put, List.setIfInBounds_toArray, List.set_cons_zero, List.set_cons_succ]
  refine K_takeD (i := 1) (v := ?_) rfl (by kernel_rfl) (by kernel_rfl) (by kernel_rfl) (by kernel_rfl) (by kernel_rfl) (fun _ _ _ h => h) (Or.inl ⟨by kernel_rfl, ?_⟩) hHeld ?_
  rotate_left 1
  · intro W8 hSw
    (try dsimp only at hSw)
    go_simp
    all_goals with_reducible rfl
  try simp only [Act.put, List.setIfInBounds_toArray, List.set_cons_zero, List.set_cons_succ]
  refine K_step' (i := 2) (by kernel_rfl) rfl (fun K hK => ?_)
  go_simp
  refine (S1.out A2 A6 n6 c2 c6 _ HN2.out.symm (HT.out.below hHeld.2) (HT'.out.below hHeld.2)).mono ?_
  rintro x w9 ⟨rfl, hb9⟩
  refine hK.out _ _ (Kp.next hHeld hb9) (fun hHeld2 => ?_)
  clear hK K
  try simp only [Act.put, List.setIfInBounds_toArray, List.set_cons_zero, List.set_cons_succ]
  refine K_take' (i := 3) (v := ?_) rfl (by kernel_rfl) (by kernel_rfl) (by kernel_rfl) (by kernel_rfl) (fun _ _ _ h => h) (Or.inl ⟨by kernel_rfl, ?_⟩) hHeld2 ?_
  rotate_left 1
  · intro W8 hSw
    clear hSw
    go_simp
    all_goals with_reducible rfl
  try simp only [Act.put, List.setIfInBounds_toArray, List.set_cons_zero, List.set_cons_succ]
  refine K_take' (i := 4) (v := ?_) rfl (by kernel_rfl) (by kernel_rfl) (by kernel_rfl) (by kernel_rfl) (fun _ _ _ h => h) (Or.inl ⟨by kernel_rfl, ?_⟩) hHeld2 ?_
  rotate_left 1
  · intro W8 hSw
    clear hSw
    go_simp
    all_goals with_reducible rfl
  try simp only [Act.put, List.setIfInBounds_toArray, List.set_cons_zero, List.set_cons_succ]
  refine K_take' (i := 5) (v := ?_) rfl (by kernel_rfl) (by kernel_rfl) (by kernel_rfl) (by kernel_rfl) (fun _ _ _ h => h) (Or.inl ⟨by kernel_rfl, ?_⟩) hHeld2 ?_
  rotate_left 1
  · intro W8 hSw
    clear hSw
    go_simp
    all_goals with_reducible rfl
  try simp only [Act.put, List.setIfInBounds_toArray, List.set_cons_zero, List.set_cons_succ]
  refine K_step' (i := 6) (by kernel_rfl) rfl (fun K hK => ?_)
  go_simp
  refine (equal18 B2 B6 m6 d2 d6 fr _ HM2.out.symm (HF.out.below hHeld2.2) (HF'.out.below hHeld2.2)).mono ?_
  rintro x w10 ⟨rfl, rfl⟩
  refine hK.out _ _ (hHeld2) (fun _hh => ?_)
  clear hK K
  try simp only [Act.put, List.setIfInBounds_toArray, List.set_cons_zero, List.set_cons_succ]
  refine K_take' (i := 7) (v := ?_) rfl (by kernel_rfl) (by kernel_rfl) (by kernel_rfl) (by kernel_rfl) (fun _ _ _ h => h) (Or.inl ⟨by kernel_rfl, ?_⟩) hHeld2 ?_
  rotate_left 1
  · intro W8 hSw
    clear hSw
    go_simp
    all_goals with_reducible rfl
  try simp only [Act.put, List.setIfInBounds_toArray, List.set_cons_zero, List.set_cons_succ]
  refine K_take' (i := 8) (v := ?_) rfl (by kernel_rfl) (by kernel_rfl) (by kernel_rfl) (by kernel_rfl) (fun _ _ _ h => h) (Or.inl ⟨by kernel_rfl, ?_⟩) hHeld2 ?_
  rotate_left 1
  · intro W8 hSw
    clear hSw
    go_simp
    all_goals with_reducible rfl
  try simp only [Act.put, List.setIfInBounds_toArray, List.set_cons_zero, List.set_cons_succ]
  refine K_take' (i := 9) (v := ?_) rfl (by kernel_rfl) (by kernel_rfl) (by kernel_rfl) (by kernel_rfl) (fun _ _ _ h => h) (Or.inl ⟨by kernel_rfl, ?_⟩) hHeld2 ?_
  rotate_left 1
  · intro W8 hSw
    clear hSw
    go_simp
    all_goals with_reducible rfl
  try simp only [Act.put, List.setIfInBounds_toArray, List.set_cons_zero, List.set_cons_succ]
  refine K_take' (i := 10) (v := ?_) rfl (by kernel_rfl) (by kernel_rfl) (by kernel_rfl) (by kernel_rfl) (fun _ _ _ h => h) (Or.inl ⟨by kernel_rfl, ?_⟩) hHeld2 ?_
  rotate_left 1
  · intro W8 hSw
    clear hSw
    go_simp
    all_goals with_reducible rfl
  try simp only [Act.put, List.setIfInBounds_toArray, List.set_cons_zero, List.set_cons_succ]
  refine K_take' (i := 11) (v := ?_) rfl (by kernel_rfl) (by kernel_rfl) (by kernel_rfl) (by kernel_rfl) (fun _ _ _ h => h) (Or.inl ⟨by kernel_rfl, ?_⟩) hHeld2 ?_
  rotate_left 1
  · intro W8 hSw
    clear hSw
    go_simp
    all_goals with_reducible rfl
  try simp only [Act.put, List.setIfInBounds_toArray, List.set_cons_zero, List.set_cons_succ]
  refine K_take' (i := 12) (v := ?_) rfl (by kernel_rfl) (by kernel_rfl) (by kernel_rfl) (by kernel_rfl) (fun _ _ _ h => h) (Or.inl ⟨by kernel_rfl, ?_⟩) hHeld2 ?_
  rotate_left 1
  · intro W8 hSw
    clear hSw
    go_simp
    all_goals with_reducible rfl
  try simp only [Act.put, List.setIfInBounds_toArray, List.set_cons_zero, List.set_cons_succ]
  refine K_take' (i := 13) (v := ?_) rfl (by kernel_rfl) (by kernel_rfl) (by kernel_rfl) (by kernel_rfl) (fun _ _ _ h => h) (Or.inl ⟨by kernel_rfl, ?_⟩) hHeld2 ?_
  rotate_left 1
  · intro W8 hSw
    clear hSw
    go_simp
    all_goals with_reducible rfl
  try simp only [Act.put, List.setIfInBounds_toArray, List.set_cons_zero, List.set_cons_succ]
  refine K_takeD (i := 14) (v := ?_) rfl (by kernel_rfl) (by kernel_rfl) (by kernel_rfl) (by kernel_rfl) (by kernel_rfl) (fun _ _ _ h => h) (Or.inl ⟨by kernel_rfl, ?_⟩) hHeld2 ?_
  rotate_left 1
  · intro W8 hSw
    (try dsimp only at hSw)
    go_simp
    all_goals with_reducible rfl
  try simp only [Act.put, List.setIfInBounds_toArray, List.set_cons_zero, List.set_cons_succ]
  refine K_takeD (i := 15) (v := ?_) rfl (by kernel_rfl) (by kernel_rfl) (by kernel_rfl) (by kernel_rfl) (by kernel_rfl) (fun _ _ _ h => h) (Or.inl ⟨by kernel_rfl, ?_⟩) hHeld2 ?_
  rotate_left 1
  · intro W8 hSw
    (try dsimp only at hSw)
    go_simp
    all_goals with_reducible rfl
  try simp only [Act.put, List.setIfInBounds_toArray, List.set_cons_zero, List.set_cons_succ]
  refine K_take' (i := 16) (v := ?_) rfl (by kernel_rfl) (by kernel_rfl) (by kernel_rfl) (by kernel_rfl) (fun _ _ _ h => h) (Or.inl ⟨by kernel_rfl, ?_⟩) hHeld2 ?_
  rotate_left 1
  · intro W8 hSw
    clear hSw
    go_simp
    all_goals with_reducible rfl
  try simp only [Act.put, List.setIfInBounds_toArray, List.set_cons_zero, List.set_cons_succ]
  refine K_step' (i := 17) (by kernel_rfl) rfl (fun K hK => ?_)
  go_simp
  refine (Q2.out _ (HI.out.below hHeld2.2)).mono ?_
  rintro x w10 ⟨A7, n7, c7, rfl, hn7, hc7, hbt7, hb10⟩
  have HN7 := Lib.hid hn7
  obtain rfl : n7 = n3 := by rw [hn7, HN3.out]
  clear hn7
  refine hK.out _ _ (Kp.next hHeld2 hb10) (fun hHeld3 => ?_)
  clear hK K
  try simp only [Act.put, List.setIfInBounds_toArray, List.set_cons_zero, List.set_cons_succ]
  refine K_step' (i := 18) (by kernel_rfl) rfl (fun K hK => ?_)
  go_simp
  refine (S2.out A3 A7 n7 c3 c7 _ HN3.out.symm (HU.out.below hHeld3.2) hbt7).mono ?_
  rintro x w11 ⟨rfl, hb11⟩
  refine hK.out _ _ (Kp.next hHeld3 hb11) (fun hHeld4 => ?_)
  clear hK K
  try simp only [Act.put, List.setIfInBounds_toArray, List.set_cons_zero, List.set_cons_succ]
  refine K_take' (i := 19) (v := ?_) rfl (by kernel_rfl) (by kernel_rfl) (by kernel_rfl) (by kernel_rfl) (fun _ _ _ h => h) (Or.inl ⟨by kernel_rfl, ?_⟩) hHeld4 ?_
  rotate_left 1
  · intro W8 hSw
    clear hSw
    go_simp
    all_goals with_reducible rfl
  try simp only [Act.put, List.setIfInBounds_toArray, List.set_cons_zero, List.set_cons_succ]
  have G11 := chain HG.out hHeld4.2
  have HG11 := Lib.hid G11
  clear hHeld hHeld2 hHeld3 hHeld4 G11 hbt7 hb9 hb10 hb11 p0 p1 p2 p3 p4 p5 p6 p7 p8 x0 x1 x2 x3 x4 x5 x6 x7 x8 y0 y1 y2 y3 y4 y5 y6 y7 y8 z0 z1 z2 z3 z4 z5 z6 z7 z8 zp zx zy zz
  refine K_step (by kernel_rfl) (by kernel_rfl) rfl (fun K hK => ?_)
  go_simp
  refine hK.out _ _ ?_
  clear hK K
  try simp only [Act.put, List.setIfInBounds_toArray, List.set_cons_zero, List.set_cons_succ]
  refine wpAny_done (by kernel_rfl) ?_ _
  go_wp2
  go_ret
  exact ⟨rfl, HG11.out⟩
/-- the law of every input -/
theorem receives6 (A : Option Addr) (n c : Nat) (Le Nu Bl Gt : Int) (Bu Dn : Bool) (Dl : Int) (Fl : Bool) (l : List Int) (F : Option Addr) (m cF : Nat) (f : List Int) (t : Int) (w : World) (hl : l.length = n) (hb : Bt w A l) (hc : n ≤ c) (hfl : f.length = m) (hfb : Bt w F f) (hfB : Byt f) (hfc : m ≤ cF) : Calls Try.prog 6 #[.agg #[.slice A n c, .int .i64 Le, .int .i64 Nu, .int .i64 Bl, .int .i64 Gt, .bool Bu, .bool Dn, .int .i64 Dl, .bool Fl], .slice F m cF, .int .i64 t] w fun x w' => x = .returned (.bool true) ∧ Below w.heap.size w w' := by
  by_cases h : 1100 < n
  · exact receives_big A n c Le Nu Bl Gt Bu Dn Dl Fl l F m cF f t w (.inl h)
  by_cases hm : 20 < m
  · exact receives_big A n c Le Nu Bl Gt Bu Dn Dl Fl l F m cF f t w (.inr ⟨h, hm⟩)
  cases hv : vR n Le Nu Bl Gt Bu Dn Dl Fl
  · exact receives_arg A n c Le Nu Bl Gt Bu Dn Dl Fl l F m cF f t w hl hb hc hfl hfb hfB hfc h hm hv
  cases ht : timeB t
  · exact receives_range A n c Le Nu Bl Gt Bu Dn Dl Fl l F m cF f t w hl hb hc hfl hfb hfB hfc h hm hv ht
  exact receives_ok A n c Le Nu Bl Gt Bu Dn Dl Fl l F m cF f t w hl hb hc hfl hfb hfB hfc h hm hv ht
end Go.Proofs.Ytfjeediecmhedaa
