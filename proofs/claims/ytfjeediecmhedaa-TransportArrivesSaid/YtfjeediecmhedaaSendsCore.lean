/-
  The core of the law TransportSends. No condition but the slice's shape.
-/
import Derived.Test.YtfjeediecmhedaaRSend
set_option linter.unusedVariables false
set_option linter.unusedSimpArgs false
namespace Go.Proofs.Ytfjeediecmhedaa
open Go.RowKit
theorem long15 (A : Option Addr) (n c : Nat) (w : World) : Calls Try.prog 15 #[.slice A n c] w fun r w' => r = .returned (.bool (decide (1100 < n))) ∧ w = w' := by
  go_enter Try.func15, Try.ntmps15
  go_wp2
  all_goals
    first
    | (exfalso; omega)
    | (go_ret; refine ⟨ret_bool ?_, rfl⟩; rw [Bool.eq_iff_iff]; simp <;> omega)
theorem send_key (A : Option Addr) (n c : Nat) (l : List Int) (t : Int) (hl : l.length = n) (hc : n ≤ c) (hm : msgB n = true) (ht : timeB t = true) :
    ∃ (At Nu : Int) (Wt : Bool) (Dl : Int) (fr : List Int), (∀ w, Bt w A l → Calls Try.prog 19 #[.slice A n c, .int .i64 t] w (SP n At Nu 0 0 Wt 0 Dl false l fr 0 w)) ∧ (∀ w, Bt w A l → Calls Try.prog 22 #[.slice A n c, .int .i64 t] w (SQ n At Nu 0 0 Wt 0 Dl false l fr w)) := by
  obtain ⟨m0, m1⟩ : 1 ≤ n ∧ n ≤ 1023 := by simpa [msgB] using hm
  obtain ⟨t0, t1⟩ := inB_t (show inB t 0 1099511627776 = true from ht)
  by_cases h7 : n ≤ 7
  · exact ⟨_, _, _, _, _, fun w hb => send19_one A n c l t w hl hb m0 h7 ht, fun w hb => rsend22_one A n c l t w hl hb m0 h7⟩
  · exact ⟨_, _, _, _, _, fun w hb => send19_first A n c l t w hl hb (by omega) m1 hc ht, fun w hb => rsend22_first A n c l t w hl hb (by omega) m1 hc t0 t1⟩
set_option maxRecDepth 100000 in
set_option maxHeartbeats 2000000 in
theorem sends5 (A : Option Addr) (n c : Nat) (l : List Int) (t : Int) (w : World) (hl : l.length = n) (hb : Bt w A l) (hc : n ≤ c) :
    Calls Try.prog 5 #[.slice A n c, .int .i64 t] w fun x w' => x = .returned (.bool true) ∧ Below w.heap.size w w' := by
  have T := fun w => long15 A n c w
  have M := fun w => message11 A n c w
  have U := fun w => time21 t w
  have HB := Lib.hid hb
  have HL := Lib.hid hl
  by_cases h : 1100 < n
  · rw [decide_eq_true h] at T
    replace T := Lib.hid T
    clear hb hl
    go_enter Try.func5, Try.ntmps5
    go_wp2_with fail
    refine (awake10 _).mono ?_
    rintro x w1 ⟨rfl, hb1⟩
    go_wp2_with fail
    refine (T.out _).mono ?_
    rintro x w2 ⟨rfl, rfl⟩
    go_wp2_with fail
    refine (awake10 _).mono ?_
    rintro x w2 ⟨rfl, hb2⟩
    have hg2 := chain hb1 hb2
    go_wp2
    go_ret
    exact ⟨rfl, hg2⟩
  · rw [decide_eq_false h] at T
    replace T := Lib.hid T
    have S := Lib.hid (fun w h => send19 A n c l t w hl h hc)
    by_cases hm : msgB n = false
    · rw [hm] at M
      replace M := Lib.hid M
      have HM := Lib.hid hm
      clear hb hl hm
      go_enter Try.func5, Try.ntmps5
      go_wp2_with fail
      refine (awake10 _).mono ?_
      rintro x w1 ⟨rfl, hb1⟩
      go_wp2_with fail
      refine (T.out _).mono ?_
      rintro x w2 ⟨rfl, rfl⟩
      go_wp2_with fail
      refine (S.out _ (HB.out.below hb1)).mono ?_
      rintro x w2 (⟨_, h⟩ | ⟨h, _⟩ | ⟨h, _⟩ | ⟨h, _⟩)
      rotate_left 1
      · rw [HM.out] at h; cases h
      · rw [HM.out] at h; cases h
      · rw [HM.out] at h; cases h
      obtain ⟨A1, c1, B1, m1, d1, rfl, hc1, _, _, hm1, _, _, _, hb2⟩ := h
      obtain rfl : m1 = 0 := hm1
      have hg2 := chain hb1 hb2
      have X2 := Cl.new (w := w2) rfl [.slice A1 0 c1, .int .i64 0, .int .i64 0, .int .i64 0, .int .i64 0, .bool false, .int .i64 0, .int .i64 0, .bool false] 40
      clear hb1 hb2
      go_wp2_with fail
      refine (M.out _).mono ?_
      rintro x w3 ⟨rfl, rfl⟩
      go_wp2_with fail
      refine (same20 A1 none 0 c1 0 0 0 0 0 false 0 0 false [] _ rfl (Bt.nil _ _) (Bt.nil _ _)).mono ?_
      rintro x w3 ⟨rfl, hb3⟩
      have hg3 := chain (hg2.alloc hg2.size (.cells #[.slice A1 0 c1, .int .i64 0, .int .i64 0, .int .i64 0, .int .i64 0, .bool false, .int .i64 0, .int .i64 0, .bool false] 40)) hb3
      go_wp2
      go_ret
      exact ⟨rfl, hg3⟩
    · have hm' : msgB n = true := by simpa using hm
      by_cases ht : timeB t = false
      · rw [hm'] at M
        rw [ht] at U
        replace M := Lib.hid M
        replace U := Lib.hid U
        have HM := Lib.hid hm'
        have HT := Lib.hid ht
        clear hb hl hm hm' ht
        go_enter Try.func5, Try.ntmps5
        go_wp2_with fail
        refine (awake10 _).mono ?_
        rintro x w1 ⟨rfl, hb1⟩
        go_wp2_with fail
        refine (T.out _).mono ?_
        rintro x w2 ⟨rfl, rfl⟩
        go_wp2_with fail
        refine (S.out _ (HB.out.below hb1)).mono ?_
        rintro x w2 (⟨h, _⟩ | ⟨_, _, h⟩ | ⟨_, h, _⟩ | ⟨_, h, _⟩)
        · rw [HM.out] at h; cases h
        rotate_left 1
        · rw [HT.out] at h; cases h
        · rw [HT.out] at h; cases h
        obtain ⟨A1, c1, B1, m1, d1, rfl, hc1, _, _, hm1, _, _, _, hb2⟩ := h
        obtain rfl : m1 = 0 := hm1
        have hg2 := chain hb1 hb2
        clear hb1 hb2
        go_wp2_with fail
        refine (M.out _).mono ?_
        rintro x w3 ⟨rfl, rfl⟩
        go_wp2_with fail
        refine (U.out _).mono ?_
        rintro x w3 ⟨rfl, rfl⟩
        go_wp2_with fail
        refine (same20 A1 none 0 c1 0 0 0 0 0 false 0 0 false [] _ rfl (Bt.nil _ _) (Bt.nil _ _)).mono ?_
        rintro x w3 ⟨rfl, hb3⟩
        have hg3 := chain (hg2.alloc hg2.size (.cells #[.slice A1 0 c1, .int .i64 0, .int .i64 0, .int .i64 0, .int .i64 0, .bool false, .int .i64 0, .int .i64 0, .bool false] 40)) hb3
        go_wp2
        go_ret
        exact ⟨rfl, hg3⟩
      · have ht' : timeB t = true := by simpa using ht
        obtain ⟨At, Nu, Wt, Dl, fr, K1, K2⟩ := send_key A n c l t hl hc hm' ht'
        replace K1 := Lib.hid K1
        replace K2 := Lib.hid K2
        rw [hm'] at M
        rw [ht'] at U
        replace M := Lib.hid M
        replace U := Lib.hid U
        clear hb hl hm hm' ht ht' S
        go_enter Try.func5, Try.ntmps5
        go_wp2_with fail
        refine (awake10 _).mono ?_
        rintro x w1 ⟨rfl, hb1⟩
        go_wp2_with fail
        refine (T.out _).mono ?_
        rintro x w2 ⟨rfl, rfl⟩
        go_wp2_with fail
        refine (K1.out _ (HB.out.below hb1)).mono ?_
        rintro x w2 ⟨A1, c1, B1, m1, d1, rfl, hc1, hbt1, _, hm1, hmd1, hbf1, _, hb2⟩
        have hg2 := chain hb1 hb2
        have X2 := Lib.hid (Cl.new (w := w2) rfl [.slice A1 n c1, .int .i64 At, .int .i64 Nu, .int .i64 0, .int .i64 0, .bool Wt, .int .i64 0, .int .i64 Dl, .bool false] 40)
        have hAl : Below w2.heap.size w2 (w2.alloc (.cells #[.slice A1 n c1, .int .i64 At, .int .i64 Nu, .int .i64 0, .int .i64 0, .bool Wt, .int .i64 0, .int .i64 Dl, .bool false] 40)) := (Below.refl _ _).alloc (Nat.le_refl _) _
        have D2 := Lib.hid (hbt1.below hAl)
        have F2 := Lib.hid (hbf1.below hAl)
        have HM1 := Lib.hid hm1
        have G2 := Lib.hid (hg2.alloc hg2.size (.cells #[.slice A1 n c1, .int .i64 At, .int .i64 Nu, .int .i64 0, .int .i64 0, .bool Wt, .int .i64 0, .int .i64 Dl, .bool false] 40))
        clear hb1 hb2 hbt1 hbf1 hAl hm1 hg2
        go_wp2_with fail
        refine (M.out _).mono ?_
        rintro x w3 ⟨rfl, rfl⟩
        go_wp2_with fail
        refine (U.out _).mono ?_
        rintro x w3 ⟨rfl, rfl⟩
        go_wp2_with fail
        refine (K2.out _ (HB.out.below G2.out)).mono ?_
        rintro x w3 ⟨A3, c3, B3, m3, d3, rfl, hc3, hbt3, _, hm3, hmd3, hbf3, _, hb3⟩
        have hg3 := chain G2.out hb3
        have X3 := X2.out.below hb3
        have D3 := Lib.hid (D2.out.below hb3)
        have F3 := Lib.hid (F2.out.below hb3)
        have E3 := Lib.hid hbt3
        have H3 := Lib.hid hbf3
        obtain rfl : m3 = m1 := by rw [hm3, HM1.out]
        obtain ⟨x0, x1, x2, x3, x4, x5, x6, x7, x8⟩ := X3.cells9
        have zx := X3.1
        have HG3 := Lib.hid hg3
        have hgs := hg3.size
        clear X2 D2 F2 G2 hb3 hbt3 hbf3 X3 hm3 K1 K2 hg3
        go_wp2_with fail
        refine (same20 A1 A3 n c1 c3 At Nu 0 0 Wt 0 Dl false l _ HL.out (D3.out.below (by go_grown)) (E3.out.below (by go_grown))).mono ?_
        rintro x w4 ⟨rfl, hb4⟩
        have hg4 := chain (HG3.out.alloc hgs (.cells #[.slice A3 n c3, .int .i64 At, .int .i64 Nu, .int .i64 0, .int .i64 0, .bool Wt, .int .i64 0, .int .i64 Dl, .bool false] 40)) hb4
        have F4 := Lib.hid ((F3.out.below ((Below.refl _ _).alloc (Nat.le_refl _) (.cells #[.slice A3 n c3, .int .i64 At, .int .i64 Nu, .int .i64 0, .int .i64 0, .bool Wt, .int .i64 0, .int .i64 Dl, .bool false] 40))).below hb4)
        have H4 := Lib.hid ((H3.out.below ((Below.refl _ _).alloc (Nat.le_refl _) (.cells #[.slice A3 n c3, .int .i64 At, .int .i64 Nu, .int .i64 0, .int .i64 0, .bool Wt, .int .i64 0, .int .i64 Dl, .bool false] 40))).below hb4)
        clear x0 x1 x2 x3 x4 x5 x6 x7 x8 zx hb4 F3 H3 D3 E3
        go_wp2_with fail
        refine (equal18 B1 B3 m3 d1 d3 fr _ HM1.out.symm F4.out H4.out).mono ?_
        rintro x w5 ⟨rfl, rfl⟩
        go_wp2
        go_ret
        exact ⟨rfl, hg4⟩
end Go.Proofs.Ytfjeediecmhedaa
