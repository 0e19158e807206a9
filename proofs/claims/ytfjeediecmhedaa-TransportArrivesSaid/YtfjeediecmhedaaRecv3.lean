/-
  Receive of a frame that changes nothing, or that makes the receiver fail. No condition but the slices' shape.
-/
import Derived.Test.YtfjeediecmhedaaRecv2
set_option linter.unusedVariables false
set_option linter.unusedSimpArgs false
namespace Go.Proofs.Ytfjeediecmhedaa
open Go.RowKit
theorem vR_busy {n : Nat} {Le Nu Bl Gt : Int} {Dn : Bool} {Dl : Int} {Fl : Bool} (h : vR n Le Nu Bl Gt true Dn Dl Fl = true) : Dn = false ∧ Fl = false ∧ 7 < Le ∧ Le ≤ 1023 ∧ 6 ≤ n ∧ n < Le ∧ 0 ≤ Nu ∧ Nu ≤ 15 ∧ 0 ≤ Gt ∧ Gt ≤ 255 ∧ (Bl = 0 ∨ Gt < Bl) ∧ 0 ≤ Dl ∧ Dl ≤ 1099512627776 := by
  unfold vR at h
  simp only [Bool.and_eq_true, if_true, parB, cntB, decide_eq_true_eq, Bool.not_eq_true', Bool.or_eq_true] at h
  obtain ⟨⟨h1, hd⟩, ⟨⟨⟨h2, h3⟩, h4⟩, h5⟩, ⟨h6, h7⟩, h8⟩ := h
  obtain ⟨a0, a1⟩ := inB_t h5
  obtain ⟨b0, b1⟩ := inB_t h7
  obtain ⟨d0, d1⟩ := inB_t hd
  exact ⟨h2, h3, by omega, by omega, by omega, by omega, a0, a1, b0, b1, h8, d0, d1⟩
set_option maxRecDepth 100000 in
theorem failed39 (A : Option Addr) (n c : Nat) (Le Nu Bl Gt : Int) (Bu Dn : Bool) (Dl : Int) (Fl : Bool) (w : World) :
    Calls Try.prog 39 #[.agg #[.slice A n c, .int .i64 Le, .int .i64 Nu, .int .i64 Bl, .int .i64 Gt, .bool Bu, .bool Dn, .int .i64 Dl, .bool Fl]] w fun r w' => r = .returned (.agg #[.slice none 0 0, .int .i64 0, .int .i64 0, .int .i64 Bl, .int .i64 0, .bool false, .bool false, .int .i64 0, .bool true]) ∧ Below w.heap.size w w' := by
  go_enter Try.func39, Try.ntmps39
  go_wp2
  exact bodyPost_ret (v := .agg #[.slice none 0 0, .int .i64 0, .int .i64 0, .int .i64 Bl, .int .i64 0, .bool false, .bool false, .int .i64 0, .bool true]) (by simp [results, Try.results39, go_sem] <;> first | rfl | ((repeat' apply And.intro) <;> rfl)) rfl ⟨rfl, by go_grown⟩
set_option maxRecDepth 100000 in
set_option maxHeartbeats 4000000 in
theorem recv13_flow (A : Option Addr) (n c : Nat) (Le Nu Bl Gt : Int) (Bu Dn : Bool) (Dl : Int) (Fl : Bool) (l : List Int) (F : Option Addr) (cF : Nat) (f : List Int) (t : Int) (w : World) (hl : l.length = n) (hb : Bt w A l) (hc : n ≤ c) (hfb : Bt w F f) (hfB : Byt f) (hfc : 8 ≤ cF) (hv : vR n Le Nu Bl Gt Bu Dn Dl Fl = true) (ht : timeB t = true) (hk : kindM f = 3) :
    Calls Try.prog 13 #[.agg #[.slice A n c, .int .i64 Le, .int .i64 Nu, .int .i64 Bl, .int .i64 Gt, .bool Bu, .bool Dn, .int .i64 Dl, .bool Fl], .slice F 8 cF, .int .i64 t] w (RP ⟨l, Le, Nu, Bl, Gt, Bu, Dn, Dl, Fl⟩ [] 0 w) := by
  have hfl := kind_len (f := f) (by omega)
  obtain ⟨g00, g01⟩ := hfB.at 0
  obtain ⟨g10, g11⟩ := hfB.at 1
  obtain ⟨f0, hf0⟩ : ∃ x, x = f.getD 0 0 := ⟨_, rfl⟩
  obtain ⟨f1, hf1⟩ : ∃ x, x = f.getD 1 0 := ⟨_, rfl⟩
  rw [← hf0] at g00 g01
  rw [← hf1] at g10 g11
  have HF0 := Lib.hid (And.intro hf0 hf1)
  obtain ⟨ll, hll⟩ : ∃ ll : Nat, f0 % 16 = ll := ⟨(f0 % 16).toNat, by omega⟩
  have hll16 : ll < 16 := by omega
  have hcF1 : ¬ cF = 1 := by omega
  have hcF2 : ¬ cF = 2 := by omega
  try rw [← hf0]
  try rw [← hf1]
  try rw [hll]
  try rw [Int.toNat_natCast]
  clear hf0 hf1
  obtain ⟨hn, b0, b1⟩ := vR_len hv
  obtain ⟨t0, t1⟩ := inB_t (show inB t 0 1099511627776 = true from ht)
  have K := fun w h => kind35_at F cF f 3 w h hfB hfc hk (by decide)
  replace K := Lib.hid K
  have T := fun w => instant37 t w
  rw [ht] at T
  replace T := Lib.hid T
  have V := fun w => validR36 A n c Le Nu Bl Gt Bu Dn Dl Fl w
  rw [hv] at V
  replace V := Lib.hid V
  have HFB := Lib.hid hfb
  have HL := Lib.hid hl
  have HB := Lib.hid hb
  have HV := Lib.hid hv
  have HFL := Lib.hid hfl
  have HY := Lib.hid hfB
  have HKK := Lib.hid hk
  clear hl hb hv ht hfl hfb hk
  go_enter Try.func13, Try.ntmps13
  go_wp2_with fail
  refine (K.out _ (HFB.out.below (by go_grown))).mono ?_
  rintro r w1 ⟨rfl, hb1⟩
  have hg1 := chain (w := w) (by go_grown) hb1
  have P1 := ((Cl.new (w := w) rfl [.slice A n c, .int .i64 Le, .int .i64 Nu, .int .i64 Bl, .int .i64 Gt, .bool Bu, .bool Dn, .int .i64 Dl, .bool Fl] 30).below ((Below.refl _ _).alloc (Nat.le_refl _) _)).below hb1
  have Q1 := (Cl.new (P := w.heap.size + 1) (by simp) [.slice none 0 0, .int .i64 0, .int .i64 0, .int .i64 0, .int .i64 0, .bool false, .bool false, .int .i64 0, .bool false] 30).below hb1
  have HP := Lib.hid P1
  have HQ := Lib.hid Q1
  obtain ⟨p0, p1, p2, p3, p4, p5, p6, p7, p8⟩ := P1.cells9
  have zp := P1.1
  clear P1 Q1 hb1
  go_wp2_with fail
  refine (V.out _).mono ?_
  rintro r w2 ⟨rfl, hb2⟩
  have hg2 := chain hg1 hb2
  have P2 := HP.out.below hb2
  have Q2 := HQ.out.below hb2
  clear p0 p1 p2 p3 p4 p5 p6 p7 p8 zp HP HQ hb2 hg1
  have HP := Lib.hid P2
  have HQ := Lib.hid Q2
  obtain ⟨p0, p1, p2, p3, p4, p5, p6, p7, p8⟩ := P2.cells9
  have e0 := P2.f 0 rfl
  have zp := P2.1
  clear P2 Q2
  go_wp2_with (go_at_call 37; refine (T.out _).mono ?_; rintro r w3 ⟨rfl, rfl⟩)
  refine (clone38 A n c l _ HL.out (HB.out.below hg2) (by omega)).mono ?_
  rintro r w4 ⟨v, rfl, hown, hb4⟩
  obtain ⟨A1, c1, rfl, hc1, hm1, hbt, hfr, hlt⟩ := hown.bt
  rw [HL.out] at hc1 ⊢
  have hg4 := chain hg2 hb4
  have P4 := HP.out.below hb4
  have Q4 := HQ.out.below hb4
  have s4 := hb4.size
  have s2 := hg2.size
  have zq2 := HQ.out.1
  clear p0 p1 p2 p3 p4 p5 p6 p7 p8 e0 zp
  obtain ⟨p0, p1, p2, p3, p4, p5, p6, p7, p8⟩ := P4.cells9
  have e0 := P4.f 0 rfl
  have zp := P4.1
  go_upto_region 9 with fail
  obtain ⟨w5, hw5⟩ : ∃ w5, w5 = w4.setCell ⟨w.heap.size, 0, none⟩ (.slice A1 n c1) := ⟨_, rfl⟩
  have P5 : Cl w.heap.size w5 [.slice A1 n c1, .int .i64 Le, .int .i64 Nu, .int .i64 Bl, .int .i64 Gt, .bool Bu, .bool Dn, .int .i64 Dl, .bool Fl] := by rw [hw5]; exact P4.set 0 _
  have Q5 : Cl (w.heap.size + 1) w5 [.slice none 0 0, .int .i64 0, .int .i64 0, .int .i64 0, .int .i64 0, .bool false, .bool false, .int .i64 0, .bool false] := by rw [hw5]; exact Q4.far (by omega) _ _
  have B5 : Bt w5 A1 l := by
    rw [hw5]
    exact hbt.set _ (fun b o e => by have := hfr b o e; omega) _ _
  have F5 : Bt w5 F f := by
    rw [hw5]
    exact ((HFB.out.below hg4)).set _ (fun b o e => by
      obtain ⟨b', o', e', hbl⟩ := HFB.out.addr (by rw [HFL.out]; omega)
      rw [e] at e'; injection e' with e'; injection e' with e1 e2
      omega) _ _
  have O5 : w5.ownsRow w2.heap.size 5 1 (.slice A1 n c1) n (l.map (Value.int .u8)) := by
    rw [hw5]
    have := hown
    unfold Own at this
    rw [HL.out] at this
    exact ownsRow_setCell_below this (by show w.heap.size < w2.heap.size; omega) _
  have G5 : Below w.heap.size w w5 := by rw [hw5]; exact hg4.setCell (Nat.le_refl _) _
  have X5 : Fr (w.heap.size + 2) A1 := fun b o e => by have := hfr b o e; omega
  rw [← hw5]
  clear hw5 P4 Q4 hbt hfr hlt hown hb4 hg4 hg2 p0 p1 p2 p3 p4 p5 p6 p7 p8 e0 zp HP HQ K V T HB HFB s4 s2
  have HB5 := Lib.hid B5
  have HO5 := Lib.hid O5
  have HG5 := Lib.hid G5
  have HX5 := Lib.hid X5
  have HQ5 := Lib.hid Q5
  have HP5 := Lib.hid P5
  obtain ⟨p0, p1, p2, p3, p4, p5, p6, p7, p8⟩ := P5.cells9
  have zp := P5.1
  have zq := Q5.1
  obtain ⟨bF, oF, rfl, hbF⟩ := F5.addr (by rw [HFL.out]; omega)
  have c0 : w5.cell? ⟨bF, oF, none⟩ = some (.int .u8 (f.getD 0 0)) := (F5.at 0 (by rw [HFL.out]; omega)).1
  have c1' := (F5.at 1 (by rw [HFL.out]; omega)).1
  rw [← HF0.out.1] at c0
  rw [← HF0.out.2] at c1'
  have HF5 := Lib.hid F5
  clear P5 Q5 B5 O5 G5 X5 F5
  have Q6 := HQ5.out
  obtain ⟨q0, q1, q2, q3, q4, q5, q6, q7, q8⟩ := Q6.cells9
  obtain ⟨f0', f1', f2', f3', f4', f5', f6', f7', f8'⟩ := Q6.free9
  have zq6 := Q6.1
  clear Q6 c1'
  go_wp2_with fail
  refine bodyPost_ret (v := .tuple #[.agg #[.slice A1 n c1, .int .i64 Le, .int .i64 Nu, .int .i64 Bl, .int .i64 Gt, .bool Bu, .bool Dn, .int .i64 Dl, .bool Fl], .slice none 0 0, .int .i64 0]) (by simp [results, Try.results13, go_sem, q0, q1, q2, q3, q4, q5, q6, q7, q8, zq6] <;> first | rfl | ((repeat' apply And.intro) <;> rfl)) rfl ⟨A1, n, c1, none, 0, 0, rfl, HL.out.symm, hc1, ?_, ?_, rfl, by omega, Bt.nil _ _, Fr.none _, below_set9 HG5.out (by omega) _ _ _ _ _ _ _ _ _⟩
  · exact HB5.out.set9 (fun b o e => by have := HX5.out b o e; omega) _ _ _ _ _ _ _ _ _
  · intro b o e
    have := HX5.out b o e
    omega
set_option maxRecDepth 100000 in
set_option maxHeartbeats 4000000 in
theorem recv13_idle (A : Option Addr) (n c : Nat) (Le Nu Bl Gt : Int) (Dn : Bool) (Dl : Int) (Fl : Bool) (l : List Int) (F : Option Addr) (cF : Nat) (f : List Int) (t : Int) (w : World) (hl : l.length = n) (hb : Bt w A l) (hc : n ≤ c) (hfb : Bt w F f) (hfB : Byt f) (hfc : 8 ≤ cF) (hv : vR n Le Nu Bl Gt false Dn Dl Fl = true) (ht : timeB t = true) (hk : kindM f = 2) :
    Calls Try.prog 13 #[.agg #[.slice A n c, .int .i64 Le, .int .i64 Nu, .int .i64 Bl, .int .i64 Gt, .bool false, .bool Dn, .int .i64 Dl, .bool Fl], .slice F 8 cF, .int .i64 t] w (RP ⟨l, Le, Nu, Bl, Gt, false, Dn, Dl, Fl⟩ [] 0 w) := by
  have hfl := kind_len (f := f) (by omega)
  obtain ⟨g00, g01⟩ := hfB.at 0
  obtain ⟨g10, g11⟩ := hfB.at 1
  obtain ⟨f0, hf0⟩ : ∃ x, x = f.getD 0 0 := ⟨_, rfl⟩
  obtain ⟨f1, hf1⟩ : ∃ x, x = f.getD 1 0 := ⟨_, rfl⟩
  rw [← hf0] at g00 g01
  rw [← hf1] at g10 g11
  have HF0 := Lib.hid (And.intro hf0 hf1)
  obtain ⟨ll, hll⟩ : ∃ ll : Nat, f0 % 16 = ll := ⟨(f0 % 16).toNat, by omega⟩
  have hll16 : ll < 16 := by omega
  have hcF1 : ¬ cF = 1 := by omega
  have hcF2 : ¬ cF = 2 := by omega
  try rw [← hf0]
  try rw [← hf1]
  try rw [hll]
  try rw [Int.toNat_natCast]
  clear hf0 hf1
  obtain ⟨hn, b0, b1⟩ := vR_len hv
  obtain ⟨t0, t1⟩ := inB_t (show inB t 0 1099511627776 = true from ht)
  have K := fun w h => kind35_at F cF f 2 w h hfB hfc hk (by decide)
  replace K := Lib.hid K
  have T := fun w => instant37 t w
  rw [ht] at T
  replace T := Lib.hid T
  have V := fun w => validR36 A n c Le Nu Bl Gt false Dn Dl Fl w
  rw [hv] at V
  replace V := Lib.hid V
  have HFB := Lib.hid hfb
  have HL := Lib.hid hl
  have HB := Lib.hid hb
  have HV := Lib.hid hv
  have HFL := Lib.hid hfl
  have HY := Lib.hid hfB
  have HKK := Lib.hid hk
  clear hl hb hv ht hfl hfb hk
  go_enter Try.func13, Try.ntmps13
  go_wp2_with fail
  refine (K.out _ (HFB.out.below (by go_grown))).mono ?_
  rintro r w1 ⟨rfl, hb1⟩
  have hg1 := chain (w := w) (by go_grown) hb1
  have P1 := ((Cl.new (w := w) rfl [.slice A n c, .int .i64 Le, .int .i64 Nu, .int .i64 Bl, .int .i64 Gt, .bool false, .bool Dn, .int .i64 Dl, .bool Fl] 30).below ((Below.refl _ _).alloc (Nat.le_refl _) _)).below hb1
  have Q1 := (Cl.new (P := w.heap.size + 1) (by simp) [.slice none 0 0, .int .i64 0, .int .i64 0, .int .i64 0, .int .i64 0, .bool false, .bool false, .int .i64 0, .bool false] 30).below hb1
  have HP := Lib.hid P1
  have HQ := Lib.hid Q1
  obtain ⟨p0, p1, p2, p3, p4, p5, p6, p7, p8⟩ := P1.cells9
  have zp := P1.1
  clear P1 Q1 hb1
  go_wp2_with fail
  refine (V.out _).mono ?_
  rintro r w2 ⟨rfl, hb2⟩
  have hg2 := chain hg1 hb2
  have P2 := HP.out.below hb2
  have Q2 := HQ.out.below hb2
  clear p0 p1 p2 p3 p4 p5 p6 p7 p8 zp HP HQ hb2 hg1
  have HP := Lib.hid P2
  have HQ := Lib.hid Q2
  obtain ⟨p0, p1, p2, p3, p4, p5, p6, p7, p8⟩ := P2.cells9
  have e0 := P2.f 0 rfl
  have zp := P2.1
  clear P2 Q2
  go_wp2_with (go_at_call 37; refine (T.out _).mono ?_; rintro r w3 ⟨rfl, rfl⟩)
  refine (clone38 A n c l _ HL.out (HB.out.below hg2) (by omega)).mono ?_
  rintro r w4 ⟨v, rfl, hown, hb4⟩
  obtain ⟨A1, c1, rfl, hc1, hm1, hbt, hfr, hlt⟩ := hown.bt
  rw [HL.out] at hc1 ⊢
  have hg4 := chain hg2 hb4
  have P4 := HP.out.below hb4
  have Q4 := HQ.out.below hb4
  have s4 := hb4.size
  have s2 := hg2.size
  have zq2 := HQ.out.1
  clear p0 p1 p2 p3 p4 p5 p6 p7 p8 e0 zp
  obtain ⟨p0, p1, p2, p3, p4, p5, p6, p7, p8⟩ := P4.cells9
  have e0 := P4.f 0 rfl
  have zp := P4.1
  go_upto_region 9 with fail
  obtain ⟨w5, hw5⟩ : ∃ w5, w5 = w4.setCell ⟨w.heap.size, 0, none⟩ (.slice A1 n c1) := ⟨_, rfl⟩
  have P5 : Cl w.heap.size w5 [.slice A1 n c1, .int .i64 Le, .int .i64 Nu, .int .i64 Bl, .int .i64 Gt, .bool false, .bool Dn, .int .i64 Dl, .bool Fl] := by rw [hw5]; exact P4.set 0 _
  have Q5 : Cl (w.heap.size + 1) w5 [.slice none 0 0, .int .i64 0, .int .i64 0, .int .i64 0, .int .i64 0, .bool false, .bool false, .int .i64 0, .bool false] := by rw [hw5]; exact Q4.far (by omega) _ _
  have B5 : Bt w5 A1 l := by
    rw [hw5]
    exact hbt.set _ (fun b o e => by have := hfr b o e; omega) _ _
  have F5 : Bt w5 F f := by
    rw [hw5]
    exact ((HFB.out.below hg4)).set _ (fun b o e => by
      obtain ⟨b', o', e', hbl⟩ := HFB.out.addr (by rw [HFL.out]; omega)
      rw [e] at e'; injection e' with e'; injection e' with e1 e2
      omega) _ _
  have O5 : w5.ownsRow w2.heap.size 5 1 (.slice A1 n c1) n (l.map (Value.int .u8)) := by
    rw [hw5]
    have := hown
    unfold Own at this
    rw [HL.out] at this
    exact ownsRow_setCell_below this (by show w.heap.size < w2.heap.size; omega) _
  have G5 : Below w.heap.size w w5 := by rw [hw5]; exact hg4.setCell (Nat.le_refl _) _
  have X5 : Fr (w.heap.size + 2) A1 := fun b o e => by have := hfr b o e; omega
  rw [← hw5]
  clear hw5 P4 Q4 hbt hfr hlt hown hb4 hg4 hg2 p0 p1 p2 p3 p4 p5 p6 p7 p8 e0 zp HP HQ K V T HB HFB s4 s2
  have HB5 := Lib.hid B5
  have HO5 := Lib.hid O5
  have HG5 := Lib.hid G5
  have HX5 := Lib.hid X5
  have HQ5 := Lib.hid Q5
  have HP5 := Lib.hid P5
  obtain ⟨p0, p1, p2, p3, p4, p5, p6, p7, p8⟩ := P5.cells9
  have zp := P5.1
  have zq := Q5.1
  obtain ⟨bF, oF, rfl, hbF⟩ := F5.addr (by rw [HFL.out]; omega)
  have c0 : w5.cell? ⟨bF, oF, none⟩ = some (.int .u8 (f.getD 0 0)) := (F5.at 0 (by rw [HFL.out]; omega)).1
  have c1' := (F5.at 1 (by rw [HFL.out]; omega)).1
  rw [← HF0.out.1] at c0
  rw [← HF0.out.2] at c1'
  have HF5 := Lib.hid F5
  clear P5 Q5 B5 O5 G5 X5 F5
  have Q6 := HQ5.out
  obtain ⟨q0, q1, q2, q3, q4, q5, q6, q7, q8⟩ := Q6.cells9
  obtain ⟨f0', f1', f2', f3', f4', f5', f6', f7', f8'⟩ := Q6.free9
  have zq6 := Q6.1
  clear Q6 c1'
  go_wp2_with fail
  refine bodyPost_ret (v := .tuple #[.agg #[.slice A1 n c1, .int .i64 Le, .int .i64 Nu, .int .i64 Bl, .int .i64 Gt, .bool false, .bool Dn, .int .i64 Dl, .bool Fl], .slice none 0 0, .int .i64 0]) (by simp [results, Try.results13, go_sem, q0, q1, q2, q3, q4, q5, q6, q7, q8, zq6] <;> first | rfl | ((repeat' apply And.intro) <;> rfl)) rfl ⟨A1, n, c1, none, 0, 0, rfl, HL.out.symm, hc1, ?_, ?_, rfl, by omega, Bt.nil _ _, Fr.none _, below_set9 HG5.out (by omega) _ _ _ _ _ _ _ _ _⟩
  · exact HB5.out.set9 (fun b o e => by have := HX5.out b o e; omega) _ _ _ _ _ _ _ _ _
  · intro b o e
    have := HX5.out b o e
    omega
set_option maxRecDepth 100000 in
set_option maxHeartbeats 4000000 in
theorem recv13_fail (A : Option Addr) (n c : Nat) (Le Nu Bl Gt : Int) (Dl : Int) (l : List Int) (F : Option Addr) (cF : Nat) (f : List Int) (t : Int) (w : World) (hl : l.length = n) (hb : Bt w A l) (hc : n ≤ c) (hfb : Bt w F f) (hfB : Byt f) (hfc : 8 ≤ cF) (hv : vR n Le Nu Bl Gt true false Dl false = true) (ht : timeB t = true) (hk : kindM f = 2) (hx : Dl < t ∨ f.getD 0 0 % 16 ≠ Nu) :
    Calls Try.prog 13 #[.agg #[.slice A n c, .int .i64 Le, .int .i64 Nu, .int .i64 Bl, .int .i64 Gt, .bool true, .bool false, .int .i64 Dl, .bool false], .slice F 8 cF, .int .i64 t] w (RP ⟨[], 0, 0, Bl, 0, false, false, 0, true⟩ [] 0 w) := by
  obtain ⟨_, _, L0, L1, n0, n1, N0, N1, G0, G1, hBG, D0, D1⟩ := vR_busy hv
  have hfl := kind_len (f := f) (by omega)
  obtain ⟨g00, g01⟩ := hfB.at 0
  obtain ⟨g10, g11⟩ := hfB.at 1
  obtain ⟨f0, hf0⟩ : ∃ x, x = f.getD 0 0 := ⟨_, rfl⟩
  obtain ⟨f1, hf1⟩ : ∃ x, x = f.getD 1 0 := ⟨_, rfl⟩
  rw [← hf0] at g00 g01
  rw [← hf1] at g10 g11
  have HF0 := Lib.hid (And.intro hf0 hf1)
  obtain ⟨ll, hll⟩ : ∃ ll : Nat, f0 % 16 = ll := ⟨(f0 % 16).toNat, by omega⟩
  have hll16 : ll < 16 := by omega
  have hcF1 : ¬ cF = 1 := by omega
  have hcF2 : ¬ cF = 2 := by omega
  try rw [← hf0]
  try rw [← hf1]
  try rw [hll]
  try rw [Int.toNat_natCast]
  clear hf0 hf1
  obtain ⟨hn, b0, b1⟩ := vR_len hv
  obtain ⟨t0, t1⟩ := inB_t (show inB t 0 1099511627776 = true from ht)
  have K := fun w h => kind35_at F cF f 2 w h hfB hfc hk (by decide)
  replace K := Lib.hid K
  have T := fun w => instant37 t w
  rw [ht] at T
  replace T := Lib.hid T
  have V := fun w => validR36 A n c Le Nu Bl Gt true false Dl false w
  rw [hv] at V
  replace V := Lib.hid V
  have HFB := Lib.hid hfb
  have HL := Lib.hid hl
  have HB := Lib.hid hb
  have HV := Lib.hid hv
  have HFL := Lib.hid hfl
  have HY := Lib.hid hfB
  have HKK := Lib.hid hk
  clear hl hb hv ht hfl hfb hk
  go_enter Try.func13, Try.ntmps13
  go_wp2_with fail
  refine (K.out _ (HFB.out.below (by go_grown))).mono ?_
  rintro r w1 ⟨rfl, hb1⟩
  have hg1 := chain (w := w) (by go_grown) hb1
  have P1 := ((Cl.new (w := w) rfl [.slice A n c, .int .i64 Le, .int .i64 Nu, .int .i64 Bl, .int .i64 Gt, .bool true, .bool false, .int .i64 Dl, .bool false] 30).below ((Below.refl _ _).alloc (Nat.le_refl _) _)).below hb1
  have Q1 := (Cl.new (P := w.heap.size + 1) (by simp) [.slice none 0 0, .int .i64 0, .int .i64 0, .int .i64 0, .int .i64 0, .bool false, .bool false, .int .i64 0, .bool false] 30).below hb1
  have HP := Lib.hid P1
  have HQ := Lib.hid Q1
  obtain ⟨p0, p1, p2, p3, p4, p5, p6, p7, p8⟩ := P1.cells9
  have zp := P1.1
  clear P1 Q1 hb1
  go_wp2_with fail
  refine (V.out _).mono ?_
  rintro r w2 ⟨rfl, hb2⟩
  have hg2 := chain hg1 hb2
  have P2 := HP.out.below hb2
  have Q2 := HQ.out.below hb2
  clear p0 p1 p2 p3 p4 p5 p6 p7 p8 zp HP HQ hb2 hg1
  have HP := Lib.hid P2
  have HQ := Lib.hid Q2
  obtain ⟨p0, p1, p2, p3, p4, p5, p6, p7, p8⟩ := P2.cells9
  have e0 := P2.f 0 rfl
  have zp := P2.1
  clear P2 Q2
  go_wp2_with (go_at_call 37; refine (T.out _).mono ?_; rintro r w3 ⟨rfl, rfl⟩)
  refine (clone38 A n c l _ HL.out (HB.out.below hg2) (by omega)).mono ?_
  rintro r w4 ⟨v, rfl, hown, hb4⟩
  obtain ⟨A1, c1, rfl, hc1, hm1, hbt, hfr, hlt⟩ := hown.bt
  rw [HL.out] at hc1 ⊢
  have hg4 := chain hg2 hb4
  have P4 := HP.out.below hb4
  have Q4 := HQ.out.below hb4
  have s4 := hb4.size
  have s2 := hg2.size
  have zq2 := HQ.out.1
  clear p0 p1 p2 p3 p4 p5 p6 p7 p8 e0 zp
  obtain ⟨p0, p1, p2, p3, p4, p5, p6, p7, p8⟩ := P4.cells9
  have e0 := P4.f 0 rfl
  have zp := P4.1
  go_upto_region 9 with fail
  obtain ⟨w5, hw5⟩ : ∃ w5, w5 = w4.setCell ⟨w.heap.size, 0, none⟩ (.slice A1 n c1) := ⟨_, rfl⟩
  have P5 : Cl w.heap.size w5 [.slice A1 n c1, .int .i64 Le, .int .i64 Nu, .int .i64 Bl, .int .i64 Gt, .bool true, .bool false, .int .i64 Dl, .bool false] := by rw [hw5]; exact P4.set 0 _
  have Q5 : Cl (w.heap.size + 1) w5 [.slice none 0 0, .int .i64 0, .int .i64 0, .int .i64 0, .int .i64 0, .bool false, .bool false, .int .i64 0, .bool false] := by rw [hw5]; exact Q4.far (by omega) _ _
  have B5 : Bt w5 A1 l := by
    rw [hw5]
    exact hbt.set _ (fun b o e => by have := hfr b o e; omega) _ _
  have F5 : Bt w5 F f := by
    rw [hw5]
    exact ((HFB.out.below hg4)).set _ (fun b o e => by
      obtain ⟨b', o', e', hbl⟩ := HFB.out.addr (by rw [HFL.out]; omega)
      rw [e] at e'; injection e' with e'; injection e' with e1 e2
      omega) _ _
  have O5 : w5.ownsRow w2.heap.size 5 1 (.slice A1 n c1) n (l.map (Value.int .u8)) := by
    rw [hw5]
    have := hown
    unfold Own at this
    rw [HL.out] at this
    exact ownsRow_setCell_below this (by show w.heap.size < w2.heap.size; omega) _
  have G5 : Below w.heap.size w w5 := by rw [hw5]; exact hg4.setCell (Nat.le_refl _) _
  have X5 : Fr (w.heap.size + 2) A1 := fun b o e => by have := hfr b o e; omega
  rw [← hw5]
  clear hw5 P4 Q4 hbt hfr hlt hown hb4 hg4 hg2 p0 p1 p2 p3 p4 p5 p6 p7 p8 e0 zp HP HQ K V T HB HFB s4 s2
  have HB5 := Lib.hid B5
  have HO5 := Lib.hid O5
  have HG5 := Lib.hid G5
  have HX5 := Lib.hid X5
  have HQ5 := Lib.hid Q5
  have HP5 := Lib.hid P5
  obtain ⟨p0, p1, p2, p3, p4, p5, p6, p7, p8⟩ := P5.cells9
  have zp := P5.1
  have zq := Q5.1
  obtain ⟨bF, oF, rfl, hbF⟩ := F5.addr (by rw [HFL.out]; omega)
  have c0 : w5.cell? ⟨bF, oF, none⟩ = some (.int .u8 (f.getD 0 0)) := (F5.at 0 (by rw [HFL.out]; omega)).1
  have c1' := (F5.at 1 (by rw [HFL.out]; omega)).1
  rw [← HF0.out.1] at c0
  rw [← HF0.out.2] at c1'
  have HF5 := Lib.hid F5
  clear P5 Q5 B5 O5 G5 X5 F5
  have hx' : Dl < t ∨ (t ≤ Dl ∧ (ll : Int) ≠ Nu) := by
    rw [← HF0.out.1, hll] at hx
    omega
  have HX := Lib.hid hx'
  clear hx hx'
  have Q6 := HQ5.out
  obtain ⟨q0, q1, q2, q3, q4, q5, q6, q7, q8⟩ := Q6.cells9
  obtain ⟨f0', f1', f2', f3', f4', f5', f6', f7', f8'⟩ := Q6.free9
  have zq6 := Q6.1
  clear Q6 c1'
  rcases HX.out with h1 | ⟨h1, h2⟩
  · go_wp2_with fail
    refine (failed39 _ _ _ _ _ _ _ _ _ _ _ _).mono ?_
    rintro r w6 ⟨rfl, hb6⟩
    have Q6 := HQ5.out.below hb6
    have G6 := chain HG5.out hb6
    clear q0 q1 q2 q3 q4 q5 q6 q7 q8 f0' f1' f2' f3' f4' f5' f6' f7' f8' zq6 hb6
    obtain ⟨q0, q1, q2, q3, q4, q5, q6, q7, q8⟩ := Q6.cells9
    obtain ⟨f0', f1', f2', f3', f4', f5', f6', f7', f8'⟩ := Q6.free9
    have zq6 := Q6.1
    go_wp2_with fail
    exact bodyPost_ret (v := .tuple #[.agg #[.slice none 0 0, .int .i64 0, .int .i64 0, .int .i64 Bl, .int .i64 0, .bool false, .bool false, .int .i64 0, .bool true], .slice none 0 0, .int .i64 0]) (by simp [results, Try.results13, go_sem, q0, q1, q2, q3, q4, q5, q6, q7, q8, zq6] <;> first | rfl | ((repeat' apply And.intro) <;> rfl)) rfl ⟨none, 0, 0, none, 0, 0, rfl, rfl, by omega, Bt.nil _ _, Fr.none _, rfl, by omega, Bt.nil _ _, Fr.none _, below_set9 G6 (by omega) _ _ _ _ _ _ _ _ _⟩
  · have h1' : decide (Dl < t) = false := by simp; omega
    have h2' : ((ll : Int) != Nu) = true := by simp [h2]
    go_wp2_with fail
    refine (failed39 _ _ _ _ _ _ _ _ _ _ _ _).mono ?_
    rintro r w6 ⟨rfl, hb6⟩
    have Q6 := HQ5.out.below hb6
    have G6 := chain HG5.out hb6
    clear q0 q1 q2 q3 q4 q5 q6 q7 q8 f0' f1' f2' f3' f4' f5' f6' f7' f8' zq6 hb6
    obtain ⟨q0, q1, q2, q3, q4, q5, q6, q7, q8⟩ := Q6.cells9
    obtain ⟨f0', f1', f2', f3', f4', f5', f6', f7', f8'⟩ := Q6.free9
    have zq6 := Q6.1
    go_wp2_with fail
    exact bodyPost_ret (v := .tuple #[.agg #[.slice none 0 0, .int .i64 0, .int .i64 0, .int .i64 Bl, .int .i64 0, .bool false, .bool false, .int .i64 0, .bool true], .slice none 0 0, .int .i64 0]) (by simp [results, Try.results13, go_sem, q0, q1, q2, q3, q4, q5, q6, q7, q8, zq6] <;> first | rfl | ((repeat' apply And.intro) <;> rfl)) rfl ⟨none, 0, 0, none, 0, 0, rfl, rfl, by omega, Bt.nil _ _, Fr.none _, rfl, by omega, Bt.nil _ _, Fr.none _, below_set9 G6 (by omega) _ _ _ _ _ _ _ _ _⟩
end Go.Proofs.Ytfjeediecmhedaa
