/-
  Receive of a frame in the midst of a message. No condition but the slices' shape.
-/
import Derived.Test.YtfjeediecmhedaaRecv4
set_option linter.unusedVariables false
set_option linter.unusedSimpArgs false
namespace Go.Proofs.Ytfjeediecmhedaa
open Go.RowKit
set_option maxRecDepth 100000 in
set_option maxHeartbeats 4000000 in
theorem recv13_free (A : Option Addr) (n c : Nat) (e : Nat) (Nu Bl Gt : Int) (Dl : Int) (l : List Int) (F : Option Addr) (cF : Nat) (f : List Int) (t : Int) (w : World) (hl : l.length = n) (hb : Bt w A l) (hc : n ≤ c) (hfb : Bt w F f) (hfB : Byt f) (hfc : 8 ≤ cF) (hv : vR n e Nu Bl Gt true false Dl false = true) (ht : timeB t = true) (hk : kindM f = 2) (hx0 : t ≤ Dl) (hx : f.getD 0 0 % 16 = Nu) (hnm : n + 7 < e) (hB0 : Bl = 0) :
    Calls Try.prog 13 #[.agg #[.slice A n c, .int .i64 e, .int .i64 Nu, .int .i64 Bl, .int .i64 Gt, .bool true, .bool false, .int .i64 Dl, .bool false], .slice F 8 cF, .int .i64 t] w (RP ⟨l ++ (f.drop 1).take 7, e, (Nu + 1) % 16, Bl, Gt, true, false, t + 1000000, false⟩ [] 0 w) := by
  obtain ⟨d, hne⟩ : ∃ d, n + 7 = d := ⟨_, rfl⟩
  have HB0 := Lib.hid hB0
  clear hB0
  obtain ⟨_, _, L0, L1, n0, n1, N0, N1, G0, G1, hBG, D0, D1⟩ := vR_busy hv
  have hfl := kind_len (f := f) (by omega)
  obtain ⟨g00, g01⟩ := hfB.at 0
  obtain ⟨g10, g11⟩ := hfB.at 1
  obtain ⟨f0, hf0⟩ : ∃ x, x = f.getD 0 0 := ⟨_, rfl⟩
  obtain ⟨f1, hf1⟩ : ∃ x, x = f.getD 1 0 := ⟨_, rfl⟩
  rw [← hf0] at g00 g01
  rw [← hf1] at g10 g11
  have HF0 := Lib.hid (And.intro hf0 hf1)
  obtain ⟨ll, hll⟩ : ∃ ll : Nat, f0 % 16 = ll := ⟨(f0 % 16).toNat, by omega⟩
  have hll16 : ll < 16 := by omega
  have hcF1 : ¬ cF = 1 := by omega
  have hcF2 : ¬ cF = 2 := by omega
  try rw [← hf0]
  try rw [← hf1]
  try rw [hll]
  try rw [Int.toNat_natCast]
  clear hf0 hf1
  obtain ⟨hn, b0, b1⟩ := vR_len hv
  obtain ⟨t0, t1⟩ := inB_t (show inB t 0 1099511627776 = true from ht)
  have K := fun w h => kind35_at F cF f 2 w h hfB hfc hk (by decide)
  replace K := Lib.hid K
  have T := fun w => instant37 t w
  rw [ht] at T
  replace T := Lib.hid T
  have V := fun w => validR36 A n c e Nu Bl Gt true false Dl false w
  rw [hv] at V
  replace V := Lib.hid V
  have HFB := Lib.hid hfb
  have HL := Lib.hid hl
  have HB := Lib.hid hb
  have HV := Lib.hid hv
  have HFL := Lib.hid hfl
  have HY := Lib.hid hfB
  have HKK := Lib.hid hk
  clear hl hb hv ht hfl hfb hk
  go_enter Try.func13, Try.ntmps13
  go_wp2_with fail
  refine (K.out _ (HFB.out.below (by go_grown))).mono ?_
  rintro r w1 ⟨rfl, hb1⟩
  have hg1 := chain (w := w) (by go_grown) hb1
  have P1 := ((Cl.new (w := w) rfl [.slice A n c, .int .i64 e, .int .i64 Nu, .int .i64 Bl, .int .i64 Gt, .bool true, .bool false, .int .i64 Dl, .bool false] 30).below ((Below.refl _ _).alloc (Nat.le_refl _) _)).below hb1
  have Q1 := (Cl.new (P := w.heap.size + 1) (by simp) [.slice none 0 0, .int .i64 0, .int .i64 0, .int .i64 0, .int .i64 0, .bool false, .bool false, .int .i64 0, .bool false] 30).below hb1
  have HP := Lib.hid P1
  have HQ := Lib.hid Q1
  obtain ⟨p0, p1, p2, p3, p4, p5, p6, p7, p8⟩ := P1.cells9
  have zp := P1.1
  clear P1 Q1 hb1
  go_wp2_with fail
  refine (V.out _).mono ?_
  rintro r w2 ⟨rfl, hb2⟩
  have hg2 := chain hg1 hb2
  have P2 := HP.out.below hb2
  have Q2 := HQ.out.below hb2
  clear p0 p1 p2 p3 p4 p5 p6 p7 p8 zp HP HQ hb2 hg1
  have HP := Lib.hid P2
  have HQ := Lib.hid Q2
  obtain ⟨p0, p1, p2, p3, p4, p5, p6, p7, p8⟩ := P2.cells9
  have e0 := P2.f 0 rfl
  have zp := P2.1
  clear P2 Q2
  go_wp2_with (go_at_call 37; refine (T.out _).mono ?_; rintro r w3 ⟨rfl, rfl⟩)
  refine (clone38 A n c l _ HL.out (HB.out.below hg2) (by omega)).mono ?_
  rintro r w4 ⟨v, rfl, hown, hb4⟩
  obtain ⟨A1, c1, rfl, hc1, hm1, hbt, hfr, hlt⟩ := hown.bt
  rw [HL.out] at hc1 ⊢
  have hg4 := chain hg2 hb4
  have P4 := HP.out.below hb4
  have Q4 := HQ.out.below hb4
  have s4 := hb4.size
  have s2 := hg2.size
  have zq2 := HQ.out.1
  clear p0 p1 p2 p3 p4 p5 p6 p7 p8 e0 zp
  obtain ⟨p0, p1, p2, p3, p4, p5, p6, p7, p8⟩ := P4.cells9
  have e0 := P4.f 0 rfl
  have zp := P4.1
  go_upto_region 9 with fail
  obtain ⟨w5, hw5⟩ : ∃ w5, w5 = w4.setCell ⟨w.heap.size, 0, none⟩ (.slice A1 n c1) := ⟨_, rfl⟩
  have P5 : Cl w.heap.size w5 [.slice A1 n c1, .int .i64 e, .int .i64 Nu, .int .i64 Bl, .int .i64 Gt, .bool true, .bool false, .int .i64 Dl, .bool false] := by rw [hw5]; exact P4.set 0 _
  have Q5 : Cl (w.heap.size + 1) w5 [.slice none 0 0, .int .i64 0, .int .i64 0, .int .i64 0, .int .i64 0, .bool false, .bool false, .int .i64 0, .bool false] := by rw [hw5]; exact Q4.far (by omega) _ _
  have B5 : Bt w5 A1 l := by
    rw [hw5]
    exact hbt.set _ (fun b o e => by have := hfr b o e; omega) _ _
  have F5 : Bt w5 F f := by
    rw [hw5]
    exact ((HFB.out.below hg4)).set _ (fun b o e => by
      obtain ⟨b', o', e', hbl⟩ := HFB.out.addr (by rw [HFL.out]; omega)
      rw [e] at e'; injection e' with e'; injection e' with e1 e2
      omega) _ _
  have O5 : w5.ownsRow w2.heap.size 5 1 (.slice A1 n c1) n (l.map (Value.int .u8)) := by
    rw [hw5]
    have := hown
    unfold Own at this
    rw [HL.out] at this
    exact ownsRow_setCell_below this (by show w.heap.size < w2.heap.size; omega) _
  have G5 : Below w.heap.size w w5 := by rw [hw5]; exact hg4.setCell (Nat.le_refl _) _
  have X5 : Fr (w.heap.size + 2) A1 := fun b o e => by have := hfr b o e; omega
  rw [← hw5]
  clear hw5 P4 Q4 hbt hfr hlt hown hb4 hg4 hg2 p0 p1 p2 p3 p4 p5 p6 p7 p8 e0 zp HP HQ K V T HB HFB s4 s2
  have HB5 := Lib.hid B5
  have HO5 := Lib.hid O5
  have HG5 := Lib.hid G5
  have HX5 := Lib.hid X5
  have HQ5 := Lib.hid Q5
  have HP5 := Lib.hid P5
  obtain ⟨p0, p1, p2, p3, p4, p5, p6, p7, p8⟩ := P5.cells9
  have zp := P5.1
  have zq := Q5.1
  obtain ⟨bF, oF, rfl, hbF⟩ := F5.addr (by rw [HFL.out]; omega)
  have c0 : w5.cell? ⟨bF, oF, none⟩ = some (.int .u8 (f.getD 0 0)) := (F5.at 0 (by rw [HFL.out]; omega)).1
  have c1' := (F5.at 1 (by rw [HFL.out]; omega)).1
  rw [← HF0.out.1] at c0
  rw [← HF0.out.2] at c1'
  have HF5 := Lib.hid F5
  clear P5 Q5 B5 O5 G5 X5 F5
  rw [← HF0.out.1, hll] at hx
  have hx1 : decide (Dl < t) = false := by simp; omega
  have hx2 : ((ll : Int) != Nu) = false := by simp [hx]
  have O5 := HO5.out
  obtain ⟨gA, cA, hvA, hgA0, hgA1, _, _, _⟩ := own_form O5 (by omega)
  injection hvA with hvA1 hvA2 hvA3
  subst hvA1
  subst hvA3
  clear O5 hvA2
  have s25 : w2.heap.size ≤ w5.heap.size := by omega
  have wsub : IntKind.i64.wrap ((e : Int) - (n : Int)) = (e : Int) - (n : Int) := IntWalk.i64_in _ (by omega)
  have hdm : ¬ (e : Int) - (n : Int) < 7 := by omega
  have hde1 : ((d : Int) == (e : Int)) = false := by simp; omega
  have hde2 : (d == e) = false := by simp; omega
  have hde3 : ¬ d = e := by omega
  have wt : IntKind.i64.wrap (t + 1000000) = t + 1000000 := IntWalk.i64_in _ (by omega)
  go_upto_region 20 with fail
  have mw : IntKind.i64.wrap 8 = 8 := IntWalk.i64_in _ (by omega)
  have m8' : (8 : Int) ≤ (cF : Int) := by omega
  have hln : ((f.drop 1).take 7).length = 7 := by simp [HFL.out] <;> omega
  have hnews := (HF5.out.sub 1 7).news
  have HNW := Lib.hid hnews
  obtain ⟨i0, hi, hz0, hz1, hz2⟩ := info_parts info5
  clear hnews
  refine region_K (fun W' => W'.cell? ⟨w.heap.size, 0, none⟩ = some (.slice (some ⟨gA, 0, none⟩) n c1)) 8 (by kernel_rfl) (p0) (fun hHeld => ?_)
  refine K_take' (i := 0) (v := ?_) rfl (by kernel_rfl) (by kernel_rfl) (by kernel_rfl) (by kernel_rfl) (fun _ _ _ h => h) (Or.inl ⟨by rfl, ?_⟩) hHeld ?_
  rotate_left 1
  · intro W8 hSw
    clear hSw
    go_simp
    all_goals with_reducible rfl
  try simp only [Act.put, List.setIfInBounds_toArray, List.set_cons_zero, List.set_cons_succ]
  refine K_take (i := 1) (v := ?_) rfl (by kernel_rfl) (by kernel_rfl) (by kernel_rfl) (by kernel_rfl) (by kernel_rfl) (fun _ _ _ h => h) (Or.inl ⟨by rfl, ?_⟩) hHeld ?_
  rotate_left 1
  · intro W8 hSw
    (try dsimp only at hSw)
    go_simp
    all_goals with_reducible rfl
  try simp only [Act.put, List.setIfInBounds_toArray, List.set_cons_zero, List.set_cons_succ]
  refine K_take' (i := 2) (v := ?_) rfl (by kernel_rfl) (by kernel_rfl) (by kernel_rfl) (by kernel_rfl) (fun _ _ _ h => h) (Or.inl ⟨by rfl, ?_⟩) hHeld ?_
  rotate_left 1
  · intro W8 hSw
    clear hSw
    go_simp
    all_goals with_reducible rfl
  try simp only [Act.put, List.setIfInBounds_toArray, List.set_cons_zero, List.set_cons_succ]
  refine K_take' (i := 3) (v := ?_) rfl (by kernel_rfl) (by kernel_rfl) (by kernel_rfl) (by kernel_rfl) (fun _ _ _ h => h) (Or.inl ⟨by rfl, ?_⟩) hHeld ?_
  rotate_left 1
  · intro W8 hSw
    clear hSw
    go_simp
    all_goals with_reducible rfl
  try simp only [Act.put, List.setIfInBounds_toArray, List.set_cons_zero, List.set_cons_succ]
  refine K_take' (i := 4) (v := ?_) rfl (by kernel_rfl) (by kernel_rfl) (by kernel_rfl) (by kernel_rfl) (fun _ _ _ h => h) (Or.inl ⟨by rfl, ?_⟩) hHeld ?_
  rotate_left 1
  · intro W8 hSw
    clear hSw
    go_simp
    all_goals with_reducible rfl
  try simp only [Act.put, List.setIfInBounds_toArray, List.set_cons_zero, List.set_cons_succ]
  refine K_take' (i := 5) (v := ?_) rfl (by kernel_rfl) (by kernel_rfl) (by kernel_rfl) (by kernel_rfl) (fun _ _ _ h => h) (Or.inl ⟨by rfl, ?_⟩) hHeld ?_
  rotate_left 1
  · intro W8 hSw
    clear hSw
    go_simp
    all_goals with_reducible rfl
  try simp only [Act.put, List.setIfInBounds_toArray, List.set_cons_zero, List.set_cons_succ]
  refine K_step' (i := 6) (by kernel_rfl) rfl (fun K hK => ?_)
  refine step_append_lies _ (by rfl) (.tmp 105) (.tmp 109) 22 (by rfl) w2.heap.size 5 i0 (.int .u8 0) 1 1 Try.underlying22 hi hz0 hz1 hz2 rfl (by decide) _ _ _ (by simp [Act.eval, Act.put] <;> rfl) HO5.out.drew ⟨bF, oF + 1, none⟩ 7 (cF - 1) (((f.drop 1).take 7).map (Value.int .u8)) (by simp [Act.eval, Act.put] <;> rfl) (by simp only [List.length_map]; omega) ?_ ?_ (by omega) ?_ ?_ ?_ _ rfl ?_
  · exact fun j u h => HNW.out j u h
  · exact one_u8 _
  · unfold maxLen; omega
  · omega
  · exact s25
  intro g cap w6 hown6 hgrow6 _ hg6
  have hb6 : Below w2.heap.size w5 w6 := (show Below w2.heap.size w5 w5.drew from (Below.refl _ _).drew).trans (grown_below HO5.out.drew hgrow6 s25)
  have P6 := HP5.out.belowB (B := w2.heap.size) (by omega) hb6
  have Q6 := HQ5.out.belowB (B := w2.heap.size) (by omega) hb6
  refine hK.out _ _ P6.cells9.1 (fun hHeld2 => ?_)
  clear hK K
  try simp only [Act.put, List.setIfInBounds_toArray, List.set_cons_zero, List.set_cons_succ]
  rw [hne] at hown6 ⊢
  have hbt6 : Bt w6 (some ⟨g, 0, none⟩) (l ++ (f.drop 1).take 7) := own_bt (n := d) (c := cap) (base := w2.heap.size) (by simpa using hown6)
  have hgw : w2.heap.size ≤ g := own_ge hown6 g rfl
  have hdc : d ≤ cap := by
    obtain ⟨g', cap', hv, _, _, h, _⟩ := own_form hown6 (by omega)
    injection hv with _ _ hv
    omega
  have G6 : Below w.heap.size w w6 := HG5.out.trans (hb6.mono (by omega))
  have HQ6 := Lib.hid Q6
  have HP6 := Lib.hid P6
  have HT6 := Lib.hid hbt6
  have HG6 := Lib.hid G6
  clear p0 p1 p2 p3 p4 p5 p6 p7 p8 hHeld
  obtain ⟨p0, p1, p2, p3, p4, p5, p6, p7, p8⟩ := P6.cells9
  have e0 := P6.f 0 rfl
  have zp6 := P6.1
  clear P6 Q6 hown6 hgrow6 hb6 hbt6 G6
  refine K_take' (i := 7) (v := ?_) rfl (by kernel_rfl) (by kernel_rfl) (by kernel_rfl) (by kernel_rfl) (fun _ _ _ h => h) (Or.inl ⟨by rfl, ?_⟩) hHeld2 ?_
  rotate_left 1
  · intro W8 hSw
    clear hSw
    go_simp
    all_goals with_reducible rfl
  try simp only [Act.put, List.setIfInBounds_toArray, List.set_cons_zero, List.set_cons_succ]
  clear hHeld2
  refine K_step (by kernel_rfl) (by kernel_rfl) rfl (fun K hK => ?_)
  go_simp
  refine hK.out _ _ ?_
  clear hK K
  try simp only [Act.put, List.setIfInBounds_toArray, List.set_cons_zero, List.set_cons_succ]
  refine wpAny_done (by kernel_rfl) ?_ _
  go_upto_region 21 with fail
  have P7 := HP6.out.set 0 (.slice (some ⟨g, 0, none⟩) d cap)
  have Q7 := HQ6.out.far (b := w.heap.size) (by omega) 0 (.slice (some ⟨g, 0, none⟩) d cap)
  have T7 := HT6.out.set w.heap.size (fun b o q => by injection q with q; injection q with q _; omega) 0 (.slice (some ⟨g, 0, none⟩) d cap)
  have G7 := HG6.out.setCell (p := ⟨w.heap.size, 0, none⟩) (Nat.le_refl _) (.slice (some ⟨g, 0, none⟩) d cap)
  obtain ⟨w7, hw7⟩ : ∃ w7, w7 = w6.setCell ⟨w.heap.size, 0, none⟩ (.slice (some ⟨g, 0, none⟩) d cap) := ⟨_, rfl⟩
  simp only [List.set_cons_zero] at P7
  rw [← hw7] at P7 Q7 T7 G7 ⊢
  clear hw7 p0 p1 p2 p3 p4 p5 p6 p7 p8 e0 zp6 HP6 HQ6 HT6 HG6
  obtain ⟨p0, p1, p2, p3, p4, p5, p6, p7, p8⟩ := P7.cells9
  obtain ⟨q0, q1, q2, q3, q4, q5, q6, q7, q8⟩ := Q7.cells9
  obtain ⟨f0', f1', f2', f3', f4', f5', f6', f7', f8'⟩ := Q7.free9
  have zq7 := Q7.1
  have zp7 := P7.1
  have HT7 := Lib.hid T7
  have HG7 := Lib.hid G7
  have HQ7 := Lib.hid Q7
  have HP7 := Lib.hid P7
  clear P7 Q7 T7 G7
  have e0 := HP7.out.f 0 rfl
  have e2 := HP7.out.f 2 rfl
  have e7 := HP7.out.f 7 rfl
  go_upto_region 24 with fail
  have P8 := ((HP7.out.set 2 (.int .i64 ((Nu + 1) % 16))).set 7 (.int .i64 (t + 1000000)))
  have Q8 := ((HQ7.out.far (b := w.heap.size) (by omega) 2 (.int .i64 ((Nu + 1) % 16))).far (b := w.heap.size) (by omega) 7 (.int .i64 (t + 1000000)))
  have T8 := ((HT7.out.set w.heap.size (fun b o q => by injection q with q; injection q with q _; omega) 2 (.int .i64 ((Nu + 1) % 16))).set w.heap.size (fun b o q => by injection q with q; injection q with q _; omega) 7 (.int .i64 (t + 1000000)))
  have G8 := ((HG7.out.setCell (p := ⟨w.heap.size, 2, none⟩) (Nat.le_refl _) (.int .i64 ((Nu + 1) % 16))).setCell (p := ⟨w.heap.size, 7, none⟩) (Nat.le_refl _) (.int .i64 (t + 1000000)))
  simp only [List.set_cons_zero, List.set_cons_succ] at P8
  obtain ⟨w8, hw8⟩ : ∃ wx, wx = ((w7.setCell ⟨w.heap.size, 2, none⟩ (.int .i64 ((Nu + 1) % 16))).setCell ⟨w.heap.size, 7, none⟩ (.int .i64 (t + 1000000))) := ⟨_, rfl⟩
  rw [← hw8] at P8 Q8 T8 G8 ⊢
  clear hw8 p0 p1 p2 p3 p4 p5 p6 p7 p8 q0 q1 q2 q3 q4 q5 q6 q7 q8 f0' f1' f2' f3' f4' f5' f6' f7' f8' HP7 HQ7 HT7 HG7 zp7 zq7
  obtain ⟨p0, p1, p2, p3, p4, p5, p6, p7, p8⟩ := P8.cells9
  obtain ⟨e0, e1, e2, e3, e4, e5, e6, e7, e8⟩ := P8.free9
  obtain ⟨q0, q1, q2, q3, q4, q5, q6, q7, q8⟩ := Q8.cells9
  obtain ⟨f0', f1', f2', f3', f4', f5', f6', f7', f8'⟩ := Q8.free9
  have zq7 := Q8.1
  have zp7 := P8.1
  have HT7 := Lib.hid T8
  have HG7 := Lib.hid G8
  have HQ7 := Lib.hid Q8
  have HP7 := Lib.hid P8
  clear P8 Q8 T8 G8
  have hB0 := HB0.out
  subst hB0
  go_wp2_with fail
  refine bodyPost_ret (v := .tuple #[.agg #[.slice (some ⟨g, 0, none⟩) d cap, .int .i64 e, .int .i64 ((Nu + 1) % 16), .int .i64 0, .int .i64 Gt, .bool true, .bool false, .int .i64 (t + 1000000), .bool false], .slice none 0 0, .int .i64 0]) (by simp [results, Try.results13, go_sem, q0, q1, q2, q3, q4, q5, q6, q7, q8, zq7] <;> first | rfl | ((repeat' apply And.intro) <;> rfl)) rfl ⟨some ⟨g, 0, none⟩, d, cap, none, 0, 0, rfl, by simp [HL.out, HFL.out] <;> omega, hdc, ?_, ?_, rfl, by omega, Bt.nil _ _, Fr.none _, below_set9 HG7.out (by omega) _ _ _ _ _ _ _ _ _⟩
  · have hT := HT7.out
    rw [List.drop_one] at hT
    exact hT.set9 (fun b o q => by injection q with q; injection q with q _; omega) _ _ _ _ _ _ _ _ _
  · intro b o q
    injection q with q; injection q with q _
    omega
end Go.Proofs.Ytfjeediecmhedaa
