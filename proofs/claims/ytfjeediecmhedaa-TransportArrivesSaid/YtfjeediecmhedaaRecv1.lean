/-
  Receive of a frame that is alone a message, and of the first frame of one. No condition but the slices' shape.
-/
import Derived.Test.YtfjeediecmhedaaRecv0
set_option linter.unusedVariables false
set_option linter.unusedSimpArgs false
namespace Go.Proofs.Ytfjeediecmhedaa
open Go.RowKit
theorem vR_len {n : Nat} {Le Nu Bl Gt : Int} {Bu Dn : Bool} {Dl : Int} {Fl : Bool} (h : vR n Le Nu Bl Gt Bu Dn Dl Fl = true) : n ≤ 1023 ∧ 0 ≤ Bl ∧ Bl ≤ 255 := by
  unfold vR at h
  simp only [Bool.and_eq_true] at h
  obtain ⟨⟨h1, _⟩, h2⟩ := h
  obtain ⟨b0, b1⟩ := inB_t h1
  refine ⟨?_, b0, b1⟩
  cases Bu
  · cases Dn
    · simp at h2; omega
    · simp [msgB] at h2; omega
  · simp [parB] at h2; omega
set_option maxRecDepth 100000 in
set_option maxHeartbeats 4000000 in
theorem recv13_single (A : Option Addr) (n c : Nat) (Le Nu Bl Gt : Int) (Bu Dn : Bool) (Dl : Int) (Fl : Bool) (l : List Int) (F : Option Addr) (cF : Nat) (f : List Int) (t : Int) (w : World) (hl : l.length = n) (hb : Bt w A l) (hc : n ≤ c) (hfb : Bt w F f) (hfB : Byt f) (hfc : 8 ≤ cF) (hv : vR n Le Nu Bl Gt Bu Dn Dl Fl = true) (ht : timeB t = true) (hk : kindM f = 0) :
    Calls Try.prog 13 #[.agg #[.slice A n c, .int .i64 Le, .int .i64 Nu, .int .i64 Bl, .int .i64 Gt, .bool Bu, .bool Dn, .int .i64 Dl, .bool Fl], .slice F 8 cF, .int .i64 t] w (RP ⟨(f.drop 1).take (f.getD 0 0 % 16).toNat, f.getD 0 0 % 16, 0, Bl, 0, false, true, 0, false⟩ [] 0 w) := by
  have hfl := kind_len (f := f) (by omega)
  obtain ⟨g00, g01⟩ := hfB.at 0
  obtain ⟨g10, g11⟩ := hfB.at 1
  obtain ⟨f0, hf0⟩ : ∃ x, x = f.getD 0 0 := ⟨_, rfl⟩
  obtain ⟨f1, hf1⟩ : ∃ x, x = f.getD 1 0 := ⟨_, rfl⟩
  rw [← hf0] at g00 g01
  rw [← hf1] at g10 g11
  have HF0 := Lib.hid (And.intro hf0 hf1)
  obtain ⟨ll, hll⟩ : ∃ ll : Nat, f0 % 16 = ll := ⟨(f0 % 16).toNat, by omega⟩
  have hll16 : ll < 16 := by omega
  have hcF1 : ¬ cF = 1 := by omega
  have hcF2 : ¬ cF = 2 := by omega
  try rw [← hf0]
  try rw [← hf1]
  try rw [hll]
  try rw [Int.toNat_natCast]
  clear hf0 hf1
  obtain ⟨hn, b0, b1⟩ := vR_len hv
  obtain ⟨t0, t1⟩ := inB_t (show inB t 0 1099511627776 = true from ht)
  have K := fun w h => kind35_at F cF f 0 w h hfB hfc hk (by decide)
  replace K := Lib.hid K
  have T := fun w => instant37 t w
  rw [ht] at T
  replace T := Lib.hid T
  have V := fun w => validR36 A n c Le Nu Bl Gt Bu Dn Dl Fl w
  rw [hv] at V
  replace V := Lib.hid V
  have HFB := Lib.hid hfb
  have HL := Lib.hid hl
  have HB := Lib.hid hb
  have HV := Lib.hid hv
  have HFL := Lib.hid hfl
  have HY := Lib.hid hfB
  have HKK := Lib.hid hk
  clear hl hb hv ht hfl hfb hk
  go_enter Try.func13, Try.ntmps13
  go_wp2_with fail
  refine (K.out _ (HFB.out.below (by go_grown))).mono ?_
  rintro r w1 ⟨rfl, hb1⟩
  have hg1 := chain (w := w) (by go_grown) hb1
  have P1 := ((Cl.new (w := w) rfl [.slice A n c, .int .i64 Le, .int .i64 Nu, .int .i64 Bl, .int .i64 Gt, .bool Bu, .bool Dn, .int .i64 Dl, .bool Fl] 30).below ((Below.refl _ _).alloc (Nat.le_refl _) _)).below hb1
  have Q1 := (Cl.new (P := w.heap.size + 1) (by simp) [.slice none 0 0, .int .i64 0, .int .i64 0, .int .i64 0, .int .i64 0, .bool false, .bool false, .int .i64 0, .bool false] 30).below hb1
  have HP := Lib.hid P1
  have HQ := Lib.hid Q1
  obtain ⟨p0, p1, p2, p3, p4, p5, p6, p7, p8⟩ := P1.cells9
  have zp := P1.1
  clear P1 Q1 hb1
  go_wp2_with fail
  refine (V.out _).mono ?_
  rintro r w2 ⟨rfl, hb2⟩
  have hg2 := chain hg1 hb2
  have P2 := HP.out.below hb2
  have Q2 := HQ.out.below hb2
  clear p0 p1 p2 p3 p4 p5 p6 p7 p8 zp HP HQ hb2 hg1
  have HP := Lib.hid P2
  have HQ := Lib.hid Q2
  obtain ⟨p0, p1, p2, p3, p4, p5, p6, p7, p8⟩ := P2.cells9
  have e0 := P2.f 0 rfl
  have zp := P2.1
  clear P2 Q2
  go_wp2_with (go_at_call 37; refine (T.out _).mono ?_; rintro r w3 ⟨rfl, rfl⟩)
  refine (clone38 A n c l _ HL.out (HB.out.below hg2) (by omega)).mono ?_
  rintro r w4 ⟨v, rfl, hown, hb4⟩
  obtain ⟨A1, c1, rfl, hc1, hm1, hbt, hfr, hlt⟩ := hown.bt
  rw [HL.out] at hc1 ⊢
  have hg4 := chain hg2 hb4
  have P4 := HP.out.below hb4
  have Q4 := HQ.out.below hb4
  have s4 := hb4.size
  have s2 := hg2.size
  have zq2 := HQ.out.1
  clear p0 p1 p2 p3 p4 p5 p6 p7 p8 e0 zp
  obtain ⟨p0, p1, p2, p3, p4, p5, p6, p7, p8⟩ := P4.cells9
  have e0 := P4.f 0 rfl
  have zp := P4.1
  go_upto_region 9 with fail
  obtain ⟨w5, hw5⟩ : ∃ w5, w5 = w4.setCell ⟨w.heap.size, 0, none⟩ (.slice A1 n c1) := ⟨_, rfl⟩
  have P5 : Cl w.heap.size w5 [.slice A1 n c1, .int .i64 Le, .int .i64 Nu, .int .i64 Bl, .int .i64 Gt, .bool Bu, .bool Dn, .int .i64 Dl, .bool Fl] := by rw [hw5]; exact P4.set 0 _
  have Q5 : Cl (w.heap.size + 1) w5 [.slice none 0 0, .int .i64 0, .int .i64 0, .int .i64 0, .int .i64 0, .bool false, .bool false, .int .i64 0, .bool false] := by rw [hw5]; exact Q4.far (by omega) _ _
  have B5 : Bt w5 A1 l := by
    rw [hw5]
    exact hbt.set _ (fun b o e => by have := hfr b o e; omega) _ _
  have F5 : Bt w5 F f := by
    rw [hw5]
    exact ((HFB.out.below hg4)).set _ (fun b o e => by
      obtain ⟨b', o', e', hbl⟩ := HFB.out.addr (by rw [HFL.out]; omega)
      rw [e] at e'; injection e' with e'; injection e' with e1 e2
      omega) _ _
  have O5 : w5.ownsRow w2.heap.size 5 1 (.slice A1 n c1) n (l.map (Value.int .u8)) := by
    rw [hw5]
    have := hown
    unfold Own at this
    rw [HL.out] at this
    exact ownsRow_setCell_below this (by show w.heap.size < w2.heap.size; omega) _
  have G5 : Below w.heap.size w w5 := by rw [hw5]; exact hg4.setCell (Nat.le_refl _) _
  have X5 : Fr (w.heap.size + 2) A1 := fun b o e => by have := hfr b o e; omega
  rw [← hw5]
  clear hw5 P4 Q4 hbt hfr hlt hown hb4 hg4 hg2 p0 p1 p2 p3 p4 p5 p6 p7 p8 e0 zp HP HQ K V T HB HFB s4 s2
  have HB5 := Lib.hid B5
  have HO5 := Lib.hid O5
  have HG5 := Lib.hid G5
  have HX5 := Lib.hid X5
  have HQ5 := Lib.hid Q5
  have HP5 := Lib.hid P5
  obtain ⟨p0, p1, p2, p3, p4, p5, p6, p7, p8⟩ := P5.cells9
  have zp := P5.1
  have zq := Q5.1
  obtain ⟨bF, oF, rfl, hbF⟩ := F5.addr (by rw [HFL.out]; omega)
  have c0 : w5.cell? ⟨bF, oF, none⟩ = some (.int .u8 (f.getD 0 0)) := (F5.at 0 (by rw [HFL.out]; omega)).1
  have c1' := (F5.at 1 (by rw [HFL.out]; omega)).1
  rw [← HF0.out.1] at c0
  rw [← HF0.out.2] at c1'
  have HF5 := Lib.hid F5
  clear P5 Q5 B5 O5 G5 X5 F5
  have hl17 : 1 ≤ ll ∧ ll ≤ 7 := by
    have h1 := HKK.out
    have h2 := HF0.out.1
    have h3 := HFL.out
    unfold kindM at h1
    rw [if_pos h3, ← h2, hll] at h1
    split at h1
    · split at h1
      · omega
      · omega
    · split at h1
      · split at h1 <;> omega
      · split at h1
        · omega
        · split at h1
          · split at h1 <;> omega
          · omega
  obtain ⟨l1, l7⟩ := hl17
  have l1' : (1 : Int) ≤ (ll : Int) + 1 := by omega
  have l8' : (ll : Int) + 1 ≤ (cF : Int) := by omega
  have lw : IntKind.i64.wrap ((ll : Int) + 1) = (ll : Int) + 1 := IntWalk.i64_in _ (by omega)
  have lt : ((ll : Int) + 1).toNat = ll + 1 := by omega
  go_upto_region 11 with fail
  refine region_K (fun W' => (∀ b o, b < w5.heap.size → W'.cell? ⟨b, o, none⟩ = w5.cell? ⟨b, o, none⟩) ∧ Below w5.heap.size w5 W') 9 (by kernel_rfl) (Kp.mk (Below.refl _ _).drew) (fun hHeld => ?_)
  refine K_take' (i := 0) (v := ?_) rfl (by kernel_rfl) (by kernel_rfl) (by kernel_rfl) (by kernel_rfl) (fun _ _ _ h => h) (Or.inl ⟨by rfl, ?_⟩) hHeld ?_
  rotate_left 1
  · intro W8 hSw
    clear hSw
    go_simp
    all_goals with_reducible rfl
  try simp only [Act.put, List.setIfInBounds_toArray, List.set_cons_zero, List.set_cons_succ]
  refine K_take (i := 1) (v := ?_) rfl (by kernel_rfl) (by kernel_rfl) (by kernel_rfl) (by kernel_rfl) (by kernel_rfl) (fun _ _ _ h => h) (Or.inl ⟨by rfl, ?_⟩) hHeld ?_
  rotate_left 1
  · intro W8 hSw
    (try dsimp only at hSw)
    go_simp
    all_goals with_reducible rfl
  try simp only [Act.put, List.setIfInBounds_toArray, List.set_cons_zero, List.set_cons_succ]
  refine K_take' (i := 2) (v := ?_) rfl (by kernel_rfl) (by kernel_rfl) (by kernel_rfl) (by kernel_rfl) (fun _ _ _ h => h) (Or.inl ⟨by rfl, ?_⟩) hHeld ?_
  rotate_left 1
  · intro W8 hSw
    clear hSw
    go_simp
    all_goals with_reducible rfl
  try simp only [Act.put, List.setIfInBounds_toArray, List.set_cons_zero, List.set_cons_succ]
  refine K_take' (i := 3) (v := ?_) rfl (by kernel_rfl) (by kernel_rfl) (by kernel_rfl) (by kernel_rfl) (fun _ _ _ h => h) (Or.inl ⟨by rfl, ?_⟩) hHeld ?_
  rotate_left 1
  · intro W8 hSw
    clear hSw
    go_simp
    all_goals with_reducible rfl
  try simp only [Act.put, List.setIfInBounds_toArray, List.set_cons_zero, List.set_cons_succ]
  refine K_take' (i := 4) (v := ?_) rfl (by kernel_rfl) (by kernel_rfl) (by kernel_rfl) (by kernel_rfl) (fun _ _ _ h => h) (Or.inl ⟨by rfl, ?_⟩) hHeld ?_
  rotate_left 1
  · intro W8 hSw
    clear hSw
    go_simp
    all_goals with_reducible rfl
  try simp only [Act.put, List.setIfInBounds_toArray, List.set_cons_zero, List.set_cons_succ]
  refine K_take' (i := 5) (v := ?_) rfl (by kernel_rfl) (by kernel_rfl) (by kernel_rfl) (by kernel_rfl) (fun _ _ _ h => h) (Or.inl ⟨by rfl, ?_⟩) hHeld ?_
  rotate_left 1
  · intro W8 hSw
    clear hSw
    go_simp
    all_goals with_reducible rfl
  try simp only [Act.put, List.setIfInBounds_toArray, List.set_cons_zero, List.set_cons_succ]
  refine K_take' (i := 7) (v := ?_) rfl (by kernel_rfl) (by kernel_rfl) (by kernel_rfl) (by kernel_rfl) (fun _ _ _ h => h) (Or.inl ⟨by rfl, ?_⟩) hHeld ?_
  rotate_left 1
  · intro W8 hSw
    clear hSw
    go_simp
    all_goals with_reducible rfl
  try simp only [Act.put, List.setIfInBounds_toArray, List.set_cons_zero, List.set_cons_succ]
  have hln : ((f.drop 1).take ll).length = ll := by simp [HFL.out]; omega
  refine K_step' (i := 6) (by kernel_rfl) rfl (fun K hK => ?_)
  go_simp
  refine (clone38 (some ⟨bF, oF + 1, none⟩) ll (cF - 1) ((f.drop 1).take ll) _ hln ((HF5.out.sub 1 ll).below (Below.refl _ _).drew) (by omega)).mono ?_
  rintro r w6 ⟨v, rfl, hown6, hb6'⟩
  have hb6 : Below w5.heap.size w5 w6 := (Below.drew (Below.refl w5.heap.size w5)).trans hb6'
  obtain ⟨A6, c6, rfl, hc6, hm6, hbt6, hfr6, hlt6⟩ := hown6.bt
  rw [hln] at hc6 ⊢
  refine hK.out _ _ (Kp.mk hb6) (fun hHeld2 => ?_)
  clear hK K
  try simp only [Act.put, List.setIfInBounds_toArray, List.set_cons_zero, List.set_cons_succ]
  refine K_take' (i := 8) (v := ?_) rfl (by kernel_rfl) (by kernel_rfl) (by kernel_rfl) (by kernel_rfl) (fun _ _ _ h => h) (Or.inl ⟨by rfl, ?_⟩) hHeld2 ?_
  rotate_left 1
  · intro W8 hSw
    clear hSw
    go_simp
    all_goals with_reducible rfl
  try simp only [Act.put, List.setIfInBounds_toArray, List.set_cons_zero, List.set_cons_succ]
  have Q6 := HQ5.out.below hb6
  have G6 := chain HG5.out hb6
  obtain ⟨q0, q1, q2, q3, q4, q5, q6, q7, q8⟩ := Q6.cells9
  obtain ⟨f0', f1', f2', f3', f4', f5', f6', f7', f8'⟩ := Q6.free9
  have zq6 := Q6.1
  have HT6 := Lib.hid hbt6
  have s5 : w.heap.size + 2 ≤ w5.heap.size := by omega
  have HX6 : Hid (Fr (w.heap.size + 2) A6) := Lib.hid (fun b o e => by have h : w5.heap.size ≤ b := hfr6 b o e; omega)
  clear hHeld hHeld2 p0 p1 p2 p3 p4 p5 p6 p7 p8 hbt6 hfr6 hlt6 hown6 hb6 hb6' Q6 c0 c1'
  refine K_step (by kernel_rfl) (by kernel_rfl) rfl (fun K hK => ?_)
  go_simp
  refine hK.out _ _ ?_
  clear hK K
  try simp only [Act.put, List.setIfInBounds_toArray, List.set_cons_zero, List.set_cons_succ]
  refine wpAny_ready (rs := [10]) (by kernel_rfl) (by simp) (AllReady.cons rfl (fun K hK => ?_) AllReady.nil)
  go_simp
  refine hK _ _ ?_
  clear hK K
  try simp only [Act.put, List.setIfInBounds_toArray, List.set_cons_zero, List.set_cons_succ]
  refine wpAny_ready (rs := [11]) (by kernel_rfl) (by simp) (AllReady.cons rfl (fun K hK => ?_) AllReady.nil)
  go_simp
  refine hK _ _ ?_
  clear hK K
  try simp only [Act.put, List.setIfInBounds_toArray, List.set_cons_zero, List.set_cons_succ]
  refine wpAny_done (by kernel_rfl) ?_ _
  go_wp2_with fail
  refine bodyPost_ret (v := .tuple #[.agg #[.slice A6 ll c6, .int .i64 ll, .int .i64 0, .int .i64 Bl, .int .i64 0, .bool false, .bool true, .int .i64 0, .bool false], .slice none 0 0, .int .i64 0]) (by simp [results, Try.results13, go_sem, q0, q1, q2, q3, q4, q5, q6, q7, q8, zq6] <;> first | rfl | ((repeat' apply And.intro) <;> rfl)) rfl ⟨A6, ll, c6, none, 0, 0, rfl, hln.symm, hc6, ?_, ?_, rfl, by omega, Bt.nil _ _, Fr.none _, below_set9 G6 (by omega) _ _ _ _ _ _ _ _ _⟩
  · exact HT6.out.set9 (fun b o e => by have := HX6.out b o e; omega) _ _ _ _ _ _ _ _ _
  · intro b o e
    have := HX6.out b o e
    omega
end Go.Proofs.Ytfjeediecmhedaa
