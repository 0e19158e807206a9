/-
  The reference's Receive of a frame in the midst of a message. No condition but the slices' shape.
-/
import Derived.Test.YtfjeediecmhedaaRSend
import Derived.Test.YtfjeediecmhedaaApp
import Derived.Test.YtfjeediecmhedaaRefKind
import Derived.Test.YtfjeediecmhedaaRecv4
import Derived.Test.YtfjeediecmhedaaRRecv3
set_option linter.unusedVariables false
set_option linter.unusedSimpArgs false
namespace Go.Proofs.Ytfjeediecmhedaa
open Go.RowKit
set_option maxRecDepth 100000 in
set_option maxHeartbeats 40000000 in
theorem rrecv25_free (A : Option Addr) (n c : Nat) (e : Nat) (Nu Bl Gt : Int) (Dl : Int) (l : List Int) (F : Option Addr) (cF : Nat) (f : List Int) (t : Int) (w : World) (hl : l.length = n) (hb : Bt w A l) (hc : n ≤ c) (hfb : Bt w F f) (hfB : Byt f) (hfc : 8 ≤ cF) (hv : vR n e Nu Bl Gt true false Dl false = true) (ht : timeB t = true) (hk : kindM f = 2) (hx0 : t ≤ Dl) (hx : f.getD 0 0 % 16 = Nu) (hnm : n + 7 < e) (hB0 : Bl = 0) :
    Calls Try.prog 25 #[.agg #[.slice A n c, .int .i64 e, .int .i64 Nu, .int .i64 Bl, .int .i64 Gt, .bool true, .bool false, .int .i64 Dl, .bool false], .slice F 8 cF, .int .i64 t] w (RP ⟨l ++ (f.drop 1).take 7, e, (Nu + 1) % 16, Bl, Gt, true, false, t + 1000000, false⟩ [] 0 w) := by
  obtain ⟨d, hne⟩ : ∃ d, n + 7 = d := ⟨_, rfl⟩
  have HB0 := Lib.hid hB0
  clear hB0
  obtain ⟨_, _, L0, L1, n0, n1, N0, N1, G0, G1, hBG, D0, D1⟩ := vR_busy hv
  have hfl := kind_len (f := f) (by omega)
  obtain ⟨g00, g01⟩ := hfB.at 0
  obtain ⟨g10, g11⟩ := hfB.at 1
  obtain ⟨f0, hf0⟩ : ∃ x, x = f.getD 0 0 := ⟨_, rfl⟩
  obtain ⟨f1, hf1⟩ : ∃ x, x = f.getD 1 0 := ⟨_, rfl⟩
  rw [← hf0] at g00 g01
  rw [← hf1] at g10 g11
  have HF0 := Lib.hid (And.intro hf0 hf1)
  obtain ⟨ll, hll⟩ : ∃ ll : Nat, f0 % 16 = ll := ⟨(f0 % 16).toNat, by omega⟩
  have hll16 : ll < 16 := by omega
  have hrem : f0.tmod 16 = (ll : Int) := by rw [Int.tmod_eq_emod_of_nonneg g00]; exact hll
  have wf0 : IntKind.i64.wrap f0 = f0 := IntWalk.i64_in _ (by omega)
  have wf1 : IntKind.i64.wrap f1 = f1 := IntWalk.i64_in _ (by omega)
  have wll : IntKind.i64.wrap (ll : Int) = (ll : Int) := IntWalk.i64_in _ (by omega)
  have hcF1 : ¬ cF = 1 := by omega
  have hcF2 : ¬ cF = 2 := by omega
  try rw [← hf0]
  try rw [← hf1]
  try rw [hll]
  try rw [Int.toNat_natCast]
  clear hf0 hf1
  obtain ⟨hn, b0, b1⟩ := vR_len hv
  obtain ⟨t0, t1⟩ := inB_t (show inB t 0 1099511627776 = true from ht)
  have u1 := u8_of b0 b1
  have K := fun w h => kind45 F 8 cF f w hfl h hfB hfc
  simp only [hk] at K
  replace K := Lib.hid K
  have HL := Lib.hid hl
  have HB := Lib.hid hb
  have HV := Lib.hid hv
  have HFL := Lib.hid hfl
  have HY := Lib.hid hfB
  have HFB := Lib.hid hfb
  have HKK := Lib.hid hk
  clear hl hb hv ht hfl hfb hfB hk
  go_enter Try.func25, Try.ntmps25
  go_wp2_with fail
  refine (frame40 ⟨w.heap.size + 2, 0, none⟩ 2 2 [48, Bl] _ rfl (Bt.of_block (new_at (by simp) _)) (by omega)).mono ?_
  rintro r w1 ⟨v1, rfl, hv1, hb1⟩
  obtain ⟨KA, kc, rfl, hkc, _, hkb, hkf0, hkl⟩ := hv1.bt
  rw [pad_len (by simp)] at hkc ⊢
  have hg1 := chain (w := w) (by go_grown) hb1
  have P1 := (((Cl.new (w := w) rfl [.slice A n c, .int .i64 e, .int .i64 Nu, .int .i64 Bl, .int .i64 Gt, .bool true, .bool false, .int .i64 Dl, .bool false] 30).below ((Below.refl _ _).alloc (Nat.le_refl _) _)).below ((Below.refl _ _).alloc (Nat.le_refl _) _)).below hb1
  have Q1 := ((Cl.new (P := w.heap.size + 1) (by simp) [.slice none 0 0, .int .i64 0, .int .i64 0, .int .i64 0, .int .i64 0, .bool false, .bool false, .int .i64 0, .bool false] 30).below ((Below.refl _ _).alloc (Nat.le_refl _) _)).below hb1
  have z1 := hb1.size
  simp at z1
  have HKL : Hid (∀ b o, KA = some ⟨b, o, none⟩ → b < w1.heap.size) := Lib.hid hkl
  have XK : Fr (w.heap.size + 2) KA := fun b o e => by have h := hkf0 b o e; simp at h; omega
  have HXK := Lib.hid XK
  have HKB1 := Lib.hid hkb
  have HP := Lib.hid P1
  have HQ := Lib.hid Q1
  have HG1 := Lib.hid hg1
  obtain ⟨p0, p1, p2, p3, p4, p5, p6, p7, p8⟩ := P1.cells9
  have e0 := P1.f 0 rfl
  have zp := P1.1
  have hmade := made_at (W := w1) (g := w1.heap.size) rfl (Nat.le_refl _)
  clear P1 Q1 hb1 XK hkb hkf0 hv1 hg1
  go_wp2_with (at_builtin; go_loud (refine app_bt rfl _ _ rfl w1.heap.size 0 _ [] rfl hmade A n c l rfl HL.out ?c1 ?c2 ?c3 ?_))
  case c1 => exact (HB.out.below HG1.out).below ((Below.refl _ _).alloc (Nat.le_refl _) _)
  case c2 => omega
  case c3 => simp
  intro v2 w2 hown2 hb2
  have HB2 : Below w1.heap.size w1 w2 := ((Below.refl _ _).alloc (Nat.le_refl _) _).trans hb2
  have hown : w2.ownsRow w1.heap.size 5 1 v2 n (l.map (Value.int .u8)) := by simpa using hown2
  obtain ⟨A1, c1, rfl, hc1, hm1, hbt, hfr, hlt⟩ := Own.bt (show Own w2 w1.heap.size v2 l by unfold Own; rw [HL.out]; exact hown)
  rw [HL.out] at hc1 hown ⊢
  have hg2 := chain HG1.out HB2
  have P2 := HP.out.below HB2
  have Q2 := HQ.out.below HB2
  have K2 := HKB1.out.below HB2
  have s2 := HB2.size
  clear p0 p1 p2 p3 p4 p5 p6 p7 p8 e0 zp hmade hown2 hb2
  obtain ⟨p0, p1, p2, p3, p4, p5, p6, p7, p8⟩ := P2.cells9
  have e0 := P2.f 0 rfl
  have zp := P2.1
  go_upto_region 3 with fail
  obtain ⟨w5, hw5⟩ : ∃ w5, w5 = w2.setCell ⟨w.heap.size, 0, none⟩ (.slice A1 n c1) := ⟨_, rfl⟩
  have P5 : Cl w.heap.size w5 [.slice A1 n c1, .int .i64 e, .int .i64 Nu, .int .i64 Bl, .int .i64 Gt, .bool true, .bool false, .int .i64 Dl, .bool false] := by rw [hw5]; exact P2.set 0 _
  have Q5 : Cl (w.heap.size + 1) w5 [.slice none 0 0, .int .i64 0, .int .i64 0, .int .i64 0, .int .i64 0, .bool false, .bool false, .int .i64 0, .bool false] := by rw [hw5]; exact Q2.far (by omega) _ _
  have B5 : Bt w5 A1 l := by
    rw [hw5]
    exact hbt.set _ (fun b o e => by have := hfr b o e; omega) _ _
  have K5 : Bt w5 KA (pad [48, Bl]) := by
    rw [hw5]
    exact K2.set _ (fun b o e => by have := HXK.out b o e; omega) _ _
  have F5 : Bt w5 F f := by
    rw [hw5]
    intro h0
    obtain ⟨bF', oF', e', hbl⟩ := HFB.out.addr h0
    exact (((HFB.out.below hg2)).set _ (fun b o e => by
      rw [e] at e'; injection e' with e'; injection e' with e1 e2
      omega) _ _) h0
  have O5 : w5.ownsRow w1.heap.size 5 1 (.slice A1 n c1) n (l.map (Value.int .u8)) := by
    rw [hw5]
    exact ownsRow_setCell_below hown (by show w.heap.size < w1.heap.size; omega) _
  have G5 : Below w.heap.size w w5 := by rw [hw5]; exact hg2.setCell (Nat.le_refl _) _
  have X5 : Fr (w.heap.size + 2) A1 := fun b o e => by have := hfr b o e; omega
  have s5 : w1.heap.size ≤ w5.heap.size := by rw [hw5]; simpa using s2
  rw [← hw5]
  clear hw5 P2 Q2 K2 hbt hfr hlt hown hg2 p0 p1 p2 p3 p4 p5 p6 p7 p8 e0 zp HP HQ HB HFB HG1 HKB1 HB2 s2
  have HB5 := Lib.hid B5
  have HO5 := Lib.hid O5
  have HG5 := Lib.hid G5
  have HX5 := Lib.hid X5
  have HK5 := Lib.hid K5
  have HQ5 := Lib.hid Q5
  have HP5 := Lib.hid P5
  obtain ⟨p0, p1, p2, p3, p4, p5, p6, p7, p8⟩ := P5.cells9
  have zp := P5.1
  have zq := Q5.1
  obtain ⟨bF, oF, rfl, hbF⟩ := F5.addr (by rw [HFL.out]; omega)
  have c0 : w5.cell? ⟨bF, oF, none⟩ = some (.int .u8 (f.getD 0 0)) := (F5.at 0 (by rw [HFL.out]; omega)).1
  have c1' := (F5.at 1 (by rw [HFL.out]; omega)).1
  rw [← HF0.out.1] at c0
  rw [← HF0.out.2] at c1'
  have HF5 := Lib.hid F5
  clear P5 Q5 B5 O5 G5 X5 K5 F5
  rw [← HF0.out.1, hll] at hx
  have hx1 : decide (Dl < t) = false := by simp; omega
  have hx2 : ((ll : Int) != Nu) = false := by simp [hx]
  have O5 := HO5.out
  obtain ⟨gA, cA, hvA, hgA0, hgA1, _, _, _⟩ := own_form O5 (by omega)
  injection hvA with hvA1 hvA2 hvA3
  subst hvA1
  subst hvA3
  clear O5 hvA2
  have wsub : IntKind.i64.wrap ((e : Int) - (n : Int)) = (e : Int) - (n : Int) := IntWalk.i64_in _ (by omega)
  have hdm : ¬ (e : Int) - (n : Int) < 7 := by omega
  have hde1 : ((d : Int) == (e : Int)) = false := by simp; omega
  have hde2 : (d == e) = false := by simp; omega
  have hde3 : ¬ d = e := by omega
  have wt : IntKind.i64.wrap (t + 1000000) = t + 1000000 := IntWalk.i64_in _ (by omega)
  go_upto_region 13 with (go_at_call 45; refine (K.out _ HF5.out).mono ?_; rintro r w6 ⟨rfl, rfl⟩)
  go_quiet (fail)
  obtain ⟨w4, hw4⟩ : ∃ wx, wx = w5.drewN nq := ⟨_, rfl⟩
  have hd4 : Below w5.heap.size w5 w4 := by rw [hw4]; exact below_drewN _ _
  have O4 : w4.ownsRow w1.heap.size 5 1 (.slice (some ⟨gA, 0, none⟩) n c1) n (l.map (Value.int .u8)) := by rw [hw4]; exact HO5.out
  have P4 := HP5.out.below hd4
  have Q4 := HQ5.out.below hd4
  have B4 := HB5.out.below hd4
  have K4 := HK5.out.below hd4
  have F4 := HF5.out.below hd4
  have G4 := chain HG5.out hd4
  have s4 : w1.heap.size ≤ w4.heap.size := by have := hd4.size; omega
  have hbF4 : bF < w4.heap.size := by have := hd4.size; omega
  rw [← hw4]
  clear hw4 hd4 p0 p1 p2 p3 p4 p5 p6 p7 p8 zp zq c0 c1' HO5 HP5 HQ5 HB5 HK5 HF5 HG5 s5 hbF
  have HO5 := Lib.hid O4
  have HP5 := Lib.hid P4
  have HQ5 := Lib.hid Q4
  have HB5 := Lib.hid B4
  have HK5 := Lib.hid K4
  have HG5 := Lib.hid G4
  have HF5 := Lib.hid F4
  obtain ⟨p0, p1, p2, p3, p4, p5, p6, p7, p8⟩ := P4.cells9
  have zp := P4.1
  have zq := Q4.1
  clear O4 P4 Q4 B4 K4 F4 G4
  go_upto_region 15 with fail
  have mw : IntKind.i64.wrap 8 = 8 := IntWalk.i64_in _ (by omega)
  have w77 : IntKind.i64.wrap 7 = 7 := IntWalk.i64_in _ (by omega)
  have m8' : (8 : Int) ≤ (cF : Int) := by omega
  have hdF : ((e : Int) - (n : Int) < 7) = False := by simp; omega
  have hln : ((f.drop 1).take 7).length = 7 := by simp [HFL.out] <;> omega
  have hnews := HF5.out.sub 1 7
  refine region_K (fun W' => W'.cell? ⟨w.heap.size, 0, none⟩ = some (.slice (some ⟨gA, 0, none⟩) n c1) ∧ W'.cell? ⟨w.heap.size, 1, none⟩ = some (.int .i64 e)) 14 (by kernel_rfl) (⟨p0, p1⟩) (fun hHeld => ?_)
  refine K_take' (i := 0) (v := ?_) rfl (by kernel_rfl) (by kernel_rfl) (by kernel_rfl) (by kernel_rfl) (fun _ _ _ h => h) (Or.inl ⟨by rfl, ?_⟩) hHeld ?_
  rotate_left 1
  · intro W8 hSw
    clear hSw
    go_simp
    all_goals with_reducible rfl
  try simp only [Act.put, List.setIfInBounds_toArray, List.set_cons_zero, List.set_cons_succ]
  refine K_take (i := 1) (v := ?_) rfl (by kernel_rfl) (by kernel_rfl) (by kernel_rfl) (by kernel_rfl) (by kernel_rfl) (fun _ _ _ h => h) (Or.inl ⟨by rfl, ?_⟩) hHeld ?_
  rotate_left 1
  · intro W8 hSw
    (try dsimp only at hSw)
    go_simp
    all_goals with_reducible rfl
  try simp only [Act.put, List.setIfInBounds_toArray, List.set_cons_zero, List.set_cons_succ]
  refine K_take' (i := 2) (v := ?_) rfl (by kernel_rfl) (by kernel_rfl) (by kernel_rfl) (by kernel_rfl) (fun _ _ _ h => h) (Or.inl ⟨by rfl, ?_⟩) hHeld ?_
  rotate_left 1
  · intro W8 hSw
    clear hSw
    go_simp
    all_goals with_reducible rfl
  try simp only [Act.put, List.setIfInBounds_toArray, List.set_cons_zero, List.set_cons_succ]
  refine K_take' (i := 3) (v := ?_) rfl (by kernel_rfl) (by kernel_rfl) (by kernel_rfl) (by kernel_rfl) (fun _ _ _ h => h) (Or.inl ⟨by rfl, ?_⟩) hHeld ?_
  rotate_left 1
  · intro W8 hSw
    clear hSw
    go_simp
    all_goals with_reducible rfl
  try simp only [Act.put, List.setIfInBounds_toArray, List.set_cons_zero, List.set_cons_succ]
  refine K_take (i := 4) (v := ?_) rfl (by kernel_rfl) (by kernel_rfl) (by kernel_rfl) (by kernel_rfl) (by kernel_rfl) (fun _ _ _ h => h) (Or.inl ⟨by rfl, ?_⟩) hHeld ?_
  rotate_left 1
  · intro W8 hSw
    (try dsimp only at hSw)
    go_simp
    all_goals with_reducible rfl
  try simp only [Act.put, List.setIfInBounds_toArray, List.set_cons_zero, List.set_cons_succ]
  refine K_take' (i := 5) (v := ?_) rfl (by kernel_rfl) (by kernel_rfl) (by kernel_rfl) (by kernel_rfl) (fun _ _ _ h => h) (Or.inl ⟨by rfl, ?_⟩) hHeld ?_
  rotate_left 1
  · intro W8 hSw
    clear hSw
    go_simp
    all_goals with_reducible rfl
  try simp only [Act.put, List.setIfInBounds_toArray, List.set_cons_zero, List.set_cons_succ]
  refine K_take (i := 6) (v := ?_) rfl (by kernel_rfl) (by kernel_rfl) (by kernel_rfl) (by kernel_rfl) (by kernel_rfl) (fun _ _ _ h => h) (Or.inl ⟨by rfl, ?_⟩) hHeld ?_
  rotate_left 1
  · intro W8 hSw
    (try dsimp only at hSw)
    go_simp
    all_goals with_reducible rfl
  try simp only [Act.put, List.setIfInBounds_toArray, List.set_cons_zero, List.set_cons_succ]
  refine K_take' (i := 7) (v := ?_) rfl (by kernel_rfl) (by kernel_rfl) (by kernel_rfl) (by kernel_rfl) (fun _ _ _ h => h) (Or.inl ⟨by rfl, ?_⟩) hHeld ?_
  rotate_left 1
  · intro W8 hSw
    clear hSw
    go_simp
    all_goals with_reducible rfl
  try simp only [Act.put, List.setIfInBounds_toArray, List.set_cons_zero, List.set_cons_succ]
  refine K_take' (i := 8) (v := ?_) rfl (by kernel_rfl) (by kernel_rfl) (by kernel_rfl) (by kernel_rfl) (fun _ _ _ h => h) (Or.inl ⟨by rfl, ?_⟩) hHeld ?_
  rotate_left 1
  · intro W8 hSw
    clear hSw
    go_simp
    all_goals with_reducible rfl
  try simp only [Act.put, List.setIfInBounds_toArray, List.set_cons_zero, List.set_cons_succ]
  refine K_take' (i := 9) (v := ?_) rfl (by kernel_rfl) (by kernel_rfl) (by kernel_rfl) (by kernel_rfl) (fun _ _ _ h => h) (Or.inl ⟨by rfl, ?_⟩) hHeld ?_
  rotate_left 1
  · intro W8 hSw
    clear hSw
    go_simp
    all_goals with_reducible rfl
  try simp only [Act.put, List.setIfInBounds_toArray, List.set_cons_zero, List.set_cons_succ]
  refine K_take' (i := 10) (v := ?_) rfl (by kernel_rfl) (by kernel_rfl) (by kernel_rfl) (by kernel_rfl) (fun _ _ _ h => h) (Or.inl ⟨by rfl, ?_⟩) hHeld ?_
  rotate_left 1
  · intro W8 hSw
    clear hSw
    go_simp
    all_goals with_reducible rfl
  try simp only [Act.put, List.setIfInBounds_toArray, List.set_cons_zero, List.set_cons_succ]
  refine K_take' (i := 11) (v := ?_) rfl (by kernel_rfl) (by kernel_rfl) (by kernel_rfl) (by kernel_rfl) (fun _ _ _ h => h) (Or.inl ⟨by rfl, ?_⟩) hHeld ?_
  rotate_left 1
  · intro W8 hSw
    clear hSw
    go_simp
    all_goals with_reducible rfl
  try simp only [Act.put, List.setIfInBounds_toArray, List.set_cons_zero, List.set_cons_succ]
  refine K_step' (i := 12) (by kernel_rfl) rfl (fun K hK => ?_)
  refine step_app (by rfl) (.tmp 88) (.tmp 98) (by rfl) w1.heap.size n _ l (by simp [Act.eval, Act.put] <;> rfl) HO5.out.drew bF (oF + 1) 7 (cF - 1) ((f.drop 1).take 7) (by simp [Act.eval, Act.put] <;> rfl) hln hnews (by omega) (by omega) s4 d hne ?_
  intro g cap w6 hgw _ hdc hbt6 hown6 hb6'
  have hPg3 : w.heap.size + 3 ≤ g := Nat.le_trans z1 hgw
  have hPg : w.heap.size < g := Nat.lt_of_lt_of_le (Nat.lt_add_of_pos_right (by decide)) hPg3
  have hQg : w.heap.size + 1 < g := Nat.lt_of_lt_of_le (Nat.add_lt_add_left (by decide) _) hPg3
  have hb6 : Below w1.heap.size w4 w6 := (show Below w1.heap.size w4 w4.drew from (Below.refl _ _).drew).trans hb6'
  have P6 := HP5.out.belowB (B := w1.heap.size) (by omega) hb6
  have Q6 := HQ5.out.belowB (B := w1.heap.size) (by omega) hb6
  refine hK.out _ _ ⟨P6.cells9.1, P6.cells9.2.1⟩ (fun hHeld2 => ?_)
  clear hK K hb6'
  try simp only [Act.put, List.setIfInBounds_toArray, List.set_cons_zero, List.set_cons_succ]
  have G6 : Below w.heap.size w w6 := HG5.out.trans (hb6.mono (by omega))
  have K6 : Bt w6 KA (pad [48, Bl]) := fun h0 => by
    obtain ⟨b, o, e, hb, hc⟩ := HK5.out h0
    have hlt := HKL.out b o e
    exact ⟨b, o, e, Nat.lt_of_lt_of_le hb hb6.size, fun i x hx => (hb6.cell (p := ⟨b, o + i, none⟩) hlt).trans (hc i x hx)⟩
  have HK6 := Lib.hid K6
  have HQ6 := Lib.hid Q6
  have HP6 := Lib.hid P6
  have HT6 := Lib.hid hbt6
  have HG6 := Lib.hid G6
  clear p0 p1 p2 p3 p4 p5 p6 p7 p8 hHeld
  have p0 := P6.c 0 rfl
  have p1 := P6.c 1 rfl
  have p2 := P6.c 2 rfl
  have p3 := P6.c 3 rfl
  have p4 := P6.c 4 rfl
  have p5 := P6.c 5 rfl
  have p6 := P6.c 6 rfl
  have p7 := P6.c 7 rfl
  have p8 := P6.c 8 rfl
  have e0 := P6.f 0 rfl
  have zp6 := P6.1
  clear P6 Q6 K6 hown6 hb6 hbt6 G6
  refine K_take' (i := 13) (v := ?_) rfl (by kernel_rfl) (by kernel_rfl) (by kernel_rfl) (by kernel_rfl) (fun _ _ _ h => h) (Or.inl ⟨by rfl, ?_⟩) hHeld2 ?_
  rotate_left 1
  · intro W8 hSw
    clear hSw
    go_simp
    all_goals with_reducible rfl
  try simp only [Act.put, List.setIfInBounds_toArray, List.set_cons_zero, List.set_cons_succ]
  clear hHeld2 hcF1 hcF2 hBG hll hrem wf0 wf1 wll
  refine K_step (by kernel_rfl) (by kernel_rfl) rfl (fun K hK => ?_)
  go_simp
  refine hK.out _ _ ?_
  clear hK K
  try simp only [Act.put, List.setIfInBounds_toArray, List.set_cons_zero, List.set_cons_succ]
  refine wpAny_done (by kernel_rfl) ?_ _
  go_upto_region 16 with fail
  have P7 := HP6.out.set 0 (.slice (some ⟨g, 0, none⟩) d cap)
  have Q7 := HQ6.out.far (b := w.heap.size) (Nat.ne_of_lt (Nat.lt_succ_self _)) 0 (.slice (some ⟨g, 0, none⟩) d cap)
  have T7 := HT6.out.setg (P := w.heap.size) hPg 0 (.slice (some ⟨g, 0, none⟩) d cap)
  have K7 := HK6.out.setF (P := w.heap.size) HXK.out (Nat.lt_add_of_pos_right (by decide)) 0 (.slice (some ⟨g, 0, none⟩) d cap)
  have G7 := HG6.out.setCell (p := ⟨w.heap.size, 0, none⟩) (Nat.le_refl _) (.slice (some ⟨g, 0, none⟩) d cap)
  obtain ⟨w7, hw7⟩ : ∃ w7, w7 = w6.setCell ⟨w.heap.size, 0, none⟩ (.slice (some ⟨g, 0, none⟩) d cap) := ⟨_, rfl⟩
  simp only [List.set_cons_zero] at P7
  rw [← hw7] at P7 Q7 T7 K7 G7 ⊢
  clear hw7 p0 p1 p2 p3 p4 p5 p6 p7 p8 e0 zp6 HP6 HQ6 HT6 HK6 HG6
  have p0 := P7.c 0 rfl
  have p1 := P7.c 1 rfl
  have p2 := P7.c 2 rfl
  have p3 := P7.c 3 rfl
  have p4 := P7.c 4 rfl
  have p5 := P7.c 5 rfl
  have p6 := P7.c 6 rfl
  have p7 := P7.c 7 rfl
  have p8 := P7.c 8 rfl
  have q0 := Q7.c 0 rfl
  have q1 := Q7.c 1 rfl
  have q2 := Q7.c 2 rfl
  have q3 := Q7.c 3 rfl
  have q4 := Q7.c 4 rfl
  have q5 := Q7.c 5 rfl
  have q6 := Q7.c 6 rfl
  have q7 := Q7.c 7 rfl
  have q8 := Q7.c 8 rfl
  have f0' := Q7.f 0 rfl
  have f1' := Q7.f 1 rfl
  have f2' := Q7.f 2 rfl
  have f3' := Q7.f 3 rfl
  have f4' := Q7.f 4 rfl
  have f5' := Q7.f 5 rfl
  have f6' := Q7.f 6 rfl
  have f7' := Q7.f 7 rfl
  have f8' := Q7.f 8 rfl
  have zq7 := Q7.1
  have zp7 := P7.1
  have HT7 := Lib.hid T7
  have HK7 := Lib.hid K7
  have HG7 := Lib.hid G7
  have HQ7 := Lib.hid Q7
  have HP7 := Lib.hid P7
  clear P7 Q7 T7 K7 G7
  have e0 := HP7.out.f 0 rfl
  have e2 := HP7.out.f 2 rfl
  have e7 := HP7.out.f 7 rfl
  go_upto_region 19 with fail
  clear hde1 hde2 hde3 hdm hdF
  have P8 := ((HP7.out.set 2 (.int .i64 ((Nu + 1) % 16))).set 7 (.int .i64 (t + 1000000)))
  have Q8 := ((HQ7.out.far (b := w.heap.size) (Nat.ne_of_lt (Nat.lt_succ_self _)) 2 (.int .i64 ((Nu + 1) % 16))).far (b := w.heap.size) (Nat.ne_of_lt (Nat.lt_succ_self _)) 7 (.int .i64 (t + 1000000)))
  have T8 := ((HT7.out.setg (P := w.heap.size) hPg 2 (.int .i64 ((Nu + 1) % 16))).setg (P := w.heap.size) hPg 7 (.int .i64 (t + 1000000)))
  have K8 := ((HK7.out.setF (P := w.heap.size) HXK.out (Nat.lt_add_of_pos_right (by decide)) 2 (.int .i64 ((Nu + 1) % 16))).setF (P := w.heap.size) HXK.out (Nat.lt_add_of_pos_right (by decide)) 7 (.int .i64 (t + 1000000)))
  have G8 := ((HG7.out.setCell (p := ⟨w.heap.size, 2, none⟩) (Nat.le_refl _) (.int .i64 ((Nu + 1) % 16))).setCell (p := ⟨w.heap.size, 7, none⟩) (Nat.le_refl _) (.int .i64 (t + 1000000)))
  simp only [List.set_cons_zero, List.set_cons_succ] at P8
  obtain ⟨w8, hw8⟩ : ∃ wx, wx = ((w7.setCell ⟨w.heap.size, 2, none⟩ (.int .i64 ((Nu + 1) % 16))).setCell ⟨w.heap.size, 7, none⟩ (.int .i64 (t + 1000000))) := ⟨_, rfl⟩
  rw [← hw8] at P8 Q8 T8 K8 G8 ⊢
  clear hw8 p0 p1 p2 p3 p4 p5 p6 p7 p8 q0 q1 q2 q3 q4 q5 q6 q7 q8 f0' f1' f2' f3' f4' f5' f6' f7' f8' HP7 HQ7 HT7 HK7 HG7 zp7 zq7
  have p0 := P8.c 0 rfl
  have p1 := P8.c 1 rfl
  have p2 := P8.c 2 rfl
  have p3 := P8.c 3 rfl
  have p4 := P8.c 4 rfl
  have p5 := P8.c 5 rfl
  have p6 := P8.c 6 rfl
  have p7 := P8.c 7 rfl
  have p8 := P8.c 8 rfl
  have e0 := P8.f 0 rfl
  have e1 := P8.f 1 rfl
  have e2 := P8.f 2 rfl
  have e3 := P8.f 3 rfl
  have e4 := P8.f 4 rfl
  have e5 := P8.f 5 rfl
  have e6 := P8.f 6 rfl
  have e7 := P8.f 7 rfl
  have e8 := P8.f 8 rfl
  have q0 := Q8.c 0 rfl
  have q1 := Q8.c 1 rfl
  have q2 := Q8.c 2 rfl
  have q3 := Q8.c 3 rfl
  have q4 := Q8.c 4 rfl
  have q5 := Q8.c 5 rfl
  have q6 := Q8.c 6 rfl
  have q7 := Q8.c 7 rfl
  have q8 := Q8.c 8 rfl
  have f0' := Q8.f 0 rfl
  have f1' := Q8.f 1 rfl
  have f2' := Q8.f 2 rfl
  have f3' := Q8.f 3 rfl
  have f4' := Q8.f 4 rfl
  have f5' := Q8.f 5 rfl
  have f6' := Q8.f 6 rfl
  have f7' := Q8.f 7 rfl
  have f8' := Q8.f 8 rfl
  have zq7 := Q8.1
  have zp7 := P8.1
  have HT7 := Lib.hid T8
  have HK7 := Lib.hid K8
  have HG7 := Lib.hid G8
  have HQ7 := Lib.hid Q8
  have HP7 := Lib.hid P8
  clear P8 Q8 T8 K8 G8
  have hB0 := HB0.out
  subst hB0
  go_wp2_with fail
  refine bodyPost_ret (v := .tuple #[.agg #[.slice (some ⟨g, 0, none⟩) d cap, .int .i64 e, .int .i64 ((Nu + 1) % 16), .int .i64 0, .int .i64 Gt, .bool true, .bool false, .int .i64 (t + 1000000), .bool false], .slice none 0 0, .int .i64 0]) (by simp [results, Try.results25, go_sem, q0, q1, q2, q3, q4, q5, q6, q7, q8, zq7] <;> first | rfl | ((repeat' apply And.intro) <;> rfl)) rfl ⟨some ⟨g, 0, none⟩, d, cap, none, 0, 0, rfl, by simp [HL.out, HFL.out] <;> first | exact hne.symm | omega, hdc, ?_, ?_, rfl, by omega, Bt.nil _ _, Fr.none _, below_set9 HG7.out (Nat.le_succ _) _ _ _ _ _ _ _ _ _⟩
  · first
    | exact HT7.out.set9g hQg _ _ _ _ _ _ _ _ _
    | exact (show Bt _ _ (l ++ List.take 7 f.tail) by have hT := HT7.out; rw [List.drop_one] at hT; exact hT).set9g hQg _ _ _ _ _ _ _ _ _
  · exact fr_at (Nat.le_of_lt hPg)
end Go.Proofs.Ytfjeediecmhedaa
