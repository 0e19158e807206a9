/-
  The reference's Next of the last frame of a block. No condition but the slice's shape.
-/
import Derived.Test.YtfjeediecmhedaaNext0
import Derived.Test.YtfjeediecmhedaaHeld3
import Derived.Test.YtfjeediecmhedaaRSend
set_option linter.unusedVariables false
set_option linter.unusedSimpArgs false
namespace Go.Proofs.Ytfjeediecmhedaa
open Go.RowKit
set_option maxRecDepth 100000 in
set_option maxHeartbeats 16000000 in
theorem rnext31_block (A : Option Addr) (n c a : Nat) (Nu Bl Se Gp Dl : Int) (l : List Int) (t : Int) (w : World) (hl : l.length = n) (hb : Bt w A l) (hc : n ≤ c) (hv : vS n a Nu Bl Se false Gp Dl false = true) (ht : timeB t = true) (ha : a < n) (hd : Dl ≤ t) (e : Nat) (hee : a + 7 = e) (hen : e < n) (hB0 : Bl ≠ 0) (hS : Se + 1 = Bl) :
    Calls Try.prog 31 #[.agg #[.slice A n c, .int .i64 a, .int .i64 Nu, .int .i64 Bl, .int .i64 Se, .bool false, .int .i64 Gp, .int .i64 Dl, .bool false], .int .i64 t] w (S3 ⟨l, e, (Nu + 1) % 16, Bl, 0, true, Gp, t + 1000000, false⟩ (pad ((32 + Nu) :: (l.drop a).take 7)) 0 w) := by
  have HB0 := Lib.hid hB0
  have HS := Lib.hid hS
  clear hB0 hS
  obtain ⟨n0, n1, B0, B1, E0, E1, hBE, N0, N1, G0, G1, D0, D1, hAt⟩ := vS_gen hv
  obtain ⟨t0, t1⟩ := inB_t (show inB t 0 1099511627776 = true from ht)
  have wt : IntKind.i64.wrap (t + 1000000) = t + 1000000 := IntWalk.i64_in _ (by omega)
  have wg : IntKind.i64.wrap (1000 * Gp) = 1000 * Gp := IntWalk.i64_in _ (by omega)
  have wtg : IntKind.i64.wrap (t + 1000 * Gp) = t + 1000 * Gp := IntWalk.i64_in _ (by omega)
  have wa : IntKind.i64.wrap ((a : Int) + 7) = (a : Int) + 7 := IntWalk.i64_in _ (by omega)
  have wse : IntKind.i64.wrap (Se + 1) = Se + 1 := IntWalk.i64_in _ (by omega)
  have wo : bits .or .i64 32 Nu = 32 + Nu := i64_or16 (a := 2) (by omega) (by omega) N0 N1
  have wu : IntKind.u8.wrap (32 + Nu) = 32 + Nu := u8_of (by omega) (by omega)
  have w32 : IntKind.i64.wrap (32 + Nu) = 32 + Nu := IntWalk.i64_in _ (by omega)
  have hx : ((a : Int) == (n : Int)) = false := by simp; omega
  have hdd : decide (t < Dl) = false := by simp; omega
  have hlc : 0 < l.length := by omega
  clear hBE hAt
  have hlR := hl
  have HL := Lib.hid hl
  have HB := Lib.hid hb
  clear hl hb hv ht
  have hae : (a : Int) ≤ (e : Int) := by omega
  have HMIN : Hid ((a : Int) + 7 = (e : Int)) := Lib.hid (by omega)
  have wre : IntKind.i64.wrap (e : Int) = (e : Int) := IntWalk.i64_in _ (by omega)
  have hne0 : ¬ (n : Int) < (e : Int) := by omega
  obtain ⟨d, hde⟩ : ∃ d, 1 + (e - a) = d := ⟨_, rfl⟩
  have hd8 : d ≤ 8 := by omega
  have hea : a < e := by omega
  have hln : ((l.drop a).take (e - a)).length = e - a := by simp [hlR] <;> omega
  have HEA : Hid (e - a = 7) := Lib.hid (by omega)
  have hen0 : ((e : Int) == (n : Int)) = false := by simp; omega
  clear hee hlR
  obtain ⟨bA, oA, rfl, hbA⟩ := HB.out.addr hlc
  go_enter Try.func31, Try.ntmps31
  go_upto_region 5 with fail
  have P5 := (Cl.new (w := w) rfl [.slice (some ⟨bA, oA, none⟩) n c, .int .i64 a, .int .i64 Nu, .int .i64 Bl, .int .i64 Se, .bool false, .int .i64 Gp, .int .i64 Dl, .bool false] 40).below ((Below.refl _ _).alloc (Nat.le_refl _) (.cells #[.slice none 0 0, .int .i64 0, .int .i64 0, .int .i64 0, .int .i64 0, .bool false, .int .i64 0, .int .i64 0, .bool false] 40))
  have Q5 := Cl.new (P := w.heap.size + 1) (w := w.alloc (.cells #[.slice (some ⟨bA, oA, none⟩) n c, .int .i64 a, .int .i64 Nu, .int .i64 Bl, .int .i64 Se, .bool false, .int .i64 Gp, .int .i64 Dl, .bool false] 40)) (by simp) [.slice none 0 0, .int .i64 0, .int .i64 0, .int .i64 0, .int .i64 0, .bool false, .int .i64 0, .int .i64 0, .bool false] 40
  have G5 : Below w.heap.size w ((w.alloc (.cells #[.slice (some ⟨bA, oA, none⟩) n c, .int .i64 a, .int .i64 Nu, .int .i64 Bl, .int .i64 Se, .bool false, .int .i64 Gp, .int .i64 Dl, .bool false] 40)).alloc (.cells #[.slice none 0 0, .int .i64 0, .int .i64 0, .int .i64 0, .int .i64 0, .bool false, .int .i64 0, .int .i64 0, .bool false] 40)) := by go_grown
  have T5 := HB.out.below G5
  obtain ⟨w5, hw5⟩ : ∃ wx, wx = (w.alloc (.cells #[.slice (some ⟨bA, oA, none⟩) n c, .int .i64 a, .int .i64 Nu, .int .i64 Bl, .int .i64 Se, .bool false, .int .i64 Gp, .int .i64 Dl, .bool false] 40)).alloc (.cells #[.slice none 0 0, .int .i64 0, .int .i64 0, .int .i64 0, .int .i64 0, .bool false, .int .i64 0, .int .i64 0, .bool false] 40) := ⟨_, rfl⟩
  rw [← hw5] at P5 Q5 T5 G5 ⊢
  clear hw5 hx hdd
  have p0 := P5.c 0 rfl
  have p1 := P5.c 1 rfl
  have p2 := P5.c 2 rfl
  have p3 := P5.c 3 rfl
  have p4 := P5.c 4 rfl
  have p5 := P5.c 5 rfl
  have p6 := P5.c 6 rfl
  have p7 := P5.c 7 rfl
  have p8 := P5.c 8 rfl
  have zp := P5.1
  have zq := Q5.1
  have HP5 := Lib.hid P5
  have HQ5 := Lib.hid Q5
  have HT5 := Lib.hid T5
  have HG5 := Lib.hid G5
  clear P5 Q5 T5 G5
  have hec : (e : Int) ≤ (c : Int) := by omega
  have hca : ¬ c = a := by omega
  have hmin := HMIN.out
  go_upto_region 6 with fail
  clear hmin
  refine region_K (fun W' => (∀ b o, b < w5.heap.size → W'.cell? ⟨b, o, none⟩ = w5.cell? ⟨b, o, none⟩) ∧ Below w5.heap.size w5 W') 13 (by kernel_rfl) (Kp.mk (Below.refl _ _).drew) (fun hHeld => ?_)
  refine K_take' (i := 0) (v := ?_) rfl (by kernel_rfl) (by kernel_rfl) (by kernel_rfl) (by kernel_rfl) (fun _ _ _ h => h) (Or.inl ⟨by kernel_rfl, ?_⟩) hHeld ?_
  rotate_left 1
  · intro W8 hSw
    clear hSw
    go_simp
    all_goals with_reducible rfl
  try simp only [Act.put, List.setIfInBounds_toArray, List.set_cons_zero, List.set_cons_succ]
  refine K_takeD (i := 1) (v := ?_) rfl (by kernel_rfl) (by kernel_rfl) (by kernel_rfl) (by kernel_rfl) (by kernel_rfl) (fun _ _ _ h => h) (Or.inl ⟨by kernel_rfl, ?_⟩) hHeld ?_
  rotate_left 1
  · intro W8 hSw
    (try dsimp only at hSw)
    go_simp
    all_goals with_reducible rfl
  try simp only [Act.put, List.setIfInBounds_toArray, List.set_cons_zero, List.set_cons_succ]
  refine K_take' (i := 2) (v := ?_) rfl (by kernel_rfl) (by kernel_rfl) (by kernel_rfl) (by kernel_rfl) (fun _ _ _ h => h) (Or.inl ⟨by kernel_rfl, ?_⟩) hHeld ?_
  rotate_left 1
  · intro W8 hSw
    clear hSw
    go_simp
    all_goals with_reducible rfl
  try simp only [Act.put, List.setIfInBounds_toArray, List.set_cons_zero, List.set_cons_succ]
  refine K_take' (i := 3) (v := ?_) rfl (by kernel_rfl) (by kernel_rfl) (by kernel_rfl) (by kernel_rfl) (fun _ _ _ h => h) (Or.inl ⟨by kernel_rfl, ?_⟩) hHeld ?_
  rotate_left 1
  · intro W8 hSw
    clear hSw
    go_simp
    all_goals with_reducible rfl
  try simp only [Act.put, List.setIfInBounds_toArray, List.set_cons_zero, List.set_cons_succ]
  refine K_take' (i := 5) (v := ?_) rfl (by kernel_rfl) (by kernel_rfl) (by kernel_rfl) (by kernel_rfl) (fun _ _ _ h => h) (Or.inl ⟨by kernel_rfl, ?_⟩) hHeld ?_
  rotate_left 1
  · intro W8 hSw
    clear hSw
    go_simp
    all_goals with_reducible rfl
  try simp only [Act.put, List.setIfInBounds_toArray, List.set_cons_zero, List.set_cons_succ]
  refine K_takeD (i := 6) (v := ?_) rfl (by kernel_rfl) (by kernel_rfl) (by kernel_rfl) (by kernel_rfl) (by kernel_rfl) (fun _ _ _ h => h) (Or.inl ⟨by kernel_rfl, ?_⟩) hHeld ?_
  rotate_left 1
  · intro W8 hSw
    (try dsimp only at hSw)
    go_simp
    all_goals with_reducible rfl
  try simp only [Act.put, List.setIfInBounds_toArray, List.set_cons_zero, List.set_cons_succ]
  refine K_take' (i := 7) (v := ?_) rfl (by kernel_rfl) (by kernel_rfl) (by kernel_rfl) (by kernel_rfl) (fun _ _ _ h => h) (Or.inl ⟨by kernel_rfl, ?_⟩) hHeld ?_
  rotate_left 1
  · intro W8 hSw
    clear hSw
    go_simp
    all_goals with_reducible rfl
  try simp only [Act.put, List.setIfInBounds_toArray, List.set_cons_zero, List.set_cons_succ]
  refine K_takeD (i := 8) (v := ?_) rfl (by kernel_rfl) (by kernel_rfl) (by kernel_rfl) (by kernel_rfl) (by kernel_rfl) (fun _ _ _ h => h) (Or.inl ⟨by kernel_rfl, ?_⟩) hHeld ?_
  rotate_left 1
  · intro W8 hSw
    (try dsimp only at hSw)
    go_simp
    all_goals with_reducible rfl
  try simp only [Act.put, List.setIfInBounds_toArray, List.set_cons_zero, List.set_cons_succ]
  refine K_take' (i := 9) (v := ?_) rfl (by kernel_rfl) (by kernel_rfl) (by kernel_rfl) (by kernel_rfl) (fun _ _ _ h => h) (Or.inl ⟨by kernel_rfl, ?_⟩) hHeld ?_
  rotate_left 1
  · intro W8 hSw
    clear hSw
    go_simp
    all_goals with_reducible rfl
  try simp only [Act.put, List.setIfInBounds_toArray, List.set_cons_zero, List.set_cons_succ]
  refine K_take' (i := 10) (v := ?_) rfl (by kernel_rfl) (by kernel_rfl) (by kernel_rfl) (by kernel_rfl) (fun _ _ _ h => h) (Or.inl ⟨by kernel_rfl, ?_⟩) hHeld ?_
  rotate_left 1
  · intro W8 hSw
    clear hSw
    go_simp
    all_goals with_reducible rfl
  try simp only [Act.put, List.setIfInBounds_toArray, List.set_cons_zero, List.set_cons_succ]
  refine K_step' (i := 4) (by kernel_rfl) rfl (fun K hK => ?_)
  go_simp
  refine hK.out _ _ (Kp.mk (show Below w5.heap.size w5 _ from ((Below.refl _ _).alloc (Nat.le_refl _) _).drew)) (fun hHeld2 => ?_)
  clear hK K
  try simp only [Act.put, List.setIfInBounds_toArray, List.set_cons_zero, List.set_cons_succ]
  have hownA := (own_build (w := w5) (base := w5.heap.size) rfl (Nat.le_refl _) [.int .u8 (32 + Nu)] 1 rfl (by simp [maxLen])).drew
  have hbW : Below w5.heap.size w5 (w5.alloc (.cells [Value.int .u8 (32 + Nu)].toArray 5)).drew := ((Below.refl _ _).alloc (Nat.le_refl _) _).drew
  refine K_step' (i := 11) (by kernel_rfl) rfl (fun K hK => ?_)
  refine step_app (by rfl) (.tmp 40) (.tmp 46) (by rfl) w5.heap.size 1 _ [32 + Nu] (by simp [Act.eval, Act.put] <;> rfl) hownA bA (oA + a) (e - a) (c - a) ((l.drop a).take (e - a)) (by simp [Act.eval, Act.put] <;> rfl) hln ((HT5.out.sub a (e - a)).below hbW) (by omega) (by omega) hbW.size d hde ?_
  intro g cap w6 hg0 _ hdc hbt6 _ hb6'
  have hb6 : Below w5.heap.size w5 w6 := hbW.trans hb6'
  refine hK.out _ _ (Kp.mk hb6) (fun hHeld3 => ?_)
  clear hK K
  try simp only [Act.put, List.setIfInBounds_toArray, List.set_cons_zero, List.set_cons_succ]
  refine K_step' (i := 12) (by kernel_rfl) rfl (fun K hK => ?_)
  go_simp
  refine (frame40 ⟨g, 0, none⟩ d cap ((32 + Nu) :: (l.drop a).take (e - a)) _ (by rw [List.length_cons, hln, Nat.add_comm]; exact hde) hbt6 hd8).mono ?_
  rintro r w7 ⟨v5, rfl, hv5, hb7'⟩
  have hpl : (pad ((32 + Nu) :: (l.drop a).take (e - a))).length = 8 := pad_len (by rw [List.length_cons, hln]; omega)
  obtain ⟨KA, kc, rfl, hkc, _, hkb, hkf, _⟩ := hv5.bt
  obtain ⟨k, ok, rfl, _⟩ := hkb.addr (by rw [hpl]; decide)
  have hok : ok = 0 := own_off hv5 (by rw [hpl]; decide)
  subst hok
  rw [hpl] at hkc ⊢
  have hk0 : w6.heap.size ≤ k := hkf _ _ rfl
  have hb7 : Below w5.heap.size w5 w7 := hb6.trans (hb7'.mono hb6.size)
  refine hK.out _ _ (Kp.mk hb7) (fun hHeld4 => ?_)
  clear hK K hpl hv5 hkf
  try simp only [Act.put, List.setIfInBounds_toArray, List.set_cons_zero, List.set_cons_succ]
  have P7 := HP5.out.below hb7
  have Q7 := HQ5.out.below hb7
  have T7 := HT5.out.below hb7
  have G7 := chain HG5.out hb7
  have K7 := hkb
  have hPk : w.heap.size < k := Nat.lt_of_lt_of_le zp (Nat.le_trans hb6.size hk0)
  have hQk : w.heap.size + 1 < k := Nat.lt_of_lt_of_le zq (Nat.le_trans hb6.size hk0)
  clear hHeld hHeld2 hHeld3 hHeld4 p0 p1 p2 p3 p4 p5 p6 p7 p8 zp zq hownA hbW hbt6 hb6' hb6 hb7 hb7' hk0 hkb HP5 HQ5 HT5 HG5 hca
  refine K_step (by kernel_rfl) (by kernel_rfl) rfl (fun K hK => ?_)
  go_simp
  refine hK.out _ _ ?_
  clear hK K
  try simp only [Act.put, List.setIfInBounds_toArray, List.set_cons_zero, List.set_cons_succ]
  refine wpAny_done (by kernel_rfl) ?_ _
  have p0 := P7.c 0 rfl
  have p1 := P7.c 1 rfl
  have p2 := P7.c 2 rfl
  have p3 := P7.c 3 rfl
  have p4 := P7.c 4 rfl
  have p5 := P7.c 5 rfl
  have p6 := P7.c 6 rfl
  have p7 := P7.c 7 rfl
  have p8 := P7.c 8 rfl
  have e0 := P7.f 0 rfl
  have e1 := P7.f 1 rfl
  have e2 := P7.f 2 rfl
  have e3 := P7.f 3 rfl
  have e4 := P7.f 4 rfl
  have e5 := P7.f 5 rfl
  have e6 := P7.f 6 rfl
  have e7 := P7.f 7 rfl
  have e8 := P7.f 8 rfl
  have q0 := Q7.c 0 rfl
  have q1 := Q7.c 1 rfl
  have q2 := Q7.c 2 rfl
  have q3 := Q7.c 3 rfl
  have q4 := Q7.c 4 rfl
  have q5 := Q7.c 5 rfl
  have q6 := Q7.c 6 rfl
  have q7 := Q7.c 7 rfl
  have q8 := Q7.c 8 rfl
  have f0' := Q7.f 0 rfl
  have f1' := Q7.f 1 rfl
  have f2' := Q7.f 2 rfl
  have f3' := Q7.f 3 rfl
  have f4' := Q7.f 4 rfl
  have f5' := Q7.f 5 rfl
  have f6' := Q7.f 6 rfl
  have f7' := Q7.f 7 rfl
  have f8' := Q7.f 8 rfl
  have zq7 := Q7.1
  have zp7 := P7.1
  have HT7 := Lib.hid T7
  have HK7 := Lib.hid K7
  have HG7 := Lib.hid G7
  have HQ7 := Lib.hid Q7
  have HP7 := Lib.hid P7
  clear P7 Q7 T7 K7 G7
  have hmade := made_at (W := w7) (g := w7.heap.size) rfl (Nat.le_refl _)
  have zw7 : w.heap.size + 1 < w7.heap.size := HQ7.out.1
  go_wp2_with (at_builtin; go_loud (refine app_bt rfl _ _ rfl w7.heap.size 0 _ [] rfl hmade (some ⟨bA, oA, none⟩) n c l rfl HL.out ?c1 ?c2 ?c3 ?_))
  case c1 => exact HT7.out.below ((Below.refl _ _).alloc (Nat.le_refl _) _)
  case c2 => omega
  try (case c3 => simp)
  intro v2 w8 hown2 hb8'
  have hb8 : Below w7.heap.size w7 w8 := ((Below.refl _ _).alloc (Nat.le_refl _) _).trans hb8'
  have hown : w8.ownsRow w7.heap.size 5 1 v2 n (l.map (Value.int .u8)) := by simpa using hown2
  have hown' : Own w8 w7.heap.size v2 l := by unfold Own; rw [HL.out]; exact hown
  obtain ⟨A1, c1, rfl, hc1, hm1, hbt, hfr, hlt⟩ := hown'.bt
  obtain ⟨gA, oA', rfl, hgA⟩ := hbt.addr hlc
  have hoA : oA' = 0 := own_off hown' hlc
  subst hoA
  rw [HL.out] at hc1 ⊢
  have hgA0 : w7.heap.size ≤ gA := hfr _ _ rfl
  have hPg : w.heap.size < gA := Nat.lt_of_lt_of_le HP7.out.1 hgA0
  have hQg : w.heap.size + 1 < gA := Nat.lt_of_lt_of_le HQ7.out.1 hgA0
  have P8 := HP7.out.below hb8
  have Q8 := HQ7.out.below hb8
  have T8 := hbt
  have K8 := HK7.out.below hb8
  have G8 := chain HG7.out hb8
  clear hb8 hb8' hown2 hown hown' hbt hfr hlt hmade p0 p1 p2 p3 p4 p5 p6 p7 p8 e0 e1 e2 e3 e4 e5 e6 e7 e8 q0 q1 q2 q3 q4 q5 q6 q7 q8 f0' f1' f2' f3' f4' f5' f6' f7' f8' HP7 HQ7 HT7 HK7 HG7 zp7 zq7
  have p0 := P8.c 0 rfl
  have p1 := P8.c 1 rfl
  have p2 := P8.c 2 rfl
  have p3 := P8.c 3 rfl
  have p4 := P8.c 4 rfl
  have p5 := P8.c 5 rfl
  have p6 := P8.c 6 rfl
  have p7 := P8.c 7 rfl
  have p8 := P8.c 8 rfl
  have e0 := P8.f 0 rfl
  have e1 := P8.f 1 rfl
  have e2 := P8.f 2 rfl
  have e3 := P8.f 3 rfl
  have e4 := P8.f 4 rfl
  have e5 := P8.f 5 rfl
  have e6 := P8.f 6 rfl
  have e7 := P8.f 7 rfl
  have e8 := P8.f 8 rfl
  have q0 := Q8.c 0 rfl
  have q1 := Q8.c 1 rfl
  have q2 := Q8.c 2 rfl
  have q3 := Q8.c 3 rfl
  have q4 := Q8.c 4 rfl
  have q5 := Q8.c 5 rfl
  have q6 := Q8.c 6 rfl
  have q7 := Q8.c 7 rfl
  have q8 := Q8.c 8 rfl
  have f0' := Q8.f 0 rfl
  have f1' := Q8.f 1 rfl
  have f2' := Q8.f 2 rfl
  have f3' := Q8.f 3 rfl
  have f4' := Q8.f 4 rfl
  have f5' := Q8.f 5 rfl
  have f6' := Q8.f 6 rfl
  have f7' := Q8.f 7 rfl
  have f8' := Q8.f 8 rfl
  have zq7 := Q8.1
  have zp7 := P8.1
  have HT7 := Lib.hid T8
  have HK7 := Lib.hid K8
  have HG7 := Lib.hid G8
  have HQ7 := Lib.hid Q8
  have HP7 := Lib.hid P8
  clear P8 Q8 T8 K8 G8
  go_upto_region 11 with fail
  have P8 := ((((HP7.out.set 0 (.slice (some ⟨gA, 0, none⟩) n c1)).set 1 (.int .i64 e)).set 2 (.int .i64 ((Nu + 1) % 16))).set 7 (.int .i64 (t + 1000 * Gp)))
  have Q8 := ((((HQ7.out.far (b := w.heap.size) (Nat.ne_of_lt (Nat.lt_succ_self _)) 0 (.slice (some ⟨gA, 0, none⟩) n c1)).far (b := w.heap.size) (Nat.ne_of_lt (Nat.lt_succ_self _)) 1 (.int .i64 e)).far (b := w.heap.size) (Nat.ne_of_lt (Nat.lt_succ_self _)) 2 (.int .i64 ((Nu + 1) % 16))).far (b := w.heap.size) (Nat.ne_of_lt (Nat.lt_succ_self _)) 7 (.int .i64 (t + 1000 * Gp)))
  have T8 := ((((HT7.out.setg (P := w.heap.size) hPg 0 (.slice (some ⟨gA, 0, none⟩) n c1)).setg (P := w.heap.size) hPg 1 (.int .i64 e)).setg (P := w.heap.size) hPg 2 (.int .i64 ((Nu + 1) % 16))).setg (P := w.heap.size) hPg 7 (.int .i64 (t + 1000 * Gp)))
  have K8 := ((((HK7.out.setg (P := w.heap.size) hPk 0 (.slice (some ⟨gA, 0, none⟩) n c1)).setg (P := w.heap.size) hPk 1 (.int .i64 e)).setg (P := w.heap.size) hPk 2 (.int .i64 ((Nu + 1) % 16))).setg (P := w.heap.size) hPk 7 (.int .i64 (t + 1000 * Gp)))
  have G8 := ((((HG7.out.setCell (p := ⟨w.heap.size, 0, none⟩) (Nat.le_refl _) (.slice (some ⟨gA, 0, none⟩) n c1)).setCell (p := ⟨w.heap.size, 1, none⟩) (Nat.le_refl _) (.int .i64 e)).setCell (p := ⟨w.heap.size, 2, none⟩) (Nat.le_refl _) (.int .i64 ((Nu + 1) % 16))).setCell (p := ⟨w.heap.size, 7, none⟩) (Nat.le_refl _) (.int .i64 (t + 1000 * Gp)))
  simp only [List.set_cons_zero, List.set_cons_succ] at P8
  obtain ⟨w9, hw8⟩ : ∃ wx, wx = ((((w8.setCell ⟨w.heap.size, 0, none⟩ (.slice (some ⟨gA, 0, none⟩) n c1)).setCell ⟨w.heap.size, 1, none⟩ (.int .i64 e)).setCell ⟨w.heap.size, 2, none⟩ (.int .i64 ((Nu + 1) % 16))).setCell ⟨w.heap.size, 7, none⟩ (.int .i64 (t + 1000 * Gp))) := ⟨_, rfl⟩
  rw [← hw8] at P8 Q8 T8 K8 G8 ⊢
  clear hw8 p0 p1 p2 p3 p4 p5 p6 p7 p8 e0 e1 e2 e3 e4 e5 e6 e7 e8 q0 q1 q2 q3 q4 q5 q6 q7 q8 f0' f1' f2' f3' f4' f5' f6' f7' f8' HP7 HQ7 HT7 HK7 HG7 zp7 zq7
  have p0 := P8.c 0 rfl
  have p1 := P8.c 1 rfl
  have p2 := P8.c 2 rfl
  have p3 := P8.c 3 rfl
  have p4 := P8.c 4 rfl
  have p5 := P8.c 5 rfl
  have p6 := P8.c 6 rfl
  have p7 := P8.c 7 rfl
  have p8 := P8.c 8 rfl
  have e0 := P8.f 0 rfl
  have e1 := P8.f 1 rfl
  have e2 := P8.f 2 rfl
  have e3 := P8.f 3 rfl
  have e4 := P8.f 4 rfl
  have e5 := P8.f 5 rfl
  have e6 := P8.f 6 rfl
  have e7 := P8.f 7 rfl
  have e8 := P8.f 8 rfl
  have q0 := Q8.c 0 rfl
  have q1 := Q8.c 1 rfl
  have q2 := Q8.c 2 rfl
  have q3 := Q8.c 3 rfl
  have q4 := Q8.c 4 rfl
  have q5 := Q8.c 5 rfl
  have q6 := Q8.c 6 rfl
  have q7 := Q8.c 7 rfl
  have q8 := Q8.c 8 rfl
  have f0' := Q8.f 0 rfl
  have f1' := Q8.f 1 rfl
  have f2' := Q8.f 2 rfl
  have f3' := Q8.f 3 rfl
  have f4' := Q8.f 4 rfl
  have f5' := Q8.f 5 rfl
  have f6' := Q8.f 6 rfl
  have f7' := Q8.f 7 rfl
  have f8' := Q8.f 8 rfl
  have zq7 := Q8.1
  have zp7 := P8.1
  have HT7 := Lib.hid T8
  have HK7 := Lib.hid K8
  have HG7 := Lib.hid G8
  have HQ7 := Lib.hid Q8
  have HP7 := Lib.hid P8
  clear P8 Q8 T8 K8 G8
  have hB1 : (Bl != 0) = true := by have := HB0.out; simp [this]
  have hB2 : (Bl == 0) = false := by have := HB0.out; simp [this]
  have hS1 : ((Se + 1) == Bl) = true := by have := HS.out; simp [this]
  go_upto_region 15 with fail
  have P8 := (HP7.out.set 4 (.int .i64 (Se + 1)))
  have Q8 := (HQ7.out.far (b := w.heap.size) (Nat.ne_of_lt (Nat.lt_succ_self _)) 4 (.int .i64 (Se + 1)))
  have T8 := (HT7.out.setg (P := w.heap.size) hPg 4 (.int .i64 (Se + 1)))
  have K8 := (HK7.out.setg (P := w.heap.size) hPk 4 (.int .i64 (Se + 1)))
  have G8 := (HG7.out.setCell (p := ⟨w.heap.size, 4, none⟩) (Nat.le_refl _) (.int .i64 (Se + 1)))
  simp only [List.set_cons_zero, List.set_cons_succ] at P8
  obtain ⟨w10, hw8⟩ : ∃ wx, wx = (w9.setCell ⟨w.heap.size, 4, none⟩ (.int .i64 (Se + 1))) := ⟨_, rfl⟩
  rw [← hw8] at P8 Q8 T8 K8 G8 ⊢
  clear hw8 p0 p1 p2 p3 p4 p5 p6 p7 p8 e0 e1 e2 e3 e4 e5 e6 e7 e8 q0 q1 q2 q3 q4 q5 q6 q7 q8 f0' f1' f2' f3' f4' f5' f6' f7' f8' HP7 HQ7 HT7 HK7 HG7 zp7 zq7
  have p0 := P8.c 0 rfl
  have p1 := P8.c 1 rfl
  have p2 := P8.c 2 rfl
  have p3 := P8.c 3 rfl
  have p4 := P8.c 4 rfl
  have p5 := P8.c 5 rfl
  have p6 := P8.c 6 rfl
  have p7 := P8.c 7 rfl
  have p8 := P8.c 8 rfl
  have e0 := P8.f 0 rfl
  have e1 := P8.f 1 rfl
  have e2 := P8.f 2 rfl
  have e3 := P8.f 3 rfl
  have e4 := P8.f 4 rfl
  have e5 := P8.f 5 rfl
  have e6 := P8.f 6 rfl
  have e7 := P8.f 7 rfl
  have e8 := P8.f 8 rfl
  have q0 := Q8.c 0 rfl
  have q1 := Q8.c 1 rfl
  have q2 := Q8.c 2 rfl
  have q3 := Q8.c 3 rfl
  have q4 := Q8.c 4 rfl
  have q5 := Q8.c 5 rfl
  have q6 := Q8.c 6 rfl
  have q7 := Q8.c 7 rfl
  have q8 := Q8.c 8 rfl
  have f0' := Q8.f 0 rfl
  have f1' := Q8.f 1 rfl
  have f2' := Q8.f 2 rfl
  have f3' := Q8.f 3 rfl
  have f4' := Q8.f 4 rfl
  have f5' := Q8.f 5 rfl
  have f6' := Q8.f 6 rfl
  have f7' := Q8.f 7 rfl
  have f8' := Q8.f 8 rfl
  have zq7 := Q8.1
  have zp7 := P8.1
  have HT7 := Lib.hid T8
  have HK7 := Lib.hid K8
  have HG7 := Lib.hid G8
  have HQ7 := Lib.hid Q8
  have HP7 := Lib.hid P8
  clear P8 Q8 T8 K8 G8
  go_upto_region 17 with fail
  have P8 := (((HP7.out.set 4 (.int .i64 0)).set 5 (.bool true)).set 7 (.int .i64 (t + 1000000)))
  have Q8 := (((HQ7.out.far (b := w.heap.size) (Nat.ne_of_lt (Nat.lt_succ_self _)) 4 (.int .i64 0)).far (b := w.heap.size) (Nat.ne_of_lt (Nat.lt_succ_self _)) 5 (.bool true)).far (b := w.heap.size) (Nat.ne_of_lt (Nat.lt_succ_self _)) 7 (.int .i64 (t + 1000000)))
  have T8 := (((HT7.out.setg (P := w.heap.size) hPg 4 (.int .i64 0)).setg (P := w.heap.size) hPg 5 (.bool true)).setg (P := w.heap.size) hPg 7 (.int .i64 (t + 1000000)))
  have K8 := (((HK7.out.setg (P := w.heap.size) hPk 4 (.int .i64 0)).setg (P := w.heap.size) hPk 5 (.bool true)).setg (P := w.heap.size) hPk 7 (.int .i64 (t + 1000000)))
  have G8 := (((HG7.out.setCell (p := ⟨w.heap.size, 4, none⟩) (Nat.le_refl _) (.int .i64 0)).setCell (p := ⟨w.heap.size, 5, none⟩) (Nat.le_refl _) (.bool true)).setCell (p := ⟨w.heap.size, 7, none⟩) (Nat.le_refl _) (.int .i64 (t + 1000000)))
  simp only [List.set_cons_zero, List.set_cons_succ] at P8
  obtain ⟨w11, hw8⟩ : ∃ wx, wx = (((w10.setCell ⟨w.heap.size, 4, none⟩ (.int .i64 0)).setCell ⟨w.heap.size, 5, none⟩ (.bool true)).setCell ⟨w.heap.size, 7, none⟩ (.int .i64 (t + 1000000))) := ⟨_, rfl⟩
  rw [← hw8] at P8 Q8 T8 K8 G8 ⊢
  clear hw8 p0 p1 p2 p3 p4 p5 p6 p7 p8 e0 e1 e2 e3 e4 e5 e6 e7 e8 q0 q1 q2 q3 q4 q5 q6 q7 q8 f0' f1' f2' f3' f4' f5' f6' f7' f8' HP7 HQ7 HT7 HK7 HG7 zp7 zq7
  have p0 := P8.c 0 rfl
  have p1 := P8.c 1 rfl
  have p2 := P8.c 2 rfl
  have p3 := P8.c 3 rfl
  have p4 := P8.c 4 rfl
  have p5 := P8.c 5 rfl
  have p6 := P8.c 6 rfl
  have p7 := P8.c 7 rfl
  have p8 := P8.c 8 rfl
  have e0 := P8.f 0 rfl
  have e1 := P8.f 1 rfl
  have e2 := P8.f 2 rfl
  have e3 := P8.f 3 rfl
  have e4 := P8.f 4 rfl
  have e5 := P8.f 5 rfl
  have e6 := P8.f 6 rfl
  have e7 := P8.f 7 rfl
  have e8 := P8.f 8 rfl
  have q0 := Q8.c 0 rfl
  have q1 := Q8.c 1 rfl
  have q2 := Q8.c 2 rfl
  have q3 := Q8.c 3 rfl
  have q4 := Q8.c 4 rfl
  have q5 := Q8.c 5 rfl
  have q6 := Q8.c 6 rfl
  have q7 := Q8.c 7 rfl
  have q8 := Q8.c 8 rfl
  have f0' := Q8.f 0 rfl
  have f1' := Q8.f 1 rfl
  have f2' := Q8.f 2 rfl
  have f3' := Q8.f 3 rfl
  have f4' := Q8.f 4 rfl
  have f5' := Q8.f 5 rfl
  have f6' := Q8.f 6 rfl
  have f7' := Q8.f 7 rfl
  have f8' := Q8.f 8 rfl
  have zq7 := Q8.1
  have zp7 := P8.1
  have HT7 := Lib.hid T8
  have HK7 := Lib.hid K8
  have HG7 := Lib.hid G8
  have HQ7 := Lib.hid Q8
  have HP7 := Lib.hid P8
  clear P8 Q8 T8 K8 G8
  go_wp2_with fail
  refine bodyPost_ret (v := .tuple #[.agg #[.slice (some ⟨gA, 0, none⟩) n c1, .int .i64 e, .int .i64 ((Nu + 1) % 16), .int .i64 Bl, .int .i64 0, .bool true, .int .i64 Gp, .int .i64 (t + 1000000), .bool false], .slice (some ⟨k, 0, none⟩) 8 kc, .int .i64 0]) (by simp [results, Try.results31, go_sem, q0, q1, q2, q3, q4, q5, q6, q7, q8, zq7] <;> first | rfl | ((repeat' apply And.intro) <;> rfl)) rfl ⟨some ⟨gA, 0, none⟩, n, c1, some ⟨k, 0, none⟩, 8, kc, rfl, HL.out.symm, hc1, ?_, fr_at (Nat.le_of_lt hPg), (pad_len (by simp [HL.out] <;> omega)).symm, hkc, ?_, fr_at (Nat.le_of_lt hPk), below_set9 HG7.out (Nat.le_succ _) _ _ _ _ _ _ _ _ _⟩
  · exact HT7.out.set9g hQg _ _ _ _ _ _ _ _ _
  · have hk7 := HK7.out
    rw [HEA.out] at hk7
    exact hk7.set9g hQk _ _ _ _ _ _ _ _ _
end Go.Proofs.Ytfjeediecmhedaa
