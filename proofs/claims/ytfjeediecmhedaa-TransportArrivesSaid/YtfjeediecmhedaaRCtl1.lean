/-
  The reference's Control of a frame that it takes. No condition but the slices' shape.
-/
import Derived.Test.YtfjeediecmhedaaCtl1
import Derived.Test.YtfjeediecmhedaaRefKind
set_option linter.unusedVariables false
set_option linter.unusedSimpArgs false
namespace Go.Proofs.Ytfjeediecmhedaa
open Go.RowKit
set_option maxRecDepth 100000 in
set_option maxHeartbeats 16000000 in
theorem rctl32_cont (A : Option Addr) (n c : Nat) (At Nu Bl Se : Int) (Gp Dl : Int) (Fl : Bool) (l : List Int) (F : Option Addr) (cF : Nat) (f : List Int) (t : Int) (w : World) (hl : l.length = n) (hb : Bt w A l) (hc : n ≤ c) (hfb : Bt w F f) (hfB : Byt f) (hfc : 8 ≤ cF) (hk : kindM f = 3) (hv : vS n At Nu Bl Se true Gp Dl Fl = true) (ht : timeB t = true) (hd : t ≤ Dl) (hlow : f.getD 0 0 % 16 = 0) :
    Calls Try.prog 32 #[.agg #[.slice A n c, .int .i64 At, .int .i64 Nu, .int .i64 Bl, .int .i64 Se, .bool true, .int .i64 Gp, .int .i64 Dl, .bool Fl], .slice F 8 cF, .int .i64 t] w (S2 ⟨l, At, Nu, f.getD 1 0, 0, false, f.getD 2 0, t, Fl⟩ 0 w) := by
  have K := fun w h => kind45 F 8 cF f w (kind_len (by omega)) h hfB hfc
  simp only [hk] at K
  replace K := Lib.hid K
  have HFB := Lib.hid hfb
  obtain ⟨n0, n1, B0, B1, E0, E1, hBE, N0, N1, G0, G1, D0, D1, hAt⟩ := vS_gen hv
  obtain ⟨t0, t1⟩ := inB_t (show inB t 0 1099511627776 = true from ht)
  obtain ⟨k1, k2, k3⟩ := kind3 hk
  obtain ⟨g00, g01⟩ := hfB.at 0
  obtain ⟨g10, g11⟩ := hfB.at 1
  obtain ⟨g20, g21⟩ := hfB.at 2
  obtain ⟨f0, hf0⟩ : ∃ x, x = f.getD 0 0 := ⟨_, rfl⟩
  obtain ⟨f1, hf1⟩ : ∃ x, x = f.getD 1 0 := ⟨_, rfl⟩
  obtain ⟨f2, hf2⟩ : ∃ x, x = f.getD 2 0 := ⟨_, rfl⟩
  try rw [← hf1]
  try rw [← hf2]
  rw [← hf0] at k1 k2 g00 g01
  rw [← hf1] at g10 g11
  rw [← hf2] at k3 g20 g21
  rw [← hf0] at hlow
  have HFF := Lib.hid (And.intro hf0 (And.intro hf1 hf2))
  clear hf0 hf1 hf2
  have wt : IntKind.i64.wrap (t + 1000000) = t + 1000000 := IntWalk.i64_in _ (by omega)
  have wf1 : IntKind.i64.wrap f1 = f1 := IntWalk.i64_in _ (by omega)
  have wf2 : IntKind.i64.wrap f2 = f2 := IntWalk.i64_in _ (by omega)
  have hdd : decide (Dl < t) = false := by simp; omega
  have hlc : 0 < l.length := by omega
  have hf48 : f0 = 48 + 0 := by omega
  simp only [Int.reduceAdd] at hf48
  subst hf48
  clear hlow k1 k2 g00 g01
  have HL := Lib.hid hl
  have HFL := Lib.hid (kind_len (f := f) (by omega))
  have HB := Lib.hid hb
  clear hl hb hv ht hBE hAt hk hfB hfb
  go_enter Try.func32, Try.ntmps32
  go_wp2_with fail
  refine (K.out _ (HFB.out.below (by go_grown))).mono ?_
  rintro r w1 ⟨rfl, rfl⟩
  have hmade := made_at (W := (w.alloc (.cells #[.slice A n c, .int .i64 At, .int .i64 Nu, .int .i64 Bl, .int .i64 Se, .bool true, .int .i64 Gp, .int .i64 Dl, .bool Fl] 40)).alloc (.cells #[.slice none 0 0, .int .i64 0, .int .i64 0, .int .i64 0, .int .i64 0, .bool false, .int .i64 0, .int .i64 0, .bool false] 40)) (g := ((w.alloc (.cells #[.slice A n c, .int .i64 At, .int .i64 Nu, .int .i64 Bl, .int .i64 Se, .bool true, .int .i64 Gp, .int .i64 Dl, .bool Fl] 40)).alloc (.cells #[.slice none 0 0, .int .i64 0, .int .i64 0, .int .i64 0, .int .i64 0, .bool false, .int .i64 0, .int .i64 0, .bool false] 40)).heap.size) rfl (Nat.le_refl _)
  obtain ⟨w1, hw1⟩ : ∃ wx, wx = (w.alloc (.cells #[.slice A n c, .int .i64 At, .int .i64 Nu, .int .i64 Bl, .int .i64 Se, .bool true, .int .i64 Gp, .int .i64 Dl, .bool Fl] 40)).alloc (.cells #[.slice none 0 0, .int .i64 0, .int .i64 0, .int .i64 0, .int .i64 0, .bool false, .int .i64 0, .int .i64 0, .bool false] 40) := ⟨_, rfl⟩
  have P1 := (Cl.new (w := w) rfl [.slice A n c, .int .i64 At, .int .i64 Nu, .int .i64 Bl, .int .i64 Se, .bool true, .int .i64 Gp, .int .i64 Dl, .bool Fl] 40).below ((Below.refl _ _).alloc (Nat.le_refl _) (.cells #[.slice none 0 0, .int .i64 0, .int .i64 0, .int .i64 0, .int .i64 0, .bool false, .int .i64 0, .int .i64 0, .bool false] 40))
  have Q1 := Cl.new (P := w.heap.size + 1) (w := w.alloc (.cells #[.slice A n c, .int .i64 At, .int .i64 Nu, .int .i64 Bl, .int .i64 Se, .bool true, .int .i64 Gp, .int .i64 Dl, .bool Fl] 40)) (by simp) [.slice none 0 0, .int .i64 0, .int .i64 0, .int .i64 0, .int .i64 0, .bool false, .int .i64 0, .int .i64 0, .bool false] 40
  have G1 : Below w.heap.size w ((w.alloc (.cells #[.slice A n c, .int .i64 At, .int .i64 Nu, .int .i64 Bl, .int .i64 Se, .bool true, .int .i64 Gp, .int .i64 Dl, .bool Fl] 40)).alloc (.cells #[.slice none 0 0, .int .i64 0, .int .i64 0, .int .i64 0, .int .i64 0, .bool false, .int .i64 0, .int .i64 0, .bool false] 40)) := by go_grown
  go_upto_region 3 with fail
  rw [← hw1] at hmade P1 Q1 G1 ⊢
  clear hw1
  have p0 := P1.c 0 rfl
  have p1 := P1.c 1 rfl
  have p2 := P1.c 2 rfl
  have p3 := P1.c 3 rfl
  have p4 := P1.c 4 rfl
  have p5 := P1.c 5 rfl
  have p6 := P1.c 6 rfl
  have p7 := P1.c 7 rfl
  have p8 := P1.c 8 rfl
  have e0 := P1.f 0 rfl
  have zp := P1.1
  have zq := Q1.1
  have HP := Lib.hid P1
  have HQ := Lib.hid Q1
  have HG1 := Lib.hid G1
  clear P1 Q1 G1
  go_wp2_with (at_builtin; go_loud (refine app_bt rfl _ _ rfl w1.heap.size 0 _ [] rfl hmade A n c l rfl HL.out ?c1 ?c2 ?c3 ?_))
  case c1 => exact (HB.out.below HG1.out).below ((Below.refl _ _).alloc (Nat.le_refl _) _)
  case c2 => omega
  try (case c3 => simp)
  intro v2 w2 hown2 hb2
  have HB2 : Below w1.heap.size w1 w2 := ((Below.refl _ _).alloc (Nat.le_refl _) _).trans hb2
  have hown : w2.ownsRow w1.heap.size 5 1 v2 n (l.map (Value.int .u8)) := by simpa using hown2
  have hown' : Own w2 w1.heap.size v2 l := by unfold Own; rw [HL.out]; exact hown
  obtain ⟨A1, c1, rfl, hc1, hm1, hbt, hfr, hlt⟩ := hown'.bt
  obtain ⟨gA, oA, rfl, hgA⟩ := hbt.addr hlc
  have hoA : oA = 0 := own_off hown' hlc
  subst hoA
  rw [HL.out] at hc1 ⊢
  have hgA0 : w1.heap.size ≤ gA := hfr _ _ rfl
  have hPg : w.heap.size < gA := Nat.lt_of_lt_of_le zp hgA0
  have hQg : w.heap.size + 1 < gA := Nat.lt_of_lt_of_le zq hgA0
  have hg4 := chain HG1.out HB2
  have P4 := HP.out.below HB2
  have Q4 := HQ.out.below HB2
  clear p0 p1 p2 p3 p4 p5 p6 p7 p8 e0 zp zq hown hown' hown2 hb2 hmade HB2 HG1 HP HQ
  have p0 := P4.c 0 rfl
  have p1 := P4.c 1 rfl
  have p2 := P4.c 2 rfl
  have p3 := P4.c 3 rfl
  have p4 := P4.c 4 rfl
  have p5 := P4.c 5 rfl
  have p6 := P4.c 6 rfl
  have p7 := P4.c 7 rfl
  have p8 := P4.c 8 rfl
  have e0 := P4.f 0 rfl
  have zp := P4.1
  go_upto_region 8 with fail
  have F4 := HFB.out.below hg4
  have P5 := P4.set 0 (.slice (some ⟨gA, 0, none⟩) n c1)
  have Q5 := Q4.far (b := w.heap.size) (Nat.ne_of_lt (Nat.lt_succ_self _)) 0 (.slice (some ⟨gA, 0, none⟩) n c1)
  have T5 := hbt.setg (P := w.heap.size) hPg 0 (.slice (some ⟨gA, 0, none⟩) n c1)
  have G5 := hg4.setCell (p := ⟨w.heap.size, 0, none⟩) (Nat.le_refl _) (.slice (some ⟨gA, 0, none⟩) n c1)
  have hFP : ∀ b o, F = some ⟨b, o, none⟩ → w.heap.size ≠ b := fun b o e => by
    obtain ⟨b', o', e', hbl⟩ := HFB.out.addr (by rw [HFL.out]; decide)
    rw [e] at e'; injection e' with e'; injection e' with e1 e2
    omega
  have F5 : Bt (w2.setCell ⟨w.heap.size, 0, none⟩ (.slice (some ⟨gA, 0, none⟩) n c1)) F f := F4.set w.heap.size hFP _ _
  simp only [List.set_cons_zero] at P5
  obtain ⟨w5, hw5⟩ : ∃ wx, wx = w2.setCell ⟨w.heap.size, 0, none⟩ (.slice (some ⟨gA, 0, none⟩) n c1) := ⟨_, rfl⟩
  rw [← hw5] at P5 Q5 T5 G5 F5 ⊢
  have HFP := Lib.hid hFP
  clear hw5 P4 Q4 hbt hfr hlt hg4 p0 p1 p2 p3 p4 p5 p6 p7 p8 e0 zp F4 hFP hdd
  have HF5 := Lib.hid F5
  obtain ⟨bF, oF, rfl, hbF⟩ := F5.addr (by rw [HFL.out]; decide)
  have c0 : w5.cell? ⟨bF, oF, none⟩ = some (.int .u8 (f.getD 0 0)) := (F5.at 0 (by rw [HFL.out]; decide)).1
  have c1' := (F5.at 1 (by rw [HFL.out]; decide)).1
  have c2' := (F5.at 2 (by rw [HFL.out]; decide)).1
  rw [← HFF.out.1] at c0
  rw [← HFF.out.2.1] at c1'
  rw [← HFF.out.2.2] at c2'
  have HFP' := Lib.hid (HFP.out bF oF rfl)
  have HP7 := Lib.hid P5
  have HQ7 := Lib.hid Q5
  have HT7 := Lib.hid T5
  have HG7 := Lib.hid G5
  have p0 := P5.c 0 rfl
  have p1 := P5.c 1 rfl
  have p2 := P5.c 2 rfl
  have p3 := P5.c 3 rfl
  have p4 := P5.c 4 rfl
  have p5 := P5.c 5 rfl
  have p6 := P5.c 6 rfl
  have p7 := P5.c 7 rfl
  have p8 := P5.c 8 rfl
  have e0 := P5.f 0 rfl
  have e1 := P5.f 1 rfl
  have e2 := P5.f 2 rfl
  have e3 := P5.f 3 rfl
  have e4 := P5.f 4 rfl
  have e5 := P5.f 5 rfl
  have e6 := P5.f 6 rfl
  have e7 := P5.f 7 rfl
  have e8 := P5.f 8 rfl
  have q0 := Q5.c 0 rfl
  have q1 := Q5.c 1 rfl
  have q2 := Q5.c 2 rfl
  have q3 := Q5.c 3 rfl
  have q4 := Q5.c 4 rfl
  have q5 := Q5.c 5 rfl
  have q6 := Q5.c 6 rfl
  have q7 := Q5.c 7 rfl
  have q8 := Q5.c 8 rfl
  have f0' := Q5.f 0 rfl
  have f1' := Q5.f 1 rfl
  have f2' := Q5.f 2 rfl
  have f3' := Q5.f 3 rfl
  have f4' := Q5.f 4 rfl
  have f5' := Q5.f 5 rfl
  have f6' := Q5.f 6 rfl
  have f7' := Q5.f 7 rfl
  have f8' := Q5.f 8 rfl
  have zq7 := Q5.1
  have zp7 := P5.1
  clear P5 Q5 T5 G5 F5 K HF5 HFP
  go_upto_region 11 with fail
  refine region_K (fun W' => W'.cell? ⟨bF, oF + 1, none⟩ = some (.int .u8 f1) ∧ W'.cell? ⟨bF, oF + 2, none⟩ = some (.int .u8 f2)) 18 (by kernel_rfl) (⟨c1', c2'⟩) (fun hHeld => ?_)
  refine K_take' (i := 0) (v := ?_) rfl (by kernel_rfl) (by kernel_rfl) (by kernel_rfl) (by kernel_rfl) (fun _ _ _ h => h) (Or.inl ⟨by kernel_rfl, ?_⟩) hHeld ?_
  rotate_left 1
  · intro W8 hSw
    clear hSw
    go_simp
    all_goals with_reducible rfl
  try simp only [Act.put, List.setIfInBounds_toArray, List.set_cons_zero, List.set_cons_succ]
  refine K_take' (i := 1) (v := ?_) rfl (by kernel_rfl) (by kernel_rfl) (by kernel_rfl) (by kernel_rfl) (fun _ _ _ h => h) (Or.inl ⟨by kernel_rfl, ?_⟩) hHeld ?_
  rotate_left 1
  · intro W8 hSw
    clear hSw
    go_simp
    all_goals with_reducible rfl
  try simp only [Act.put, List.setIfInBounds_toArray, List.set_cons_zero, List.set_cons_succ]
  refine K_takeD (i := 2) (v := ?_) rfl (by kernel_rfl) (by kernel_rfl) (by kernel_rfl) (by kernel_rfl) (by kernel_rfl) (fun _ _ _ h => h) (Or.inl ⟨by kernel_rfl, ?_⟩) hHeld ?_
  rotate_left 1
  · intro W8 hSw
    (try dsimp only at hSw)
    go_simp
    all_goals with_reducible rfl
  try simp only [Act.put, List.setIfInBounds_toArray, List.set_cons_zero, List.set_cons_succ]
  refine K_take' (i := 3) (v := ?_) rfl (by kernel_rfl) (by kernel_rfl) (by kernel_rfl) (by kernel_rfl) (fun _ _ _ h => h) (Or.inl ⟨by kernel_rfl, ?_⟩) hHeld ?_
  rotate_left 1
  · intro W8 hSw
    clear hSw
    go_simp
    all_goals with_reducible rfl
  try simp only [Act.put, List.setIfInBounds_toArray, List.set_cons_zero, List.set_cons_succ]
  refine K_take' (i := 4) (v := ?_) rfl (by kernel_rfl) (by kernel_rfl) (by kernel_rfl) (by kernel_rfl) (fun _ _ _ h => h) (Or.inl ⟨by kernel_rfl, ?_⟩) hHeld ?_
  rotate_left 1
  · intro W8 hSw
    clear hSw
    go_simp
    all_goals with_reducible rfl
  try simp only [Act.put, List.setIfInBounds_toArray, List.set_cons_zero, List.set_cons_succ]
  refine K_take' (i := 5) (v := ?_) rfl (by kernel_rfl) (by kernel_rfl) (by kernel_rfl) (by kernel_rfl) (fun _ _ _ h => h) (Or.inl ⟨by kernel_rfl, ?_⟩) hHeld ?_
  rotate_left 1
  · intro W8 hSw
    clear hSw
    go_simp
    all_goals with_reducible rfl
  try simp only [Act.put, List.setIfInBounds_toArray, List.set_cons_zero, List.set_cons_succ]
  refine K_takeD (i := 6) (v := ?_) rfl (by kernel_rfl) (by kernel_rfl) (by kernel_rfl) (by kernel_rfl) (by kernel_rfl) (fun _ _ _ h => h) (Or.inl ⟨by kernel_rfl, ?_⟩) hHeld ?_
  rotate_left 1
  · intro W8 hSw
    (try dsimp only at hSw)
    go_simp
    all_goals with_reducible rfl
  try simp only [Act.put, List.setIfInBounds_toArray, List.set_cons_zero, List.set_cons_succ]
  refine K_take' (i := 7) (v := ?_) rfl (by kernel_rfl) (by kernel_rfl) (by kernel_rfl) (by kernel_rfl) (fun _ _ _ h => h) (Or.inl ⟨by kernel_rfl, ?_⟩) hHeld ?_
  rotate_left 1
  · intro W8 hSw
    clear hSw
    go_simp
    all_goals with_reducible rfl
  try simp only [Act.put, List.setIfInBounds_toArray, List.set_cons_zero, List.set_cons_succ]
  refine K_take' (i := 8) (v := ?_) rfl (by kernel_rfl) (by kernel_rfl) (by kernel_rfl) (by kernel_rfl) (fun _ _ _ h => h) (Or.inl ⟨by kernel_rfl, ?_⟩) hHeld ?_
  rotate_left 1
  · intro W8 hSw
    clear hSw
    go_simp
    all_goals with_reducible rfl
  try simp only [Act.put, List.setIfInBounds_toArray, List.set_cons_zero, List.set_cons_succ]
  refine K_take' (i := 9) (v := ?_) rfl (by kernel_rfl) (by kernel_rfl) (by kernel_rfl) (by kernel_rfl) (fun _ _ _ h => h) (Or.inl ⟨by kernel_rfl, ?_⟩) hHeld ?_
  rotate_left 1
  · intro W8 hSw
    clear hSw
    go_simp
    all_goals with_reducible rfl
  try simp only [Act.put, List.setIfInBounds_toArray, List.set_cons_zero, List.set_cons_succ]
  refine K_step' (i := 10) (by kernel_rfl) rfl (fun K hK => ?_)
  go_simp
  refine hK.out _ _ ⟨(World.cell?_setCell_far _ _ _ _ HFP'.out).trans hHeld.1, (World.cell?_setCell_far _ _ _ _ HFP'.out).trans hHeld.2⟩ (fun hHeld0 => ?_)
  clear hK K
  try simp only [Act.put, List.setIfInBounds_toArray, List.set_cons_zero, List.set_cons_succ]
  refine K_take' (i := 11) (v := ?_) rfl (by kernel_rfl) (by kernel_rfl) (by kernel_rfl) (by kernel_rfl) (fun _ _ _ h => h) (Or.inl ⟨by kernel_rfl, ?_⟩) hHeld0 ?_
  rotate_left 1
  · intro W8 hSw
    clear hSw
    go_simp
    all_goals with_reducible rfl
  try simp only [Act.put, List.setIfInBounds_toArray, List.set_cons_zero, List.set_cons_succ]
  refine K_step' (i := 12) (by kernel_rfl) rfl (fun K hK => ?_)
  go_simp
  refine hK.out _ _ ⟨(World.cell?_setCell_far _ _ _ _ HFP'.out).trans hHeld0.1, (World.cell?_setCell_far _ _ _ _ HFP'.out).trans hHeld0.2⟩ (fun hHeld1 => ?_)
  clear hK K
  try simp only [Act.put, List.setIfInBounds_toArray, List.set_cons_zero, List.set_cons_succ]
  refine K_take' (i := 13) (v := ?_) rfl (by kernel_rfl) (by kernel_rfl) (by kernel_rfl) (by kernel_rfl) (fun _ _ _ h => h) (Or.inl ⟨by kernel_rfl, ?_⟩) hHeld1 ?_
  rotate_left 1
  · intro W8 hSw
    clear hSw
    go_simp
    all_goals with_reducible rfl
  try simp only [Act.put, List.setIfInBounds_toArray, List.set_cons_zero, List.set_cons_succ]
  refine K_step' (i := 14) (by kernel_rfl) rfl (fun K hK => ?_)
  go_simp
  refine hK.out _ _ ⟨(World.cell?_setCell_far _ _ _ _ HFP'.out).trans hHeld1.1, (World.cell?_setCell_far _ _ _ _ HFP'.out).trans hHeld1.2⟩ (fun hHeld2 => ?_)
  clear hK K
  try simp only [Act.put, List.setIfInBounds_toArray, List.set_cons_zero, List.set_cons_succ]
  refine K_take' (i := 15) (v := ?_) rfl (by kernel_rfl) (by kernel_rfl) (by kernel_rfl) (by kernel_rfl) (fun _ _ _ h => h) (Or.inl ⟨by kernel_rfl, ?_⟩) hHeld2 ?_
  rotate_left 1
  · intro W8 hSw
    clear hSw
    go_simp
    all_goals with_reducible rfl
  try simp only [Act.put, List.setIfInBounds_toArray, List.set_cons_zero, List.set_cons_succ]
  refine K_step' (i := 16) (by kernel_rfl) rfl (fun K hK => ?_)
  go_simp
  refine hK.out _ _ ⟨(World.cell?_setCell_far _ _ _ _ HFP'.out).trans hHeld2.1, (World.cell?_setCell_far _ _ _ _ HFP'.out).trans hHeld2.2⟩ (fun hHeld3 => ?_)
  clear hK K
  try simp only [Act.put, List.setIfInBounds_toArray, List.set_cons_zero, List.set_cons_succ]
  refine K_take' (i := 17) (v := ?_) rfl (by kernel_rfl) (by kernel_rfl) (by kernel_rfl) (by kernel_rfl) (fun _ _ _ h => h) (Or.inl ⟨by kernel_rfl, ?_⟩) hHeld3 ?_
  rotate_left 1
  · intro W8 hSw
    clear hSw
    go_simp
    all_goals with_reducible rfl
  try simp only [Act.put, List.setIfInBounds_toArray, List.set_cons_zero, List.set_cons_succ]
  clear hHeld hHeld0 hHeld1 hHeld2 hHeld3
  refine K_step (by kernel_rfl) (by kernel_rfl) rfl (fun K hK => ?_)
  go_simp
  refine hK.out _ _ ?_
  clear hK K
  try simp only [Act.put, List.setIfInBounds_toArray, List.set_cons_zero, List.set_cons_succ]
  refine wpAny_done (by kernel_rfl) ?_ _
  go_upto_region 14 with fail
  have P8 := (((((HP7.out.set 5 (.bool false)).set 3 (.int .i64 f1)).set 6 (.int .i64 f2)).set 4 (.int .i64 0)).set 7 (.int .i64 t))
  have Q8 := (((((HQ7.out.far (b := w.heap.size) (Nat.ne_of_lt (Nat.lt_succ_self _)) 5 (.bool false)).far (b := w.heap.size) (Nat.ne_of_lt (Nat.lt_succ_self _)) 3 (.int .i64 f1)).far (b := w.heap.size) (Nat.ne_of_lt (Nat.lt_succ_self _)) 6 (.int .i64 f2)).far (b := w.heap.size) (Nat.ne_of_lt (Nat.lt_succ_self _)) 4 (.int .i64 0)).far (b := w.heap.size) (Nat.ne_of_lt (Nat.lt_succ_self _)) 7 (.int .i64 t))
  have T8 := (((((HT7.out.setg (P := w.heap.size) hPg 5 (.bool false)).setg (P := w.heap.size) hPg 3 (.int .i64 f1)).setg (P := w.heap.size) hPg 6 (.int .i64 f2)).setg (P := w.heap.size) hPg 4 (.int .i64 0)).setg (P := w.heap.size) hPg 7 (.int .i64 t))
  have G8 := (((((HG7.out.setCell (p := ⟨w.heap.size, 5, none⟩) (Nat.le_refl _) (.bool false)).setCell (p := ⟨w.heap.size, 3, none⟩) (Nat.le_refl _) (.int .i64 f1)).setCell (p := ⟨w.heap.size, 6, none⟩) (Nat.le_refl _) (.int .i64 f2)).setCell (p := ⟨w.heap.size, 4, none⟩) (Nat.le_refl _) (.int .i64 0)).setCell (p := ⟨w.heap.size, 7, none⟩) (Nat.le_refl _) (.int .i64 t))
  simp only [List.set_cons_zero, List.set_cons_succ] at P8
  obtain ⟨w8, hw8⟩ : ∃ wx, wx = (((((w5.setCell ⟨w.heap.size, 5, none⟩ (.bool false)).setCell ⟨w.heap.size, 3, none⟩ (.int .i64 f1)).setCell ⟨w.heap.size, 6, none⟩ (.int .i64 f2)).setCell ⟨w.heap.size, 4, none⟩ (.int .i64 0)).setCell ⟨w.heap.size, 7, none⟩ (.int .i64 t)) := ⟨_, rfl⟩
  rw [← hw8] at P8 Q8 T8 G8 ⊢
  clear hw8 p0 p1 p2 p3 p4 p5 p6 p7 p8 e0 e1 e2 e3 e4 e5 e6 e7 e8 q0 q1 q2 q3 q4 q5 q6 q7 q8 f0' f1' f2' f3' f4' f5' f6' f7' f8' HP7 HQ7 HT7 HG7 zp7 zq7
  have p0 := P8.c 0 rfl
  have p1 := P8.c 1 rfl
  have p2 := P8.c 2 rfl
  have p3 := P8.c 3 rfl
  have p4 := P8.c 4 rfl
  have p5 := P8.c 5 rfl
  have p6 := P8.c 6 rfl
  have p7 := P8.c 7 rfl
  have p8 := P8.c 8 rfl
  have e0 := P8.f 0 rfl
  have e1 := P8.f 1 rfl
  have e2 := P8.f 2 rfl
  have e3 := P8.f 3 rfl
  have e4 := P8.f 4 rfl
  have e5 := P8.f 5 rfl
  have e6 := P8.f 6 rfl
  have e7 := P8.f 7 rfl
  have e8 := P8.f 8 rfl
  have q0 := Q8.c 0 rfl
  have q1 := Q8.c 1 rfl
  have q2 := Q8.c 2 rfl
  have q3 := Q8.c 3 rfl
  have q4 := Q8.c 4 rfl
  have q5 := Q8.c 5 rfl
  have q6 := Q8.c 6 rfl
  have q7 := Q8.c 7 rfl
  have q8 := Q8.c 8 rfl
  have f0' := Q8.f 0 rfl
  have f1' := Q8.f 1 rfl
  have f2' := Q8.f 2 rfl
  have f3' := Q8.f 3 rfl
  have f4' := Q8.f 4 rfl
  have f5' := Q8.f 5 rfl
  have f6' := Q8.f 6 rfl
  have f7' := Q8.f 7 rfl
  have f8' := Q8.f 8 rfl
  have zq7 := Q8.1
  have zp7 := P8.1
  have HT7 := Lib.hid T8
  have HG7 := Lib.hid G8
  have HQ7 := Lib.hid Q8
  have HP7 := Lib.hid P8
  clear P8 Q8 T8 G8
  go_wp2_with fail
  refine bodyPost_ret (v := .tuple #[.agg #[.slice (some ⟨gA, 0, none⟩) n c1, .int .i64 At, .int .i64 Nu, .int .i64 f1, .int .i64 0, .bool false, .int .i64 f2, .int .i64 t, .bool Fl], .int .i64 0]) (by simp [results, Try.results32, go_sem, q0, q1, q2, q3, q4, q5, q6, q7, q8, zq7] <;> first | rfl | ((repeat' apply And.intro) <;> rfl)) rfl ⟨some ⟨gA, 0, none⟩, n, c1, rfl, HL.out.symm, hc1, ?_, fr_at (Nat.le_of_lt hPg), (below_set9 HG7.out (Nat.le_succ _) _ _ _ _ _ _ _ _ _).drew⟩
  · exact (HT7.out.set9g hQg _ _ _ _ _ _ _ _ _).drew
set_option maxRecDepth 100000 in
set_option maxHeartbeats 16000000 in
theorem rctl32_wait (A : Option Addr) (n c : Nat) (At Nu Bl Se : Int) (Gp Dl : Int) (Fl : Bool) (l : List Int) (F : Option Addr) (cF : Nat) (f : List Int) (t : Int) (w : World) (hl : l.length = n) (hb : Bt w A l) (hc : n ≤ c) (hfb : Bt w F f) (hfB : Byt f) (hfc : 8 ≤ cF) (hk : kindM f = 3) (hv : vS n At Nu Bl Se true Gp Dl Fl = true) (ht : timeB t = true) (hd : t ≤ Dl) (hlow : f.getD 0 0 % 16 = 1) :
    Calls Try.prog 32 #[.agg #[.slice A n c, .int .i64 At, .int .i64 Nu, .int .i64 Bl, .int .i64 Se, .bool true, .int .i64 Gp, .int .i64 Dl, .bool Fl], .slice F 8 cF, .int .i64 t] w (S2 ⟨l, At, Nu, Bl, Se, true, Gp, t + 1000000, Fl⟩ 0 w) := by
  have K := fun w h => kind45 F 8 cF f w (kind_len (by omega)) h hfB hfc
  simp only [hk] at K
  replace K := Lib.hid K
  have HFB := Lib.hid hfb
  obtain ⟨n0, n1, B0, B1, E0, E1, hBE, N0, N1, G0, G1, D0, D1, hAt⟩ := vS_gen hv
  obtain ⟨t0, t1⟩ := inB_t (show inB t 0 1099511627776 = true from ht)
  obtain ⟨k1, k2, k3⟩ := kind3 hk
  obtain ⟨g00, g01⟩ := hfB.at 0
  obtain ⟨g10, g11⟩ := hfB.at 1
  obtain ⟨g20, g21⟩ := hfB.at 2
  obtain ⟨f0, hf0⟩ : ∃ x, x = f.getD 0 0 := ⟨_, rfl⟩
  obtain ⟨f1, hf1⟩ : ∃ x, x = f.getD 1 0 := ⟨_, rfl⟩
  obtain ⟨f2, hf2⟩ : ∃ x, x = f.getD 2 0 := ⟨_, rfl⟩
  try rw [← hf1]
  try rw [← hf2]
  rw [← hf0] at k1 k2 g00 g01
  rw [← hf1] at g10 g11
  rw [← hf2] at k3 g20 g21
  rw [← hf0] at hlow
  have HFF := Lib.hid (And.intro hf0 (And.intro hf1 hf2))
  clear hf0 hf1 hf2
  have wt : IntKind.i64.wrap (t + 1000000) = t + 1000000 := IntWalk.i64_in _ (by omega)
  have wf1 : IntKind.i64.wrap f1 = f1 := IntWalk.i64_in _ (by omega)
  have wf2 : IntKind.i64.wrap f2 = f2 := IntWalk.i64_in _ (by omega)
  have hdd : decide (Dl < t) = false := by simp; omega
  have hlc : 0 < l.length := by omega
  have hf48 : f0 = 48 + 1 := by omega
  simp only [Int.reduceAdd] at hf48
  subst hf48
  clear hlow k1 k2 g00 g01
  have HL := Lib.hid hl
  have HFL := Lib.hid (kind_len (f := f) (by omega))
  have HB := Lib.hid hb
  clear hl hb hv ht hBE hAt hk hfB hfb
  go_enter Try.func32, Try.ntmps32
  go_wp2_with fail
  refine (K.out _ (HFB.out.below (by go_grown))).mono ?_
  rintro r w1 ⟨rfl, rfl⟩
  have hmade := made_at (W := (w.alloc (.cells #[.slice A n c, .int .i64 At, .int .i64 Nu, .int .i64 Bl, .int .i64 Se, .bool true, .int .i64 Gp, .int .i64 Dl, .bool Fl] 40)).alloc (.cells #[.slice none 0 0, .int .i64 0, .int .i64 0, .int .i64 0, .int .i64 0, .bool false, .int .i64 0, .int .i64 0, .bool false] 40)) (g := ((w.alloc (.cells #[.slice A n c, .int .i64 At, .int .i64 Nu, .int .i64 Bl, .int .i64 Se, .bool true, .int .i64 Gp, .int .i64 Dl, .bool Fl] 40)).alloc (.cells #[.slice none 0 0, .int .i64 0, .int .i64 0, .int .i64 0, .int .i64 0, .bool false, .int .i64 0, .int .i64 0, .bool false] 40)).heap.size) rfl (Nat.le_refl _)
  obtain ⟨w1, hw1⟩ : ∃ wx, wx = (w.alloc (.cells #[.slice A n c, .int .i64 At, .int .i64 Nu, .int .i64 Bl, .int .i64 Se, .bool true, .int .i64 Gp, .int .i64 Dl, .bool Fl] 40)).alloc (.cells #[.slice none 0 0, .int .i64 0, .int .i64 0, .int .i64 0, .int .i64 0, .bool false, .int .i64 0, .int .i64 0, .bool false] 40) := ⟨_, rfl⟩
  have P1 := (Cl.new (w := w) rfl [.slice A n c, .int .i64 At, .int .i64 Nu, .int .i64 Bl, .int .i64 Se, .bool true, .int .i64 Gp, .int .i64 Dl, .bool Fl] 40).below ((Below.refl _ _).alloc (Nat.le_refl _) (.cells #[.slice none 0 0, .int .i64 0, .int .i64 0, .int .i64 0, .int .i64 0, .bool false, .int .i64 0, .int .i64 0, .bool false] 40))
  have Q1 := Cl.new (P := w.heap.size + 1) (w := w.alloc (.cells #[.slice A n c, .int .i64 At, .int .i64 Nu, .int .i64 Bl, .int .i64 Se, .bool true, .int .i64 Gp, .int .i64 Dl, .bool Fl] 40)) (by simp) [.slice none 0 0, .int .i64 0, .int .i64 0, .int .i64 0, .int .i64 0, .bool false, .int .i64 0, .int .i64 0, .bool false] 40
  have G1 : Below w.heap.size w ((w.alloc (.cells #[.slice A n c, .int .i64 At, .int .i64 Nu, .int .i64 Bl, .int .i64 Se, .bool true, .int .i64 Gp, .int .i64 Dl, .bool Fl] 40)).alloc (.cells #[.slice none 0 0, .int .i64 0, .int .i64 0, .int .i64 0, .int .i64 0, .bool false, .int .i64 0, .int .i64 0, .bool false] 40)) := by go_grown
  go_upto_region 3 with fail
  rw [← hw1] at hmade P1 Q1 G1 ⊢
  clear hw1
  have p0 := P1.c 0 rfl
  have p1 := P1.c 1 rfl
  have p2 := P1.c 2 rfl
  have p3 := P1.c 3 rfl
  have p4 := P1.c 4 rfl
  have p5 := P1.c 5 rfl
  have p6 := P1.c 6 rfl
  have p7 := P1.c 7 rfl
  have p8 := P1.c 8 rfl
  have e0 := P1.f 0 rfl
  have zp := P1.1
  have zq := Q1.1
  have HP := Lib.hid P1
  have HQ := Lib.hid Q1
  have HG1 := Lib.hid G1
  clear P1 Q1 G1
  go_wp2_with (at_builtin; go_loud (refine app_bt rfl _ _ rfl w1.heap.size 0 _ [] rfl hmade A n c l rfl HL.out ?c1 ?c2 ?c3 ?_))
  case c1 => exact (HB.out.below HG1.out).below ((Below.refl _ _).alloc (Nat.le_refl _) _)
  case c2 => omega
  try (case c3 => simp)
  intro v2 w2 hown2 hb2
  have HB2 : Below w1.heap.size w1 w2 := ((Below.refl _ _).alloc (Nat.le_refl _) _).trans hb2
  have hown : w2.ownsRow w1.heap.size 5 1 v2 n (l.map (Value.int .u8)) := by simpa using hown2
  have hown' : Own w2 w1.heap.size v2 l := by unfold Own; rw [HL.out]; exact hown
  obtain ⟨A1, c1, rfl, hc1, hm1, hbt, hfr, hlt⟩ := hown'.bt
  obtain ⟨gA, oA, rfl, hgA⟩ := hbt.addr hlc
  have hoA : oA = 0 := own_off hown' hlc
  subst hoA
  rw [HL.out] at hc1 ⊢
  have hgA0 : w1.heap.size ≤ gA := hfr _ _ rfl
  have hPg : w.heap.size < gA := Nat.lt_of_lt_of_le zp hgA0
  have hQg : w.heap.size + 1 < gA := Nat.lt_of_lt_of_le zq hgA0
  have hg4 := chain HG1.out HB2
  have P4 := HP.out.below HB2
  have Q4 := HQ.out.below HB2
  clear p0 p1 p2 p3 p4 p5 p6 p7 p8 e0 zp zq hown hown' hown2 hb2 hmade HB2 HG1 HP HQ
  have p0 := P4.c 0 rfl
  have p1 := P4.c 1 rfl
  have p2 := P4.c 2 rfl
  have p3 := P4.c 3 rfl
  have p4 := P4.c 4 rfl
  have p5 := P4.c 5 rfl
  have p6 := P4.c 6 rfl
  have p7 := P4.c 7 rfl
  have p8 := P4.c 8 rfl
  have e0 := P4.f 0 rfl
  have zp := P4.1
  go_upto_region 8 with fail
  have F4 := HFB.out.below hg4
  have P5 := P4.set 0 (.slice (some ⟨gA, 0, none⟩) n c1)
  have Q5 := Q4.far (b := w.heap.size) (Nat.ne_of_lt (Nat.lt_succ_self _)) 0 (.slice (some ⟨gA, 0, none⟩) n c1)
  have T5 := hbt.setg (P := w.heap.size) hPg 0 (.slice (some ⟨gA, 0, none⟩) n c1)
  have G5 := hg4.setCell (p := ⟨w.heap.size, 0, none⟩) (Nat.le_refl _) (.slice (some ⟨gA, 0, none⟩) n c1)
  have hFP : ∀ b o, F = some ⟨b, o, none⟩ → w.heap.size ≠ b := fun b o e => by
    obtain ⟨b', o', e', hbl⟩ := HFB.out.addr (by rw [HFL.out]; decide)
    rw [e] at e'; injection e' with e'; injection e' with e1 e2
    omega
  have F5 : Bt (w2.setCell ⟨w.heap.size, 0, none⟩ (.slice (some ⟨gA, 0, none⟩) n c1)) F f := F4.set w.heap.size hFP _ _
  simp only [List.set_cons_zero] at P5
  obtain ⟨w5, hw5⟩ : ∃ wx, wx = w2.setCell ⟨w.heap.size, 0, none⟩ (.slice (some ⟨gA, 0, none⟩) n c1) := ⟨_, rfl⟩
  rw [← hw5] at P5 Q5 T5 G5 F5 ⊢
  have HFP := Lib.hid hFP
  clear hw5 P4 Q4 hbt hfr hlt hg4 p0 p1 p2 p3 p4 p5 p6 p7 p8 e0 zp F4 hFP hdd
  have HF5 := Lib.hid F5
  obtain ⟨bF, oF, rfl, hbF⟩ := F5.addr (by rw [HFL.out]; decide)
  have c0 : w5.cell? ⟨bF, oF, none⟩ = some (.int .u8 (f.getD 0 0)) := (F5.at 0 (by rw [HFL.out]; decide)).1
  have c1' := (F5.at 1 (by rw [HFL.out]; decide)).1
  have c2' := (F5.at 2 (by rw [HFL.out]; decide)).1
  rw [← HFF.out.1] at c0
  rw [← HFF.out.2.1] at c1'
  rw [← HFF.out.2.2] at c2'
  have HFP' := Lib.hid (HFP.out bF oF rfl)
  have HP7 := Lib.hid P5
  have HQ7 := Lib.hid Q5
  have HT7 := Lib.hid T5
  have HG7 := Lib.hid G5
  have p0 := P5.c 0 rfl
  have p1 := P5.c 1 rfl
  have p2 := P5.c 2 rfl
  have p3 := P5.c 3 rfl
  have p4 := P5.c 4 rfl
  have p5 := P5.c 5 rfl
  have p6 := P5.c 6 rfl
  have p7 := P5.c 7 rfl
  have p8 := P5.c 8 rfl
  have e0 := P5.f 0 rfl
  have e1 := P5.f 1 rfl
  have e2 := P5.f 2 rfl
  have e3 := P5.f 3 rfl
  have e4 := P5.f 4 rfl
  have e5 := P5.f 5 rfl
  have e6 := P5.f 6 rfl
  have e7 := P5.f 7 rfl
  have e8 := P5.f 8 rfl
  have q0 := Q5.c 0 rfl
  have q1 := Q5.c 1 rfl
  have q2 := Q5.c 2 rfl
  have q3 := Q5.c 3 rfl
  have q4 := Q5.c 4 rfl
  have q5 := Q5.c 5 rfl
  have q6 := Q5.c 6 rfl
  have q7 := Q5.c 7 rfl
  have q8 := Q5.c 8 rfl
  have f0' := Q5.f 0 rfl
  have f1' := Q5.f 1 rfl
  have f2' := Q5.f 2 rfl
  have f3' := Q5.f 3 rfl
  have f4' := Q5.f 4 rfl
  have f5' := Q5.f 5 rfl
  have f6' := Q5.f 6 rfl
  have f7' := Q5.f 7 rfl
  have f8' := Q5.f 8 rfl
  have zq7 := Q5.1
  have zp7 := P5.1
  clear P5 Q5 T5 G5 F5 K HF5 HFP
  go_upto_region 14 with fail
  have P8 := (HP7.out.set 7 (.int .i64 (t + 1000000)))
  have Q8 := (HQ7.out.far (b := w.heap.size) (Nat.ne_of_lt (Nat.lt_succ_self _)) 7 (.int .i64 (t + 1000000)))
  have T8 := (HT7.out.setg (P := w.heap.size) hPg 7 (.int .i64 (t + 1000000)))
  have G8 := (HG7.out.setCell (p := ⟨w.heap.size, 7, none⟩) (Nat.le_refl _) (.int .i64 (t + 1000000)))
  simp only [List.set_cons_zero, List.set_cons_succ] at P8
  obtain ⟨w8, hw8⟩ : ∃ wx, wx = (w5.setCell ⟨w.heap.size, 7, none⟩ (.int .i64 (t + 1000000))) := ⟨_, rfl⟩
  rw [← hw8] at P8 Q8 T8 G8 ⊢
  clear hw8 p0 p1 p2 p3 p4 p5 p6 p7 p8 e0 e1 e2 e3 e4 e5 e6 e7 e8 q0 q1 q2 q3 q4 q5 q6 q7 q8 f0' f1' f2' f3' f4' f5' f6' f7' f8' HP7 HQ7 HT7 HG7 zp7 zq7
  have p0 := P8.c 0 rfl
  have p1 := P8.c 1 rfl
  have p2 := P8.c 2 rfl
  have p3 := P8.c 3 rfl
  have p4 := P8.c 4 rfl
  have p5 := P8.c 5 rfl
  have p6 := P8.c 6 rfl
  have p7 := P8.c 7 rfl
  have p8 := P8.c 8 rfl
  have e0 := P8.f 0 rfl
  have e1 := P8.f 1 rfl
  have e2 := P8.f 2 rfl
  have e3 := P8.f 3 rfl
  have e4 := P8.f 4 rfl
  have e5 := P8.f 5 rfl
  have e6 := P8.f 6 rfl
  have e7 := P8.f 7 rfl
  have e8 := P8.f 8 rfl
  have q0 := Q8.c 0 rfl
  have q1 := Q8.c 1 rfl
  have q2 := Q8.c 2 rfl
  have q3 := Q8.c 3 rfl
  have q4 := Q8.c 4 rfl
  have q5 := Q8.c 5 rfl
  have q6 := Q8.c 6 rfl
  have q7 := Q8.c 7 rfl
  have q8 := Q8.c 8 rfl
  have f0' := Q8.f 0 rfl
  have f1' := Q8.f 1 rfl
  have f2' := Q8.f 2 rfl
  have f3' := Q8.f 3 rfl
  have f4' := Q8.f 4 rfl
  have f5' := Q8.f 5 rfl
  have f6' := Q8.f 6 rfl
  have f7' := Q8.f 7 rfl
  have f8' := Q8.f 8 rfl
  have zq7 := Q8.1
  have zp7 := P8.1
  have HT7 := Lib.hid T8
  have HG7 := Lib.hid G8
  have HQ7 := Lib.hid Q8
  have HP7 := Lib.hid P8
  clear P8 Q8 T8 G8
  go_wp2_with fail
  refine bodyPost_ret (v := .tuple #[.agg #[.slice (some ⟨gA, 0, none⟩) n c1, .int .i64 At, .int .i64 Nu, .int .i64 Bl, .int .i64 Se, .bool true, .int .i64 Gp, .int .i64 (t + 1000000), .bool Fl], .int .i64 0]) (by simp [results, Try.results32, go_sem, q0, q1, q2, q3, q4, q5, q6, q7, q8, zq7] <;> first | rfl | ((repeat' apply And.intro) <;> rfl)) rfl ⟨some ⟨gA, 0, none⟩, n, c1, rfl, HL.out.symm, hc1, ?_, fr_at (Nat.le_of_lt hPg), below_set9 HG7.out (Nat.le_succ _) _ _ _ _ _ _ _ _ _⟩
  · exact HT7.out.set9g hQg _ _ _ _ _ _ _ _ _
set_option maxRecDepth 100000 in
set_option maxHeartbeats 16000000 in
theorem rctl32_stop (A : Option Addr) (n c : Nat) (At Nu Bl Se : Int) (Gp Dl : Int) (Fl : Bool) (l : List Int) (F : Option Addr) (cF : Nat) (f : List Int) (t : Int) (w : World) (hl : l.length = n) (hb : Bt w A l) (hc : n ≤ c) (hfb : Bt w F f) (hfB : Byt f) (hfc : 8 ≤ cF) (hk : kindM f = 3) (hv : vS n At Nu Bl Se true Gp Dl Fl = true) (ht : timeB t = true) (hd : t ≤ Dl) (hlow : f.getD 0 0 % 16 = 2) :
    Calls Try.prog 32 #[.agg #[.slice A n c, .int .i64 At, .int .i64 Nu, .int .i64 Bl, .int .i64 Se, .bool true, .int .i64 Gp, .int .i64 Dl, .bool Fl], .slice F 8 cF, .int .i64 t] w (S2 ⟨l, At, Nu, Bl, Se, false, Gp, Dl, true⟩ 0 w) := by
  have K := fun w h => kind45 F 8 cF f w (kind_len (by omega)) h hfB hfc
  simp only [hk] at K
  replace K := Lib.hid K
  have HFB := Lib.hid hfb
  obtain ⟨n0, n1, B0, B1, E0, E1, hBE, N0, N1, G0, G1, D0, D1, hAt⟩ := vS_gen hv
  obtain ⟨t0, t1⟩ := inB_t (show inB t 0 1099511627776 = true from ht)
  obtain ⟨k1, k2, k3⟩ := kind3 hk
  obtain ⟨g00, g01⟩ := hfB.at 0
  obtain ⟨g10, g11⟩ := hfB.at 1
  obtain ⟨g20, g21⟩ := hfB.at 2
  obtain ⟨f0, hf0⟩ : ∃ x, x = f.getD 0 0 := ⟨_, rfl⟩
  obtain ⟨f1, hf1⟩ : ∃ x, x = f.getD 1 0 := ⟨_, rfl⟩
  obtain ⟨f2, hf2⟩ : ∃ x, x = f.getD 2 0 := ⟨_, rfl⟩
  try rw [← hf1]
  try rw [← hf2]
  rw [← hf0] at k1 k2 g00 g01
  rw [← hf1] at g10 g11
  rw [← hf2] at k3 g20 g21
  rw [← hf0] at hlow
  have HFF := Lib.hid (And.intro hf0 (And.intro hf1 hf2))
  clear hf0 hf1 hf2
  have wt : IntKind.i64.wrap (t + 1000000) = t + 1000000 := IntWalk.i64_in _ (by omega)
  have wf1 : IntKind.i64.wrap f1 = f1 := IntWalk.i64_in _ (by omega)
  have wf2 : IntKind.i64.wrap f2 = f2 := IntWalk.i64_in _ (by omega)
  have hdd : decide (Dl < t) = false := by simp; omega
  have hlc : 0 < l.length := by omega
  have hf48 : f0 = 48 + 2 := by omega
  simp only [Int.reduceAdd] at hf48
  subst hf48
  clear hlow k1 k2 g00 g01
  have HL := Lib.hid hl
  have HFL := Lib.hid (kind_len (f := f) (by omega))
  have HB := Lib.hid hb
  clear hl hb hv ht hBE hAt hk hfB hfb
  go_enter Try.func32, Try.ntmps32
  go_wp2_with fail
  refine (K.out _ (HFB.out.below (by go_grown))).mono ?_
  rintro r w1 ⟨rfl, rfl⟩
  have hmade := made_at (W := (w.alloc (.cells #[.slice A n c, .int .i64 At, .int .i64 Nu, .int .i64 Bl, .int .i64 Se, .bool true, .int .i64 Gp, .int .i64 Dl, .bool Fl] 40)).alloc (.cells #[.slice none 0 0, .int .i64 0, .int .i64 0, .int .i64 0, .int .i64 0, .bool false, .int .i64 0, .int .i64 0, .bool false] 40)) (g := ((w.alloc (.cells #[.slice A n c, .int .i64 At, .int .i64 Nu, .int .i64 Bl, .int .i64 Se, .bool true, .int .i64 Gp, .int .i64 Dl, .bool Fl] 40)).alloc (.cells #[.slice none 0 0, .int .i64 0, .int .i64 0, .int .i64 0, .int .i64 0, .bool false, .int .i64 0, .int .i64 0, .bool false] 40)).heap.size) rfl (Nat.le_refl _)
  obtain ⟨w1, hw1⟩ : ∃ wx, wx = (w.alloc (.cells #[.slice A n c, .int .i64 At, .int .i64 Nu, .int .i64 Bl, .int .i64 Se, .bool true, .int .i64 Gp, .int .i64 Dl, .bool Fl] 40)).alloc (.cells #[.slice none 0 0, .int .i64 0, .int .i64 0, .int .i64 0, .int .i64 0, .bool false, .int .i64 0, .int .i64 0, .bool false] 40) := ⟨_, rfl⟩
  have P1 := (Cl.new (w := w) rfl [.slice A n c, .int .i64 At, .int .i64 Nu, .int .i64 Bl, .int .i64 Se, .bool true, .int .i64 Gp, .int .i64 Dl, .bool Fl] 40).below ((Below.refl _ _).alloc (Nat.le_refl _) (.cells #[.slice none 0 0, .int .i64 0, .int .i64 0, .int .i64 0, .int .i64 0, .bool false, .int .i64 0, .int .i64 0, .bool false] 40))
  have Q1 := Cl.new (P := w.heap.size + 1) (w := w.alloc (.cells #[.slice A n c, .int .i64 At, .int .i64 Nu, .int .i64 Bl, .int .i64 Se, .bool true, .int .i64 Gp, .int .i64 Dl, .bool Fl] 40)) (by simp) [.slice none 0 0, .int .i64 0, .int .i64 0, .int .i64 0, .int .i64 0, .bool false, .int .i64 0, .int .i64 0, .bool false] 40
  have G1 : Below w.heap.size w ((w.alloc (.cells #[.slice A n c, .int .i64 At, .int .i64 Nu, .int .i64 Bl, .int .i64 Se, .bool true, .int .i64 Gp, .int .i64 Dl, .bool Fl] 40)).alloc (.cells #[.slice none 0 0, .int .i64 0, .int .i64 0, .int .i64 0, .int .i64 0, .bool false, .int .i64 0, .int .i64 0, .bool false] 40)) := by go_grown
  go_upto_region 3 with fail
  rw [← hw1] at hmade P1 Q1 G1 ⊢
  clear hw1
  have p0 := P1.c 0 rfl
  have p1 := P1.c 1 rfl
  have p2 := P1.c 2 rfl
  have p3 := P1.c 3 rfl
  have p4 := P1.c 4 rfl
  have p5 := P1.c 5 rfl
  have p6 := P1.c 6 rfl
  have p7 := P1.c 7 rfl
  have p8 := P1.c 8 rfl
  have e0 := P1.f 0 rfl
  have zp := P1.1
  have zq := Q1.1
  have HP := Lib.hid P1
  have HQ := Lib.hid Q1
  have HG1 := Lib.hid G1
  clear P1 Q1 G1
  go_wp2_with (at_builtin; go_loud (refine app_bt rfl _ _ rfl w1.heap.size 0 _ [] rfl hmade A n c l rfl HL.out ?c1 ?c2 ?c3 ?_))
  case c1 => exact (HB.out.below HG1.out).below ((Below.refl _ _).alloc (Nat.le_refl _) _)
  case c2 => omega
  try (case c3 => simp)
  intro v2 w2 hown2 hb2
  have HB2 : Below w1.heap.size w1 w2 := ((Below.refl _ _).alloc (Nat.le_refl _) _).trans hb2
  have hown : w2.ownsRow w1.heap.size 5 1 v2 n (l.map (Value.int .u8)) := by simpa using hown2
  have hown' : Own w2 w1.heap.size v2 l := by unfold Own; rw [HL.out]; exact hown
  obtain ⟨A1, c1, rfl, hc1, hm1, hbt, hfr, hlt⟩ := hown'.bt
  obtain ⟨gA, oA, rfl, hgA⟩ := hbt.addr hlc
  have hoA : oA = 0 := own_off hown' hlc
  subst hoA
  rw [HL.out] at hc1 ⊢
  have hgA0 : w1.heap.size ≤ gA := hfr _ _ rfl
  have hPg : w.heap.size < gA := Nat.lt_of_lt_of_le zp hgA0
  have hQg : w.heap.size + 1 < gA := Nat.lt_of_lt_of_le zq hgA0
  have hg4 := chain HG1.out HB2
  have P4 := HP.out.below HB2
  have Q4 := HQ.out.below HB2
  clear p0 p1 p2 p3 p4 p5 p6 p7 p8 e0 zp zq hown hown' hown2 hb2 hmade HB2 HG1 HP HQ
  have p0 := P4.c 0 rfl
  have p1 := P4.c 1 rfl
  have p2 := P4.c 2 rfl
  have p3 := P4.c 3 rfl
  have p4 := P4.c 4 rfl
  have p5 := P4.c 5 rfl
  have p6 := P4.c 6 rfl
  have p7 := P4.c 7 rfl
  have p8 := P4.c 8 rfl
  have e0 := P4.f 0 rfl
  have zp := P4.1
  go_upto_region 8 with fail
  have F4 := HFB.out.below hg4
  have P5 := P4.set 0 (.slice (some ⟨gA, 0, none⟩) n c1)
  have Q5 := Q4.far (b := w.heap.size) (Nat.ne_of_lt (Nat.lt_succ_self _)) 0 (.slice (some ⟨gA, 0, none⟩) n c1)
  have T5 := hbt.setg (P := w.heap.size) hPg 0 (.slice (some ⟨gA, 0, none⟩) n c1)
  have G5 := hg4.setCell (p := ⟨w.heap.size, 0, none⟩) (Nat.le_refl _) (.slice (some ⟨gA, 0, none⟩) n c1)
  have hFP : ∀ b o, F = some ⟨b, o, none⟩ → w.heap.size ≠ b := fun b o e => by
    obtain ⟨b', o', e', hbl⟩ := HFB.out.addr (by rw [HFL.out]; decide)
    rw [e] at e'; injection e' with e'; injection e' with e1 e2
    omega
  have F5 : Bt (w2.setCell ⟨w.heap.size, 0, none⟩ (.slice (some ⟨gA, 0, none⟩) n c1)) F f := F4.set w.heap.size hFP _ _
  simp only [List.set_cons_zero] at P5
  obtain ⟨w5, hw5⟩ : ∃ wx, wx = w2.setCell ⟨w.heap.size, 0, none⟩ (.slice (some ⟨gA, 0, none⟩) n c1) := ⟨_, rfl⟩
  rw [← hw5] at P5 Q5 T5 G5 F5 ⊢
  have HFP := Lib.hid hFP
  clear hw5 P4 Q4 hbt hfr hlt hg4 p0 p1 p2 p3 p4 p5 p6 p7 p8 e0 zp F4 hFP hdd
  have HF5 := Lib.hid F5
  obtain ⟨bF, oF, rfl, hbF⟩ := F5.addr (by rw [HFL.out]; decide)
  have c0 : w5.cell? ⟨bF, oF, none⟩ = some (.int .u8 (f.getD 0 0)) := (F5.at 0 (by rw [HFL.out]; decide)).1
  have c1' := (F5.at 1 (by rw [HFL.out]; decide)).1
  have c2' := (F5.at 2 (by rw [HFL.out]; decide)).1
  rw [← HFF.out.1] at c0
  rw [← HFF.out.2.1] at c1'
  rw [← HFF.out.2.2] at c2'
  have HFP' := Lib.hid (HFP.out bF oF rfl)
  have HP7 := Lib.hid P5
  have HQ7 := Lib.hid Q5
  have HT7 := Lib.hid T5
  have HG7 := Lib.hid G5
  have p0 := P5.c 0 rfl
  have p1 := P5.c 1 rfl
  have p2 := P5.c 2 rfl
  have p3 := P5.c 3 rfl
  have p4 := P5.c 4 rfl
  have p5 := P5.c 5 rfl
  have p6 := P5.c 6 rfl
  have p7 := P5.c 7 rfl
  have p8 := P5.c 8 rfl
  have e0 := P5.f 0 rfl
  have e1 := P5.f 1 rfl
  have e2 := P5.f 2 rfl
  have e3 := P5.f 3 rfl
  have e4 := P5.f 4 rfl
  have e5 := P5.f 5 rfl
  have e6 := P5.f 6 rfl
  have e7 := P5.f 7 rfl
  have e8 := P5.f 8 rfl
  have q0 := Q5.c 0 rfl
  have q1 := Q5.c 1 rfl
  have q2 := Q5.c 2 rfl
  have q3 := Q5.c 3 rfl
  have q4 := Q5.c 4 rfl
  have q5 := Q5.c 5 rfl
  have q6 := Q5.c 6 rfl
  have q7 := Q5.c 7 rfl
  have q8 := Q5.c 8 rfl
  have f0' := Q5.f 0 rfl
  have f1' := Q5.f 1 rfl
  have f2' := Q5.f 2 rfl
  have f3' := Q5.f 3 rfl
  have f4' := Q5.f 4 rfl
  have f5' := Q5.f 5 rfl
  have f6' := Q5.f 6 rfl
  have f7' := Q5.f 7 rfl
  have f8' := Q5.f 8 rfl
  have zq7 := Q5.1
  have zp7 := P5.1
  clear P5 Q5 T5 G5 F5 K HF5 HFP
  go_upto_region 14 with fail
  have P8 := ((HP7.out.set 5 (.bool false)).set 8 (.bool true))
  have Q8 := ((HQ7.out.far (b := w.heap.size) (Nat.ne_of_lt (Nat.lt_succ_self _)) 5 (.bool false)).far (b := w.heap.size) (Nat.ne_of_lt (Nat.lt_succ_self _)) 8 (.bool true))
  have T8 := ((HT7.out.setg (P := w.heap.size) hPg 5 (.bool false)).setg (P := w.heap.size) hPg 8 (.bool true))
  have G8 := ((HG7.out.setCell (p := ⟨w.heap.size, 5, none⟩) (Nat.le_refl _) (.bool false)).setCell (p := ⟨w.heap.size, 8, none⟩) (Nat.le_refl _) (.bool true))
  simp only [List.set_cons_zero, List.set_cons_succ] at P8
  obtain ⟨w8, hw8⟩ : ∃ wx, wx = ((w5.setCell ⟨w.heap.size, 5, none⟩ (.bool false)).setCell ⟨w.heap.size, 8, none⟩ (.bool true)) := ⟨_, rfl⟩
  rw [← hw8] at P8 Q8 T8 G8 ⊢
  clear hw8 p0 p1 p2 p3 p4 p5 p6 p7 p8 e0 e1 e2 e3 e4 e5 e6 e7 e8 q0 q1 q2 q3 q4 q5 q6 q7 q8 f0' f1' f2' f3' f4' f5' f6' f7' f8' HP7 HQ7 HT7 HG7 zp7 zq7
  have p0 := P8.c 0 rfl
  have p1 := P8.c 1 rfl
  have p2 := P8.c 2 rfl
  have p3 := P8.c 3 rfl
  have p4 := P8.c 4 rfl
  have p5 := P8.c 5 rfl
  have p6 := P8.c 6 rfl
  have p7 := P8.c 7 rfl
  have p8 := P8.c 8 rfl
  have e0 := P8.f 0 rfl
  have e1 := P8.f 1 rfl
  have e2 := P8.f 2 rfl
  have e3 := P8.f 3 rfl
  have e4 := P8.f 4 rfl
  have e5 := P8.f 5 rfl
  have e6 := P8.f 6 rfl
  have e7 := P8.f 7 rfl
  have e8 := P8.f 8 rfl
  have q0 := Q8.c 0 rfl
  have q1 := Q8.c 1 rfl
  have q2 := Q8.c 2 rfl
  have q3 := Q8.c 3 rfl
  have q4 := Q8.c 4 rfl
  have q5 := Q8.c 5 rfl
  have q6 := Q8.c 6 rfl
  have q7 := Q8.c 7 rfl
  have q8 := Q8.c 8 rfl
  have f0' := Q8.f 0 rfl
  have f1' := Q8.f 1 rfl
  have f2' := Q8.f 2 rfl
  have f3' := Q8.f 3 rfl
  have f4' := Q8.f 4 rfl
  have f5' := Q8.f 5 rfl
  have f6' := Q8.f 6 rfl
  have f7' := Q8.f 7 rfl
  have f8' := Q8.f 8 rfl
  have zq7 := Q8.1
  have zp7 := P8.1
  have HT7 := Lib.hid T8
  have HG7 := Lib.hid G8
  have HQ7 := Lib.hid Q8
  have HP7 := Lib.hid P8
  clear P8 Q8 T8 G8
  go_wp2_with fail
  refine bodyPost_ret (v := .tuple #[.agg #[.slice (some ⟨gA, 0, none⟩) n c1, .int .i64 At, .int .i64 Nu, .int .i64 Bl, .int .i64 Se, .bool false, .int .i64 Gp, .int .i64 Dl, .bool true], .int .i64 0]) (by simp [results, Try.results32, go_sem, q0, q1, q2, q3, q4, q5, q6, q7, q8, zq7] <;> first | rfl | ((repeat' apply And.intro) <;> rfl)) rfl ⟨some ⟨gA, 0, none⟩, n, c1, rfl, HL.out.symm, hc1, ?_, fr_at (Nat.le_of_lt hPg), below_set9 HG7.out (Nat.le_succ _) _ _ _ _ _ _ _ _ _⟩
  · exact HT7.out.set9g hQg _ _ _ _ _ _ _ _ _
end Go.Proofs.Ytfjeediecmhedaa
