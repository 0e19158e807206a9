/-
  The law TransportLoss of every input. No condition but the slice's shape.
-/
import Derived.Test.YtfjeediecmhedaaLosCore
set_option linter.unusedVariables false
set_option linter.unusedSimpArgs false
namespace Go.Proofs.Ytfjeediecmhedaa
open Go.RowKit
set_option maxRecDepth 100000 in
set_option maxHeartbeats 16000000 in
theorem loss_ok (A : Option Addr) (n c : Nat) (l : List Int) (wh kk : Int) (w : World) (hl : l.length = n) (hb : Bt w A l) (hB : Byt l) (hc : n ≤ c) (wh0 : 0 ≤ wh) (wh1 : wh ≤ 255) (kk0 : 0 ≤ kk) (kk1 : kk ≤ 255) (h : ¬ n < 8) (hm : msgB n = true) : Calls Try.prog 3 #[.slice A n c, .int .u8 wh, .int .u8 kk] w fun x w' => x = .returned (.bool true) ∧ Below w.heap.size w w' := by
  have d0 : decide ((n : Int) < 8) = false := by simp; omega
  have M := fun w => message11 A n c w
  rw [hm] at M
  replace M := Lib.hid M
  obtain ⟨m0, m1⟩ : 1 ≤ n ∧ n ≤ 1023 := by simpa [msgB] using hm
  have K := fun w h => carry12_ok A n c 0 0 l w hl h hc hm (by omega) (by omega) (by omega) (by omega)
  have hall := all_free (l := l) (by omega)
  rw [hl] at hall
  obtain ⟨q, hq⟩ : ∃ q, q = n / 7 := ⟨_, rfl⟩
  rw [← hq] at hall
  have hq1 : 1 ≤ q := by omega
  have hq2 : q ≤ 146 := by omega
  rw [hall] at K
  replace K := Lib.hid K
  have HB := Lib.hid hb
  have HL := Lib.hid hl
  have HQ := Lib.hid hq
  have HBY := Lib.hid hB
  clear hb hm hall hl hq hB
  go_enter Try.func3, Try.ntmps3
  go_wp2_with fail
  refine (awake10 _).mono ?_
  rintro x w1 ⟨rfl, hb1⟩
  have hg1 := chain (w := w) (by go_grown) hb1
  go_wp2_with fail
  refine (M.out _).mono ?_
  rintro x w2 ⟨rfl, rfl⟩
  go_wp2_with fail
  refine (K.out _ (HB.out.below hg1)).mono ?_
  rintro x w2 ⟨g1, m, d, xs, rfl, hm1, hmd, hg0, hg1l, hcell, hrw, hb2⟩
  obtain rfl : m = q + 2 := by rw [hm1]; simp
  have hg2 := chain hg1 hb2
  have HCL := Lib.hid hcell
  have HRW := Lib.hid hrw
  obtain ⟨B0, d0', e0, y1, y2, y3⟩ := hrw.get (i := 0) (by simp)
  have hx0 : xs[0]? = some (.slice B0 8 d0') := by
    rw [e0]
    show some (Value.slice B0 (ffr l).length d0') = _
    rw [show (ffr l).length = 8 from lfr_len (by rw [HL.out]; omega) 0]
  have p0 : w2.cell? ⟨g1, 0, none⟩ = some (.slice B0 8 d0') := hcell 0 _ hx0
  have HX0 := Lib.hid hx0
  have HG2 := Lib.hid hg2
  have hz2 := hg2.size
  clear y1 y2 y3 hm1 hcell hrw e0 hx0 hb1 hb2 hg1 hg2
  go_upto_region 6 with fail
  have f1 : (0 : Int) < (q : Int) + 2 := by omega
  have f2 : (2 : Int) ≤ (q : Int) + 2 := by omega
  have f3 : ¬ (d = 2) := by omega
  refine region_K (fun W' => (∀ b o, b < w2.heap.size → W'.cell? ⟨b, o, none⟩ = w2.cell? ⟨b, o, none⟩) ∧ Below w2.heap.size w2 W') 6 (by kernel_rfl) (Kp.mk (Below.refl _ _).drew) (fun hHeld => ?_)
  refine K_take' (i := 0) (v := ?_) rfl (by kernel_rfl) (by kernel_rfl) (by kernel_rfl) (by kernel_rfl) (fun _ _ _ h => h) (Or.inl ⟨by kernel_rfl, ?_⟩) hHeld ?_
  rotate_left 1
  · intro W8 hSw
    clear hSw
    go_simp
    all_goals with_reducible rfl
  try simp only [Act.put, List.setIfInBounds_toArray, List.set_cons_zero, List.set_cons_succ]
  refine K_take' (i := 4) (v := ?_) rfl (by kernel_rfl) (by kernel_rfl) (by kernel_rfl) (by kernel_rfl) (fun _ _ _ h => h) (Or.inl ⟨by kernel_rfl, ?_⟩) hHeld ?_
  rotate_left 1
  · intro W8 hSw
    clear hSw
    go_simp
    all_goals with_reducible rfl
  try simp only [Act.put, List.setIfInBounds_toArray, List.set_cons_zero, List.set_cons_succ]
  refine K_take' (i := 1) (v := ?_) rfl (by kernel_rfl) (by kernel_rfl) (by kernel_rfl) (by kernel_rfl) (fun _ _ _ h => h) (Or.inl ⟨by kernel_rfl, ?_⟩) hHeld ?_
  rotate_left 1
  · intro W8 hSw
    clear hSw
    go_simp
    all_goals with_reducible rfl
  try simp only [Act.put, List.setIfInBounds_toArray, List.set_cons_zero, List.set_cons_succ]
  refine K_take' (i := 5) (v := ?_) rfl (by kernel_rfl) (by kernel_rfl) (by kernel_rfl) (by kernel_rfl) (fun _ _ _ h => h) (Or.inl ⟨by kernel_rfl, ?_⟩) hHeld ?_
  rotate_left 1
  · intro W8 hSw
    clear hSw
    go_simp
    all_goals with_reducible rfl
  try simp only [Act.put, List.setIfInBounds_toArray, List.set_cons_zero, List.set_cons_succ]
  refine K_take (i := 2) (v := ?_) rfl (by kernel_rfl) (by kernel_rfl) (by kernel_rfl) (by kernel_rfl) (by kernel_rfl) (fun _ _ _ h => h) (Or.inl ⟨by kernel_rfl, ?_⟩) hHeld ?_
  rotate_left 1
  · intro W8 hSw
    (try dsimp only at hSw)
    go_simp
    all_goals with_reducible rfl
  try simp only [Act.put, List.setIfInBounds_toArray, List.set_cons_zero, List.set_cons_succ]
  refine K_step' (i := 3) (by kernel_rfl) rfl (fun K hK => ?_)
  go_simp
  refine hK.out _ _ (Kp.mk (show Below w2.heap.size w2 _ from ((Below.refl _ _).alloc (Nat.le_refl _) _).drew)) (fun hHeld2 => ?_)
  clear hK K
  try simp only [Act.put, List.setIfInBounds_toArray, List.set_cons_zero, List.set_cons_succ]
  have hownA := (own_lit1 (w := w2) (base := w2.heap.size) rfl (Nat.le_refl _) (.slice B0 8 d0')).drew
  have hbW : Below w2.heap.size w2 (w2.alloc (.cells #[.slice B0 8 d0'] 22)).drew := ((Below.refl _ _).alloc (Nat.le_refl _) _).drew
  refine K_step (by kernel_rfl) (by kernel_rfl) rfl (fun K hK => ?_)
  refine step_row (by rfl) (.tmp 44) (.tmp 46) (by rfl) w2.heap.size 1 _ _ (by simp [Act.eval, Act.put] <;> rfl) hownA ⟨g1, 2, none⟩ q (d - 2) (xs.drop 2) (by simp [Act.eval, Act.put] <;> rfl) ?_ ?_ ?_ (by omega) (by omega) ?_ (1 + q) rfl ?_
  · have := HRW.out.1
    simp [this]
  · exact fun j u h => by
      rw [WideShapes.add_plain]
      rw [List.getElem?_drop] at h
      exact ((bcell hbW).1 _ _ hg1l).trans (HCL.out (2 + j) u h)
  · exact fun v hv => HRW.out.one' v (List.mem_of_mem_drop hv)
  · simp
  intro g4 cap4 w4 hg4 hg4l hcap4 hcell4 hb4
  have hb24 : Below w2.heap.size w2 w4 := hbW.trans hb4
  refine hK.out _ _ ?_
  clear hK K
  try simp only [Act.put, List.setIfInBounds_toArray, List.set_cons_zero, List.set_cons_succ]
  refine wpAny_ready (rs := [7]) (by kernel_rfl) (by simp) (AllReady.cons rfl (fun K hK => ?_) AllReady.nil)
  go_simp
  refine hK _ _ ?_
  clear hK K
  try simp only [Act.put, List.setIfInBounds_toArray, List.set_cons_zero, List.set_cons_succ]
  refine wpAny_done (by kernel_rfl) ?_ _
  have R4 := (HRW.out.cut HX0.out).below hb24
  have HZ := Lib.hid hcell4
  have HR4 := Lib.hid R4
  have HG4 := Lib.hid (chain HG2.out hb24)
  have hz4 := (chain HG2.out hb24).size
  clear f1 f2 f3 hcell4 R4 hb24 hb4 hownA hbW hHeld hHeld2 p0 HCL HRW HX0 HG2
  have v2 : ¬ (q : Int) = 0 := by omega
  go_upto_region 8 with fail
  obtain ⟨i, hi, hi1, hi2⟩ : ∃ i : Nat, (i : Int) = wrap64 (1 + wh % (1 + (q : Int) - 1)) ∧ 1 ≤ i ∧ i ≤ q := by
    rw [show (1 : Int) + (q : Int) - 1 = (q : Int) by omega]
    have e1 := Int.emod_nonneg wh (show (q : Int) ≠ 0 by omega)
    have e2 := Int.emod_lt_of_pos wh (show (0 : Int) < (q : Int) by omega)
    generalize wh % (q : Int) = x at e1 e2
    have e3 : wrap64 (1 + x) = 1 + x := IntWalk.wrap64_in _ (by omega)
    rw [e3]
    exact ⟨(1 + x).toNat, by omega, by omega, by omega⟩
  rw [← hi]
  obtain ⟨kd, hkd, hkd2⟩ : ∃ kd : Nat, (kd : Int) = kk % 3 ∧ kd ≤ 2 := ⟨(kk % 3).toNat, by omega, by omega⟩
  have HKD := Lib.hid hkd
  clear hi v2 hkd
  obtain ⟨R, hR⟩ : ∃ R, R = w4.heap.size := ⟨_, rfl⟩
  have C5 := Cl.new (w := w4) hR [.slice none 0 0, .int .i64 0, .int .i64 0, .int .i64 0, .int .i64 0, .bool false, .bool false, .int .i64 0, .bool false] 30
  have G5 : Below R w4 (w4.alloc (.cells #[.slice none 0 0, .int .i64 0, .int .i64 0, .int .i64 0, .int .i64 0, .bool false, .bool false, .int .i64 0, .bool false] 30)) := by rw [hR]; exact (Below.refl _ _).alloc (Nat.le_refl _) _
  have HC5 := Lib.hid C5
  have HG5 := Lib.hid G5
  have hg4R : g4 < R := by omega
  have hg2R : w.heap.size ≤ R := by omega
  have HRE := Lib.hid hR
  clear C5 G5 hR
  go_wp2_with fail
  rw [← HRE.out]
  go_loopg [8, 12, 58] (q + 1) (fun gk v8 v12 v58 wr => ∃ (k : Nat) (S : RS) (now : Int) (A2 : Option Addr) (n2 c2 : Nat), k ≤ q + 1 ∧ q + 1 - k ≤ gk ∧ LR l i kd k S now ∧ v12 = .int .i64 now ∧ v58 = .int .i64 k ∧ Cl R wr [.slice A2 n2 c2, .int .i64 (S).Le, .int .i64 (S).Nu, .int .i64 (S).Bl, .int .i64 (S).Gt, .bool (S).Bu, .bool (S).Dn, .int .i64 (S).Dl, .bool (S).Fl] ∧ n2 = S.l.length ∧ n2 ≤ c2 ∧ Bt wr A2 S.l ∧ (∀ b o, A2 = some ⟨b, o, none⟩ → b ≠ R) ∧ Below R w4 wr)
  case atStart =>
    exact ⟨0, rzero, 0, none, 0, 0, by omega, by omega, .inl ⟨rfl, rfl, rfl⟩, rfl, rfl, HC5.out, rfl, Nat.le_refl _, Bt.nil _ _, (fun b o e => by cases e), HG5.out⟩
  case round =>
    obtain ⟨k, S, now, A2, n2, c2, hk, hgk, hLR, rfl, rfl, hC, hn2, hc2, hbt, hA2, hb⟩ := hrel
    clear HC5 HG5 K M
    by_cases hlt : k ≤ q
    · have hl8 : 8 ≤ l.length := by rw [HL.out]; omega
      have hl9 : l.length ≤ 1023 := by rw [HL.out]; omega
      have hqe : q = l.length / 7 := by rw [HL.out]; exact HQ.out
      obtain ⟨hst, t0, t1, hnx⟩ := loss_round hl8 hl9 hi1 (by omega) hkd2 (by omega) hLR
      have hfk := lfr_get l k (by omega)
      rw [← hqe] at hfk
      obtain ⟨hkl, hfk2⟩ := List.getElem?_eq_some_iff.1 hfk
      obtain ⟨B, cf, e1, h1, h2, h3⟩ := HR4.out.get hkl
      rw [hfk2] at e1 h1 h2
      rw [lfr_len hl8 k] at e1 h1
      have q1 : wr.cell? ⟨g4, k, none⟩ = some (.slice B 8 cf) := ((bcell (show Below w4.heap.size w4 wr by rw [← HRE.out]; exact hb)).1 _ _ hg4l).trans (HZ.out k _ e1)
      have hbf := byt_lfr HBY.out hl9 k
      have HF := Lib.hid h2
      have HBF := Lib.hid hbf
      have HLF := Lib.hid (lfr_len hl8 k)
      have HQE := Lib.hid hqe
      have HC := Lib.hid hC
      have HN2 := Lib.hid hn2
      have HBT := Lib.hid hbt
      have HA2 := Lib.hid hA2
      have HW := Lib.hid hb
      have hRl := hC.1
      clear e1 h2 h3 hfk hfk2 hkl hbf hqe hC hn2 hbt hA2 hb
      by_cases hki : k = i
      · rcases (by omega : kd = 0 ∨ kd = 1 ∨ kd = 2) with h0 | h0 | h0
        · subst hki h0
          have eC : LC k 0 k = 0 := by simp [LC]
          have eT : LT k 0 k now = now := by simp [LT]
          have dkk : kk % 3 = 0 := HKD.out.symm
          have d30 : decide (kk % 3 = 0) = true := by simp [dkk]
          have b30 : (kk % 3 == 0) = true := by simp [dkk]
          have d31 : decide (kk % 3 = 1) = false := by simp [dkk]
          have b31 : (kk % 3 == 1) = false := by simp [dkk]
          clear dkk
          rw [eT] at hst t0 t1 hnx
          rw [eC] at hst hnx
          have dlt : decide ((k : Int) < 1 + (q : Int)) = true := by simp; omega
          have HST := Lib.hid hst
          have HNX := Lib.hid hnx
          obtain ⟨hw1, hw2⟩ := lr_time hLR
          have htm : timeB now = true := inB_mk t0 (by omega)
          have HTM := Lib.hid htm
          clear eC eT hst hnx htm hLR
          go_wp2_with fail
          go_loopg [8, 88] 0 (fun gk2 v8 v88 wx => ∃ (j : Nat) (A2 : Option Addr) (n2 c2 : Nat), j ≤ 0 ∧ 0 - j ≤ gk2 ∧ v88 = .int .i64 j ∧ Hid (∀ j', j' < j → (after l k now S j').Dn = false) ∧ Cl R wx [.slice A2 n2 c2, .int .i64 (after l k now S j).Le, .int .i64 (after l k now S j).Nu, .int .i64 (after l k now S j).Bl, .int .i64 (after l k now S j).Gt, .bool (after l k now S j).Bu, .bool (after l k now S j).Dn, .int .i64 (after l k now S j).Dl, .bool (after l k now S j).Fl] ∧ n2 = (after l k now S j).l.length ∧ n2 ≤ c2 ∧ Bt wx A2 (after l k now S j).l ∧ (∀ b o, A2 = some ⟨b, o, none⟩ → b ≠ R) ∧ Below R w4 wx)
          case atStart =>
            exact ⟨0, A2, n2, c2, Nat.zero_le _, by omega, rfl, Lib.hid (fun j' h => by omega), HC.out, HN2.out, hc2, HBT.out, HA2.out, HW.out⟩
          case round =>
            obtain ⟨j, A3, n3, c3, hj, hgk2, rfl, hall, hC3, hn3, hc3, hbt3, hA3, hb3⟩ := hrel
            clear HC HN2 HBT HA2
            have hRl3 := hC3.1
            by_cases hjl : j < 0
            · exact absurd hjl (Nat.not_lt_zero _)
            · obtain rfl : j = 0 := by omega
              have hLR2 := HNX.out (fun j' h => hall.out j' h)
              obtain ⟨S6, hS6⟩ : ∃ S6, S6 = after l k now S 0 := ⟨_, rfl⟩
              rw [← hS6] at hLR2 hC3 hn3 hbt3
              have HREL := Lib.hid (show LR l k 0 (k + 1) S6 now ∧ Cl R wr [.slice A3 n3 c3, .int .i64 (S6).Le, .int .i64 (S6).Nu, .int .i64 (S6).Bl, .int .i64 (S6).Gt, .bool (S6).Bu, .bool (S6).Dn, .int .i64 (S6).Dl, .bool (S6).Fl] ∧ n3 = S6.l.length ∧ Bt wr A3 S6.l ∧ (∀ b o, A3 = some ⟨b, o, none⟩ → b ≠ R) ∧ Below R w4 wr from ⟨hLR2, hC3, hn3, hbt3, hA3, hb3⟩)
              clear hLR2 hC3 hn3 hbt3 hA3 hb3 hall hS6 HST HNX
              go_wp2_with fail
              go_roundg (q + 1 - (k + 1))
              case measure => omega
              case rel =>
                obtain ⟨r1, r2, r3, r4, r5, r6⟩ := HREL.out
                exact ⟨k + 1, S6, now, A3, n3, c3, by omega, by omega, r1, rfl, by go_num, r2, r3, hc3, r4, r5, r6⟩
        · subst hki h0
          have eC : LC k 1 k = 2 := by simp [LC]
          have eT : LT k 1 k now = now := by simp [LT]
          have dkk : kk % 3 = 1 := HKD.out.symm
          have d30 : decide (kk % 3 = 0) = false := by simp [dkk]
          have b30 : (kk % 3 == 0) = false := by simp [dkk]
          have d31 : decide (kk % 3 = 1) = true := by simp [dkk]
          have b31 : (kk % 3 == 1) = true := by simp [dkk]
          clear dkk
          rw [eT] at hst t0 t1 hnx
          rw [eC] at hst hnx
          have dlt : decide ((k : Int) < 1 + (q : Int)) = true := by simp; omega
          have HST := Lib.hid hst
          have HNX := Lib.hid hnx
          obtain ⟨hw1, hw2⟩ := lr_time hLR
          have htm : timeB now = true := inB_mk t0 (by omega)
          have HTM := Lib.hid htm
          clear eC eT hst hnx htm hLR
          go_wp2_with fail
          go_loopg [8, 88] 2 (fun gk2 v8 v88 wx => ∃ (j : Nat) (A2 : Option Addr) (n2 c2 : Nat), j ≤ 2 ∧ 2 - j ≤ gk2 ∧ v88 = .int .i64 j ∧ Hid (∀ j', j' < j → (after l k now S j').Dn = false) ∧ Cl R wx [.slice A2 n2 c2, .int .i64 (after l k now S j).Le, .int .i64 (after l k now S j).Nu, .int .i64 (after l k now S j).Bl, .int .i64 (after l k now S j).Gt, .bool (after l k now S j).Bu, .bool (after l k now S j).Dn, .int .i64 (after l k now S j).Dl, .bool (after l k now S j).Fl] ∧ n2 = (after l k now S j).l.length ∧ n2 ≤ c2 ∧ Bt wx A2 (after l k now S j).l ∧ (∀ b o, A2 = some ⟨b, o, none⟩ → b ≠ R) ∧ Below R w4 wx)
          case atStart =>
            exact ⟨0, A2, n2, c2, Nat.zero_le _, by omega, rfl, Lib.hid (fun j' h => by omega), HC.out, HN2.out, hc2, HBT.out, HA2.out, HW.out⟩
          case round =>
            obtain ⟨j, A3, n3, c3, hj, hgk2, rfl, hall, hC3, hn3, hc3, hbt3, hA3, hb3⟩ := hrel
            clear HC HN2 HBT HA2
            have hRl3 := hC3.1
            by_cases hjl : j < 2
            · obtain ⟨hok, hdn, herr⟩ := HST.out j hjl
              obtain ⟨S5, hS5⟩ : ∃ S5, S5 = after l k now S j := ⟨_, rfl⟩
              rw [← hS5] at hok hdn herr hC3 hn3 hbt3
              have HP := Lib.hid hC3
              have hz3 := hb3.size
              cases hd : S5.Dn
              · have he := herr hd
                have HS6 : Hid ((rcvM S5 (lfr l k) now).1 = after l k now S (j + 1)) := Lib.hid (by rw [hS5]; rfl)
                have KR := fun w h h2 => recv13_ok A3 n3 c3 S5 B 8 cf (lfr l k) now w hn3.symm h hc3 HLF.out h2 HBF.out (by omega) hok HTM.out
                rw [he, hd] at KR
                replace KR := Lib.hid KR
                have hC3' : Cl R wr [.slice A3 n3 c3, .int .i64 (S5).Le, .int .i64 (S5).Nu, .int .i64 (S5).Bl, .int .i64 (S5).Gt, .bool (S5).Bu, .bool false, .int .i64 (S5).Dl, .bool (S5).Fl] := by have := hC3; rw [hd] at this; exact this
                have HC3 := Lib.hid hC3'
                have HBT3 := Lib.hid hbt3
                have HB3 := Lib.hid hb3
                have HALL := Lib.hid (show ∀ j', j' < j + 1 → (after l k now S j').Dn = false from fun j' h => by
                  by_cases e : j' = j
                  · rw [e, ← hS5]; exact hd
                  · exact hall.out j' (by omega))
                have HFX := Lib.hid (show Bt wr B (lfr l k) from (HF.out.below (show Below w4.heap.size w4 wr by rw [← HRE.out]; exact hb3)) )
                clear hok hdn herr hC3 hC3' hn3 hbt3 hb3 hd he hall hS5 HP
                have p0 := HC3.out.c 0 rfl
                have p1 := HC3.out.c 1 rfl
                have p2 := HC3.out.c 2 rfl
                have p3 := HC3.out.c 3 rfl
                have p4 := HC3.out.c 4 rfl
                have p5 := HC3.out.c 5 rfl
                have p6 := HC3.out.c 6 rfl
                have p7 := HC3.out.c 7 rfl
                have p8 := HC3.out.c 8 rfl
                have e0 := HC3.out.f 0 rfl
                have e1 := HC3.out.f 1 rfl
                have e2 := HC3.out.f 2 rfl
                have e3 := HC3.out.f 3 rfl
                have e4 := HC3.out.f 4 rfl
                have e5 := HC3.out.f 5 rfl
                have e6 := HC3.out.f 6 rfl
                have e7 := HC3.out.f 7 rfl
                have e8 := HC3.out.f 8 rfl
                go_wp2_with fail
                refine (KR.out _ HBT3.out HFX.out).mono ?_
                rintro x w5 ⟨A5, n5, c5, B5, m5, d5, rfl, hn5, hc5, hbt5, hfr5, hm5, hd5, hbf5, hff5, hb5⟩
                rw [HS6.out] at hn5 hbt5 ⊢
                obtain ⟨S6, hS6⟩ : ∃ S6, S6 = after l k now S (j + 1) := ⟨_, rfl⟩
                rw [← hS6] at hn5 hbt5 ⊢
                have HS := Lib.hid hS6
                have P5 := HC3.out.below hb5
                have HP5 := Lib.hid P5
                have HBT5 := Lib.hid hbt5
                have HFR5 := Lib.hid hfr5
                have HN5 := Lib.hid hn5
                have G5 := HB3.out.trans (hb5.mono (Nat.le_of_lt hRl3))
                have HG5 := Lib.hid G5
                have z5 := hb5.size
                have hR5 := P5.1
                clear p0 p1 p2 p3 p4 p5 p6 p7 p8 e0 e1 e2 e3 e4 e5 e6 e7 e8 hS6 hbt5 hfr5 hn5 hm5 hd5 hbf5 hff5 hb5 G5 HS6
                have p0 := P5.c 0 rfl
                have p1 := P5.c 1 rfl
                have p2 := P5.c 2 rfl
                have p3 := P5.c 3 rfl
                have p4 := P5.c 4 rfl
                have p5 := P5.c 5 rfl
                have p6 := P5.c 6 rfl
                have p7 := P5.c 7 rfl
                have p8 := P5.c 8 rfl
                have e0 := P5.f 0 rfl
                have e1 := P5.f 1 rfl
                have e2 := P5.f 2 rfl
                have e3 := P5.f 3 rfl
                have e4 := P5.f 4 rfl
                have e5 := P5.f 5 rfl
                have e6 := P5.f 6 rfl
                have e7 := P5.f 7 rfl
                have e8 := P5.f 8 rfl
                clear P5
                go_wp2_with fail
                go_roundg (2 - (j + 1))
                case measure => omega
                case rel =>
                  refine ⟨j + 1, A5, n5, c5, by omega, by omega, by go_num, HALL, ?_, ?_, hc5, ?_, fun b o q => ?_, ?_⟩
                  · rw [← HS.out]; exact HP5.out.set9 (.slice A5 n5 c5) (.int .i64 S6.Le) (.int .i64 S6.Nu) (.int .i64 S6.Bl) (.int .i64 S6.Gt) (.bool S6.Bu) (.bool S6.Dn) (.int .i64 S6.Dl) (.bool S6.Fl)
                  · rw [← HS.out]; exact HN5.out
                  · rw [← HS.out]; exact HBT5.out.set9 (fun b o q h => by have := HFR5.out b o q; omega) _ _ _ _ _ _ _ _ _
                  · have := HFR5.out b o q; omega
                  · exact below_set9 HG5.out (Nat.le_refl _) _ _ _ _ _ _ _ _ _
              · have hkq : (k : Int) = (q : Int) := by have := hdn hd; have := HQE.out; omega
                have p6 : wr.cell? ⟨R, 6, none⟩ = some (.bool true) := by have := hC3.c 6 rfl; rw [hd] at this; exact this
                have dq : decide ((k : Int) = (1 : Int) + (q : Int) - 1) = true := by simp; omega
                have dq2 : ((k : Int) == (1 : Int) + (q : Int) - 1) = true := by simp; omega
                have dq3 : (k : Int) = (1 : Int) + (q : Int) - 1 := by omega
                have HEND := Lib.hid ((HG4.out.trans (hb3.mono hg2R) : Below w.heap.size w wr))
                clear hok hdn herr hC3 hn3 hbt3 hb3 hd hall hS5 HP hkq
                go_wp2
                go_ret
                exact ⟨rfl, HEND.out⟩
            · obtain rfl : j = 2 := by omega
              have hLR2 := HNX.out (fun j' h => hall.out j' h)
              obtain ⟨S6, hS6⟩ : ∃ S6, S6 = after l k now S 2 := ⟨_, rfl⟩
              rw [← hS6] at hLR2 hC3 hn3 hbt3
              have HREL := Lib.hid (show LR l k 1 (k + 1) S6 now ∧ Cl R wr [.slice A3 n3 c3, .int .i64 (S6).Le, .int .i64 (S6).Nu, .int .i64 (S6).Bl, .int .i64 (S6).Gt, .bool (S6).Bu, .bool (S6).Dn, .int .i64 (S6).Dl, .bool (S6).Fl] ∧ n3 = S6.l.length ∧ Bt wr A3 S6.l ∧ (∀ b o, A3 = some ⟨b, o, none⟩ → b ≠ R) ∧ Below R w4 wr from ⟨hLR2, hC3, hn3, hbt3, hA3, hb3⟩)
              clear hLR2 hC3 hn3 hbt3 hA3 hb3 hall hS6 HST HNX
              go_wp2_with fail
              go_roundg (q + 1 - (k + 1))
              case measure => omega
              case rel =>
                obtain ⟨r1, r2, r3, r4, r5, r6⟩ := HREL.out
                exact ⟨k + 1, S6, now, A3, n3, c3, by omega, by omega, r1, rfl, by go_num, r2, r3, hc3, r4, r5, r6⟩
        · subst hki h0
          have eC : LC k 2 k = 1 := by simp [LC]
          have eT : LT k 2 k now = (now + 1000001) := by simp [LT]
          have dkk : kk % 3 = 2 := HKD.out.symm
          have d30 : decide (kk % 3 = 0) = false := by simp [dkk]
          have b30 : (kk % 3 == 0) = false := by simp [dkk]
          have d31 : decide (kk % 3 = 1) = false := by simp [dkk]
          have b31 : (kk % 3 == 1) = false := by simp [dkk]
          clear dkk
          rw [eT] at hst t0 t1 hnx
          rw [eC] at hst hnx
          have dlt : decide ((k : Int) < 1 + (q : Int)) = true := by simp; omega
          have HST := Lib.hid hst
          have HNX := Lib.hid hnx
          obtain ⟨hw1, hw2⟩ := lr_time hLR
          have htm : timeB (now + 1000001) = true := inB_mk t0 (by omega)
          have HTM := Lib.hid htm
          clear eC eT hst hnx htm hLR
          go_wp2_with fail
          go_loopg [8, 88] 1 (fun gk2 v8 v88 wx => ∃ (j : Nat) (A2 : Option Addr) (n2 c2 : Nat), j ≤ 1 ∧ 1 - j ≤ gk2 ∧ v88 = .int .i64 j ∧ Hid (∀ j', j' < j → (after l k (now + 1000001) S j').Dn = false) ∧ Cl R wx [.slice A2 n2 c2, .int .i64 (after l k (now + 1000001) S j).Le, .int .i64 (after l k (now + 1000001) S j).Nu, .int .i64 (after l k (now + 1000001) S j).Bl, .int .i64 (after l k (now + 1000001) S j).Gt, .bool (after l k (now + 1000001) S j).Bu, .bool (after l k (now + 1000001) S j).Dn, .int .i64 (after l k (now + 1000001) S j).Dl, .bool (after l k (now + 1000001) S j).Fl] ∧ n2 = (after l k (now + 1000001) S j).l.length ∧ n2 ≤ c2 ∧ Bt wx A2 (after l k (now + 1000001) S j).l ∧ (∀ b o, A2 = some ⟨b, o, none⟩ → b ≠ R) ∧ Below R w4 wx)
          case atStart =>
            exact ⟨0, A2, n2, c2, Nat.zero_le _, by omega, rfl, Lib.hid (fun j' h => by omega), HC.out, HN2.out, hc2, HBT.out, HA2.out, HW.out⟩
          case round =>
            obtain ⟨j, A3, n3, c3, hj, hgk2, rfl, hall, hC3, hn3, hc3, hbt3, hA3, hb3⟩ := hrel
            clear HC HN2 HBT HA2
            have hRl3 := hC3.1
            by_cases hjl : j < 1
            · obtain ⟨hok, hdn, herr⟩ := HST.out j hjl
              obtain ⟨S5, hS5⟩ : ∃ S5, S5 = after l k (now + 1000001) S j := ⟨_, rfl⟩
              rw [← hS5] at hok hdn herr hC3 hn3 hbt3
              have HP := Lib.hid hC3
              have hz3 := hb3.size
              cases hd : S5.Dn
              · have he := herr hd
                have HS6 : Hid ((rcvM S5 (lfr l k) (now + 1000001)).1 = after l k (now + 1000001) S (j + 1)) := Lib.hid (by rw [hS5]; rfl)
                have KR := fun w h h2 => recv13_ok A3 n3 c3 S5 B 8 cf (lfr l k) (now + 1000001) w hn3.symm h hc3 HLF.out h2 HBF.out (by omega) hok HTM.out
                rw [he, hd] at KR
                replace KR := Lib.hid KR
                have hC3' : Cl R wr [.slice A3 n3 c3, .int .i64 (S5).Le, .int .i64 (S5).Nu, .int .i64 (S5).Bl, .int .i64 (S5).Gt, .bool (S5).Bu, .bool false, .int .i64 (S5).Dl, .bool (S5).Fl] := by have := hC3; rw [hd] at this; exact this
                have HC3 := Lib.hid hC3'
                have HBT3 := Lib.hid hbt3
                have HB3 := Lib.hid hb3
                have HALL := Lib.hid (show ∀ j', j' < j + 1 → (after l k (now + 1000001) S j').Dn = false from fun j' h => by
                  by_cases e : j' = j
                  · rw [e, ← hS5]; exact hd
                  · exact hall.out j' (by omega))
                have HFX := Lib.hid (show Bt wr B (lfr l k) from (HF.out.below (show Below w4.heap.size w4 wr by rw [← HRE.out]; exact hb3)) )
                clear hok hdn herr hC3 hC3' hn3 hbt3 hb3 hd he hall hS5 HP
                have p0 := HC3.out.c 0 rfl
                have p1 := HC3.out.c 1 rfl
                have p2 := HC3.out.c 2 rfl
                have p3 := HC3.out.c 3 rfl
                have p4 := HC3.out.c 4 rfl
                have p5 := HC3.out.c 5 rfl
                have p6 := HC3.out.c 6 rfl
                have p7 := HC3.out.c 7 rfl
                have p8 := HC3.out.c 8 rfl
                have e0 := HC3.out.f 0 rfl
                have e1 := HC3.out.f 1 rfl
                have e2 := HC3.out.f 2 rfl
                have e3 := HC3.out.f 3 rfl
                have e4 := HC3.out.f 4 rfl
                have e5 := HC3.out.f 5 rfl
                have e6 := HC3.out.f 6 rfl
                have e7 := HC3.out.f 7 rfl
                have e8 := HC3.out.f 8 rfl
                go_wp2_with fail
                refine (KR.out _ HBT3.out HFX.out).mono ?_
                rintro x w5 ⟨A5, n5, c5, B5, m5, d5, rfl, hn5, hc5, hbt5, hfr5, hm5, hd5, hbf5, hff5, hb5⟩
                rw [HS6.out] at hn5 hbt5 ⊢
                obtain ⟨S6, hS6⟩ : ∃ S6, S6 = after l k (now + 1000001) S (j + 1) := ⟨_, rfl⟩
                rw [← hS6] at hn5 hbt5 ⊢
                have HS := Lib.hid hS6
                have P5 := HC3.out.below hb5
                have HP5 := Lib.hid P5
                have HBT5 := Lib.hid hbt5
                have HFR5 := Lib.hid hfr5
                have HN5 := Lib.hid hn5
                have G5 := HB3.out.trans (hb5.mono (Nat.le_of_lt hRl3))
                have HG5 := Lib.hid G5
                have z5 := hb5.size
                have hR5 := P5.1
                clear p0 p1 p2 p3 p4 p5 p6 p7 p8 e0 e1 e2 e3 e4 e5 e6 e7 e8 hS6 hbt5 hfr5 hn5 hm5 hd5 hbf5 hff5 hb5 G5 HS6
                have p0 := P5.c 0 rfl
                have p1 := P5.c 1 rfl
                have p2 := P5.c 2 rfl
                have p3 := P5.c 3 rfl
                have p4 := P5.c 4 rfl
                have p5 := P5.c 5 rfl
                have p6 := P5.c 6 rfl
                have p7 := P5.c 7 rfl
                have p8 := P5.c 8 rfl
                have e0 := P5.f 0 rfl
                have e1 := P5.f 1 rfl
                have e2 := P5.f 2 rfl
                have e3 := P5.f 3 rfl
                have e4 := P5.f 4 rfl
                have e5 := P5.f 5 rfl
                have e6 := P5.f 6 rfl
                have e7 := P5.f 7 rfl
                have e8 := P5.f 8 rfl
                clear P5
                go_wp2_with fail
                go_roundg (1 - (j + 1))
                case measure => omega
                case rel =>
                  refine ⟨j + 1, A5, n5, c5, by omega, by omega, by go_num, HALL, ?_, ?_, hc5, ?_, fun b o q => ?_, ?_⟩
                  · rw [← HS.out]; exact HP5.out.set9 (.slice A5 n5 c5) (.int .i64 S6.Le) (.int .i64 S6.Nu) (.int .i64 S6.Bl) (.int .i64 S6.Gt) (.bool S6.Bu) (.bool S6.Dn) (.int .i64 S6.Dl) (.bool S6.Fl)
                  · rw [← HS.out]; exact HN5.out
                  · rw [← HS.out]; exact HBT5.out.set9 (fun b o q h => by have := HFR5.out b o q; omega) _ _ _ _ _ _ _ _ _
                  · have := HFR5.out b o q; omega
                  · exact below_set9 HG5.out (Nat.le_refl _) _ _ _ _ _ _ _ _ _
              · have hkq : (k : Int) = (q : Int) := by have := hdn hd; have := HQE.out; omega
                have p6 : wr.cell? ⟨R, 6, none⟩ = some (.bool true) := by have := hC3.c 6 rfl; rw [hd] at this; exact this
                have dq : decide ((k : Int) = (1 : Int) + (q : Int) - 1) = true := by simp; omega
                have dq2 : ((k : Int) == (1 : Int) + (q : Int) - 1) = true := by simp; omega
                have dq3 : (k : Int) = (1 : Int) + (q : Int) - 1 := by omega
                have HEND := Lib.hid ((HG4.out.trans (hb3.mono hg2R) : Below w.heap.size w wr))
                clear hok hdn herr hC3 hn3 hbt3 hb3 hd hall hS5 HP hkq
                go_wp2
                go_ret
                exact ⟨rfl, HEND.out⟩
            · obtain rfl : j = 1 := by omega
              have hLR2 := HNX.out (fun j' h => hall.out j' h)
              obtain ⟨S6, hS6⟩ : ∃ S6, S6 = after l k (now + 1000001) S 1 := ⟨_, rfl⟩
              rw [← hS6] at hLR2 hC3 hn3 hbt3
              have HREL := Lib.hid (show LR l k 2 (k + 1) S6 (now + 1000001) ∧ Cl R wr [.slice A3 n3 c3, .int .i64 (S6).Le, .int .i64 (S6).Nu, .int .i64 (S6).Bl, .int .i64 (S6).Gt, .bool (S6).Bu, .bool (S6).Dn, .int .i64 (S6).Dl, .bool (S6).Fl] ∧ n3 = S6.l.length ∧ Bt wr A3 S6.l ∧ (∀ b o, A3 = some ⟨b, o, none⟩ → b ≠ R) ∧ Below R w4 wr from ⟨hLR2, hC3, hn3, hbt3, hA3, hb3⟩)
              clear hLR2 hC3 hn3 hbt3 hA3 hb3 hall hS6 HST HNX
              go_wp2_with fail
              go_roundg (q + 1 - (k + 1))
              case measure => omega
              case rel =>
                obtain ⟨r1, r2, r3, r4, r5, r6⟩ := HREL.out
                exact ⟨k + 1, S6, (now + 1000001), A3, n3, c3, by omega, by omega, r1, by go_num, by go_num, r2, r3, hc3, r4, r5, r6⟩
      · have eC : LC i kd k = 1 := by unfold LC; rw [if_neg hki]
        have eT : LT i kd k now = now := by unfold LT; rw [if_neg (fun h => hki h.1)]
        have dk : decide ((k : Int) = (i : Int)) = false := by simp; omega
        have db : ((k : Int) == (i : Int)) = false := by simp; omega
        rw [eT] at hst t0 t1 hnx
        rw [eC] at hst hnx
        have dlt : decide ((k : Int) < 1 + (q : Int)) = true := by simp; omega
        have HST := Lib.hid hst
        have HNX := Lib.hid hnx
        obtain ⟨hw1, hw2⟩ := lr_time hLR
        have htm : timeB now = true := inB_mk t0 (by omega)
        have HTM := Lib.hid htm
        clear eC eT hst hnx htm hLR
        go_wp2_with fail
        go_loopg [8, 88] 1 (fun gk2 v8 v88 wx => ∃ (j : Nat) (A2 : Option Addr) (n2 c2 : Nat), j ≤ 1 ∧ 1 - j ≤ gk2 ∧ v88 = .int .i64 j ∧ Hid (∀ j', j' < j → (after l k now S j').Dn = false) ∧ Cl R wx [.slice A2 n2 c2, .int .i64 (after l k now S j).Le, .int .i64 (after l k now S j).Nu, .int .i64 (after l k now S j).Bl, .int .i64 (after l k now S j).Gt, .bool (after l k now S j).Bu, .bool (after l k now S j).Dn, .int .i64 (after l k now S j).Dl, .bool (after l k now S j).Fl] ∧ n2 = (after l k now S j).l.length ∧ n2 ≤ c2 ∧ Bt wx A2 (after l k now S j).l ∧ (∀ b o, A2 = some ⟨b, o, none⟩ → b ≠ R) ∧ Below R w4 wx)
        case atStart =>
          exact ⟨0, A2, n2, c2, Nat.zero_le _, by omega, rfl, Lib.hid (fun j' h => by omega), HC.out, HN2.out, hc2, HBT.out, HA2.out, HW.out⟩
        case round =>
          obtain ⟨j, A3, n3, c3, hj, hgk2, rfl, hall, hC3, hn3, hc3, hbt3, hA3, hb3⟩ := hrel
          clear HC HN2 HBT HA2
          have hRl3 := hC3.1
          by_cases hjl : j < 1
          · obtain ⟨hok, hdn, herr⟩ := HST.out j hjl
            obtain ⟨S5, hS5⟩ : ∃ S5, S5 = after l k now S j := ⟨_, rfl⟩
            rw [← hS5] at hok hdn herr hC3 hn3 hbt3
            have HP := Lib.hid hC3
            have hz3 := hb3.size
            cases hd : S5.Dn
            · have he := herr hd
              have HS6 : Hid ((rcvM S5 (lfr l k) now).1 = after l k now S (j + 1)) := Lib.hid (by rw [hS5]; rfl)
              have KR := fun w h h2 => recv13_ok A3 n3 c3 S5 B 8 cf (lfr l k) now w hn3.symm h hc3 HLF.out h2 HBF.out (by omega) hok HTM.out
              rw [he, hd] at KR
              replace KR := Lib.hid KR
              have hC3' : Cl R wr [.slice A3 n3 c3, .int .i64 (S5).Le, .int .i64 (S5).Nu, .int .i64 (S5).Bl, .int .i64 (S5).Gt, .bool (S5).Bu, .bool false, .int .i64 (S5).Dl, .bool (S5).Fl] := by have := hC3; rw [hd] at this; exact this
              have HC3 := Lib.hid hC3'
              have HBT3 := Lib.hid hbt3
              have HB3 := Lib.hid hb3
              have HALL := Lib.hid (show ∀ j', j' < j + 1 → (after l k now S j').Dn = false from fun j' h => by
                by_cases e : j' = j
                · rw [e, ← hS5]; exact hd
                · exact hall.out j' (by omega))
              have HFX := Lib.hid (show Bt wr B (lfr l k) from (HF.out.below (show Below w4.heap.size w4 wr by rw [← HRE.out]; exact hb3)) )
              clear hok hdn herr hC3 hC3' hn3 hbt3 hb3 hd he hall hS5 HP
              have p0 := HC3.out.c 0 rfl
              have p1 := HC3.out.c 1 rfl
              have p2 := HC3.out.c 2 rfl
              have p3 := HC3.out.c 3 rfl
              have p4 := HC3.out.c 4 rfl
              have p5 := HC3.out.c 5 rfl
              have p6 := HC3.out.c 6 rfl
              have p7 := HC3.out.c 7 rfl
              have p8 := HC3.out.c 8 rfl
              have e0 := HC3.out.f 0 rfl
              have e1 := HC3.out.f 1 rfl
              have e2 := HC3.out.f 2 rfl
              have e3 := HC3.out.f 3 rfl
              have e4 := HC3.out.f 4 rfl
              have e5 := HC3.out.f 5 rfl
              have e6 := HC3.out.f 6 rfl
              have e7 := HC3.out.f 7 rfl
              have e8 := HC3.out.f 8 rfl
              go_wp2_with fail
              refine (KR.out _ HBT3.out HFX.out).mono ?_
              rintro x w5 ⟨A5, n5, c5, B5, m5, d5, rfl, hn5, hc5, hbt5, hfr5, hm5, hd5, hbf5, hff5, hb5⟩
              rw [HS6.out] at hn5 hbt5 ⊢
              obtain ⟨S6, hS6⟩ : ∃ S6, S6 = after l k now S (j + 1) := ⟨_, rfl⟩
              rw [← hS6] at hn5 hbt5 ⊢
              have HS := Lib.hid hS6
              have P5 := HC3.out.below hb5
              have HP5 := Lib.hid P5
              have HBT5 := Lib.hid hbt5
              have HFR5 := Lib.hid hfr5
              have HN5 := Lib.hid hn5
              have G5 := HB3.out.trans (hb5.mono (Nat.le_of_lt hRl3))
              have HG5 := Lib.hid G5
              have z5 := hb5.size
              have hR5 := P5.1
              clear p0 p1 p2 p3 p4 p5 p6 p7 p8 e0 e1 e2 e3 e4 e5 e6 e7 e8 hS6 hbt5 hfr5 hn5 hm5 hd5 hbf5 hff5 hb5 G5 HS6
              have p0 := P5.c 0 rfl
              have p1 := P5.c 1 rfl
              have p2 := P5.c 2 rfl
              have p3 := P5.c 3 rfl
              have p4 := P5.c 4 rfl
              have p5 := P5.c 5 rfl
              have p6 := P5.c 6 rfl
              have p7 := P5.c 7 rfl
              have p8 := P5.c 8 rfl
              have e0 := P5.f 0 rfl
              have e1 := P5.f 1 rfl
              have e2 := P5.f 2 rfl
              have e3 := P5.f 3 rfl
              have e4 := P5.f 4 rfl
              have e5 := P5.f 5 rfl
              have e6 := P5.f 6 rfl
              have e7 := P5.f 7 rfl
              have e8 := P5.f 8 rfl
              clear P5
              go_wp2_with fail
              go_roundg (1 - (j + 1))
              case measure => omega
              case rel =>
                refine ⟨j + 1, A5, n5, c5, by omega, by omega, by go_num, HALL, ?_, ?_, hc5, ?_, fun b o q => ?_, ?_⟩
                · rw [← HS.out]; exact HP5.out.set9 (.slice A5 n5 c5) (.int .i64 S6.Le) (.int .i64 S6.Nu) (.int .i64 S6.Bl) (.int .i64 S6.Gt) (.bool S6.Bu) (.bool S6.Dn) (.int .i64 S6.Dl) (.bool S6.Fl)
                · rw [← HS.out]; exact HN5.out
                · rw [← HS.out]; exact HBT5.out.set9 (fun b o q h => by have := HFR5.out b o q; omega) _ _ _ _ _ _ _ _ _
                · have := HFR5.out b o q; omega
                · exact below_set9 HG5.out (Nat.le_refl _) _ _ _ _ _ _ _ _ _
            · have hkq : (k : Int) = (q : Int) := by have := hdn hd; have := HQE.out; omega
              have p6 : wr.cell? ⟨R, 6, none⟩ = some (.bool true) := by have := hC3.c 6 rfl; rw [hd] at this; exact this
              have dq : decide ((k : Int) = (1 : Int) + (q : Int) - 1) = true := by simp; omega
              have dq2 : ((k : Int) == (1 : Int) + (q : Int) - 1) = true := by simp; omega
              have dq3 : (k : Int) = (1 : Int) + (q : Int) - 1 := by omega
              have HEND := Lib.hid ((HG4.out.trans (hb3.mono hg2R) : Below w.heap.size w wr))
              clear hok hdn herr hC3 hn3 hbt3 hb3 hd hall hS5 HP hkq
              go_wp2
              go_ret
              exact ⟨rfl, HEND.out⟩
          · obtain rfl : j = 1 := by omega
            have hLR2 := HNX.out (fun j' h => hall.out j' h)
            obtain ⟨S6, hS6⟩ : ∃ S6, S6 = after l k now S 1 := ⟨_, rfl⟩
            rw [← hS6] at hLR2 hC3 hn3 hbt3
            have HREL := Lib.hid (show LR l i kd (k + 1) S6 now ∧ Cl R wr [.slice A3 n3 c3, .int .i64 (S6).Le, .int .i64 (S6).Nu, .int .i64 (S6).Bl, .int .i64 (S6).Gt, .bool (S6).Bu, .bool (S6).Dn, .int .i64 (S6).Dl, .bool (S6).Fl] ∧ n3 = S6.l.length ∧ Bt wr A3 S6.l ∧ (∀ b o, A3 = some ⟨b, o, none⟩ → b ≠ R) ∧ Below R w4 wr from ⟨hLR2, hC3, hn3, hbt3, hA3, hb3⟩)
            clear hLR2 hC3 hn3 hbt3 hA3 hb3 hall hS6 HST HNX
            go_wp2_with fail
            go_roundg (q + 1 - (k + 1))
            case measure => omega
            case rel =>
              obtain ⟨r1, r2, r3, r4, r5, r6⟩ := HREL.out
              exact ⟨k + 1, S6, now, A3, n3, c3, by omega, by omega, r1, rfl, by go_num, r2, r3, hc3, r4, r5, r6⟩
    · obtain rfl : k = q + 1 := by omega
      have hl8 : 8 ≤ l.length := by rw [HL.out]; omega
      have hl9 : l.length ≤ 1023 := by rw [HL.out]; omega
      have hqe : q = l.length / 7 := by rw [HL.out]; exact HQ.out
      have hw0 := lr_time hLR
      have KT := fun t (ht : t = now + 1000001) w h => tick_end (i := i) (kd := kd) (S := S) (now := now) hl8 hl9 hi1 (by omega) (by rw [← hqe]; exact hLR) A2 n2 c2 t ht w hn2.symm h hc2
      obtain ⟨hw1, hw2⟩ := hw0
      replace KT := Lib.hid KT
      have HC := Lib.hid hC
      have HBT := Lib.hid hbt
      have HB := Lib.hid hb
      have hRl := hC.1
      clear hl8 hl9 hqe hLR hC hn2 hbt hA2 hb hlt hgk
      have p0 := HC.out.c 0 rfl
      have p1 := HC.out.c 1 rfl
      have p2 := HC.out.c 2 rfl
      have p3 := HC.out.c 3 rfl
      have p4 := HC.out.c 4 rfl
      have p5 := HC.out.c 5 rfl
      have p6 := HC.out.c 6 rfl
      have p7 := HC.out.c 7 rfl
      have p8 := HC.out.c 8 rfl
      have e0 := HC.out.f 0 rfl
      have e1 := HC.out.f 1 rfl
      have e2 := HC.out.f 2 rfl
      have e3 := HC.out.f 3 rfl
      have e4 := HC.out.f 4 rfl
      have e5 := HC.out.f 5 rfl
      have e6 := HC.out.f 6 rfl
      have e7 := HC.out.f 7 rfl
      have e8 := HC.out.f 8 rfl
      go_wp2_with fail
      refine (KT.out _ (by omega) _ HBT.out).mono ?_
      rintro x w5 ⟨A5, n5, c5, rfl, hn5, hc5, hbt5, hb5⟩
      obtain rfl : n5 = 0 := hn5
      have P5 := HC.out.below hb5
      have G5 := HB.out.trans (hb5.mono (Nat.le_of_lt hRl))
      have HG5 := Lib.hid G5
      have HG4' := HG4
      have hR5 := P5.1
      clear p0 p1 p2 p3 p4 p5 p6 p7 p8 e0 e1 e2 e3 e4 e5 e6 e7 e8 hbt5 hb5 G5
      have p0 := P5.c 0 rfl
      have p1 := P5.c 1 rfl
      have p2 := P5.c 2 rfl
      have p3 := P5.c 3 rfl
      have p4 := P5.c 4 rfl
      have p5 := P5.c 5 rfl
      have p6 := P5.c 6 rfl
      have p7 := P5.c 7 rfl
      have p8 := P5.c 8 rfl
      have e0 := P5.f 0 rfl
      have e1 := P5.f 1 rfl
      have e2 := P5.f 2 rfl
      have e3 := P5.f 3 rfl
      have e4 := P5.f 4 rfl
      have e5 := P5.f 5 rfl
      have e6 := P5.f 6 rfl
      have e7 := P5.f 7 rfl
      have e8 := P5.f 8 rfl
      clear P5
      go_wp2
      go_ret
      refine ⟨rfl, HG4.out.trans (Below.mono ?_ hg2R)⟩
      exact below_set9 HG5.out (Nat.le_refl _) _ _ _ _ _ _ _ _ _
theorem loss3 (A : Option Addr) (n c : Nat) (l : List Int) (wh kk : Int) (w : World) (hl : l.length = n) (hb : Bt w A l) (hB : Byt l) (hc : n ≤ c) (wh0 : 0 ≤ wh) (wh1 : wh ≤ 255) (kk0 : 0 ≤ kk) (kk1 : kk ≤ 255) : Calls Try.prog 3 #[.slice A n c, .int .u8 wh, .int .u8 kk] w fun x w' => x = .returned (.bool true) ∧ Below w.heap.size w w' := by
  by_cases h : n < 8
  · exact loss_small A n c l wh kk w hl hb hB hc wh0 wh1 kk0 kk1 h
  cases hm : msgB n
  · exact loss_big A n c l wh kk w hl hb hB hc wh0 wh1 kk0 kk1 h hm
  · exact loss_ok A n c l wh kk w hl hb hB hc wh0 wh1 kk0 kk1 h hm
end Go.Proofs.Ytfjeediecmhedaa
