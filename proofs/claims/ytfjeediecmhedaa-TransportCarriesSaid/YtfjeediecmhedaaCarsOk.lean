/-
  The law TransportCarries of every input. No condition but the slice's shape.
-/
import Derived.Test.YtfjeediecmhedaaCarsCore
set_option linter.unusedVariables false
set_option linter.unusedSimpArgs false
namespace Go.Proofs.Ytfjeediecmhedaa
open Go.RowKit
set_option maxRecDepth 100000 in
set_option maxHeartbeats 16000000 in
theorem carries_ok (A : Option Addr) (n c : Nat) (b g : Int) (l : List Int) (w : World) (hl : l.length = n) (hb : Bt w A l) (hc : n ≤ c) (h : ¬ 1100 < n) (hm : msgB n = true) (b0 : 0 ≤ b) (b1 : b ≤ 255) (g0 : 0 ≤ g) (g1 : g ≤ 127) : Calls Try.prog 4 #[.slice A n c, .int .i64 b, .int .i64 g] w fun x w' => x = .returned (.bool true) ∧ Below w.heap.size w w' := by
  have LG := fun w => long15 A n c w
  rw [decide_eq_false h] at LG
  replace LG := Lib.hid LG
  have M := fun w => message11 A n c w
  rw [hm] at M
  replace M := Lib.hid M
  have K := fun w h => carry12_ok A n c b g l w hl h hc hm b0 b1 g0 g1
  have K2 := fun w h => rcarry17 A n c b g l w hl h hc hm b0 b1 g0 g1
  obtain ⟨m0, m1⟩ : 1 ≤ n ∧ n ≤ 1023 := by simpa [msgB] using hm
  have hcnt := allM_cnt l b g (by omega) (by omega)
  have hsz := allM_size l b g
  have hlen := allM_len8 l b g
  obtain ⟨fs, hfs⟩ : ∃ fs, fs = allM l b g := ⟨_, rfl⟩
  rw [← hfs] at K K2 hcnt hsz hlen
  rw [hl] at hcnt hsz
  replace K := Lib.hid K
  replace K2 := Lib.hid K2
  have HC := Lib.hid hcnt
  have HLN := Lib.hid hlen
  have HB := Lib.hid hb
  have d0 : decide (b < 0) = false := by simp; omega
  have d1 : decide (255 < b) = false := by simp; omega
  have d2 : decide (g < 0) = false := by simp; omega
  have d3 : decide (127 < g) = false := by simp; omega
  clear hb hl h hm hcnt hlen hfs
  go_enter Try.func4, Try.ntmps4
  go_wp2_with fail
  refine (awake10 _).mono ?_
  rintro x w1 ⟨rfl, hb1⟩
  have hg1 := chain (w := w) (by go_grown) hb1
  go_wp2_with fail
  refine (LG.out _).mono ?_
  rintro x w2 ⟨rfl, rfl⟩
  go_wp2_with fail
  refine (K.out _ (HB.out.below hg1)).mono ?_
  rintro x w2 ⟨g1', m, d, xs, rfl, hm1, hmd, hg0, hgl, hcell, hrw, hb2⟩
  have hg2 := chain hg1 hb2
  have HM := Lib.hid hm1
  have hm5 : m ≤ 5000 := by omega
  have HCL := Lib.hid hcell
  have HRW := Lib.hid hrw
  have hz1 := hb2.size
  clear hm1 hcell hrw
  go_wp2_with fail
  refine (M.out _).mono ?_
  rintro x w3 ⟨rfl, rfl⟩
  go_wp2_with fail
  refine (K2.out _ (HB.out.below hg2)).mono ?_
  rintro x w3 ⟨g2, m2, d2', ys, rfl, hm2, hmd2, hg02, hgl2, hcell2, hrw2, hb3⟩
  obtain rfl : m = m2 := by rw [hm2, HM.out]
  have hg3 := chain hg2 hb3
  have hz2 := hb3.size
  have c3 : ∀ j u, xs[j]? = some u → w3.cell? ⟨g1', j, none⟩ = some u := fun j u e => ((bcell hb3).1 _ _ hgl).trans (HCL.out j u e)
  have hr3 := HRW.out.below hb3
  have hg3l : g1' < w3.heap.size := by omega
  have E := Lib.hid (eqf16 g1' d g2 d2' m xs ys fs _ _ w3 HM.out (by omega) hmd hmd2 hg3l hgl2 hr3 hrw2 c3 hcell2)
  have HC3 := Lib.hid c3
  have HR3 := Lib.hid hr3
  clear hm2 hcell2 hrw2 hb3 c3 hr3 HCL HRW
  go_wp2_with fail
  refine E.out.mono ?_
  rintro x w4 ⟨rfl, hb4⟩
  have hg4 := chain hg3 hb4
  have hz4 := hb4.size
  have HC4 := Lib.hid (fun (j : Nat) (u : Value) (e : xs[j]? = some u) => ((bcell hb4).1 g1' j hg3l).trans (HC3.out j u e))
  have HR4 := Lib.hid (HR3.out.below hb4)
  have hg4l : g1' < w4.heap.size := by omega
  clear hb4 HC3 HR3 E
  go_wp2_with fail
  go_loopg [9, 72] m (fun gk v9 v wr => ∃ i : Nat, i ≤ m ∧ m - i ≤ gk ∧ v9 = .int .i64 (cntO (fs.take i) : Nat) ∧ v = .int .i64 i ∧ Below w4.heap.size w4 wr)
  case atStart => exact ⟨0, by omega, by omega, by simp [cntO], rfl, Below.refl _ _⟩
  case round =>
    obtain ⟨i, hi, hgk, rfl, rfl, hb⟩ := hrel
    by_cases hlt : i < m
    · have hf : i < fs.length := by rw [← HM.out]; exact hlt
      obtain ⟨B, c1, e1, h1, h2, h3⟩ := (HR4.out.below hb).get hf
      have q1 : wr.cell? ⟨g1', i, none⟩ = some (.slice B fs[i].length c1) := ((bcell hb).1 _ _ hg4l).trans (HC4.out i _ e1)
      have hf8 : fs[i].length = 8 := HLN.out _ (List.getElem_mem hf)
      have ht := cntO_take (List.getElem?_eq_getElem hf)
      have hci := cntO_le (fs.take i)
      have hci2 : (fs.take i).length ≤ i := by simp; omega
      obtain ⟨f, hfi⟩ : ∃ f, f = fs[i] := ⟨_, rfl⟩
      rw [← hfi] at q1 h1 h2 hf8 ht
      rw [hf8] at q1
      obtain ⟨bb, oo, rfl, hbl⟩ := h2.addr (by omega)
      have q2 := (h2.at 0 (by omega)).1
      rw [Nat.add_zero] at q2
      have HT := Lib.hid ht
      obtain ⟨k, hk⟩ : ∃ k, k = cntO (fs.take i) := ⟨_, rfl⟩
      rw [← hk] at hci ⊢
      have HK := Lib.hid hk
      have hz := hb.size
      clear e1 h2 h3 hfi hf ht hk
      obtain ⟨y, hy⟩ : ∃ y, y = f.getD 0 0 := ⟨_, rfl⟩
      rw [← hy] at q2
      have HY := Lib.hid hy
      clear hy
      cases ho : ownB f
      · have d9 : decide (y < 48) = false := by rw [HY.out]; exact ho
        have HO := Lib.hid ho
        clear ho
        go_wp2_with fail
        go_roundg (m - (i + 1))
        case measure => omega
        case rel => exact ⟨i + 1, by omega, by omega, by rw [HT.out, HO.out, ← HK.out]; simp, by go_num, hb⟩
      · have d9 : decide (y < 48) = true := by rw [HY.out]; exact ho
        have HO := Lib.hid ho
        clear ho
        go_wp2_with fail
        go_roundg (m - (i + 1))
        case measure => omega
        case rel => exact ⟨i + 1, by omega, by omega, by rw [HT.out, HO.out, ← HK.out]; go_num, by go_num, hb⟩
    · obtain rfl : i = m := by omega
      have hcn : cntO (fs.take i) = cntO fs := by rw [HM.out, List.take_length]
      rw [hcn, HC.out]
      have hgb := chain hg4 hb
      by_cases h7 : n ≤ 7
      · rw [if_pos h7]
        go_wp2
        go_ret
        exact ⟨rfl, hgb⟩
      · rw [if_neg h7]
        obtain ⟨q, hq⟩ : ∃ q : Nat, q = n / 7 := ⟨_, rfl⟩
        rw [← hq]
        have hq1 : 1 ≤ q := by omega
        have hq2 : q ≤ 200 := by omega
        have dv : ((n : Int) - 6 + 6) / 7 = (q : Int) := by omega
        have e1 : decide (((1 + q : Nat) : Int) = 1) = false := by simp; omega
        go_wp2
        go_ret
        exact ⟨rfl, hgb⟩
theorem carries4 (A : Option Addr) (n c : Nat) (b g : Int) (l : List Int) (w : World) (hl : l.length = n) (hb : Bt w A l) (hc : n ≤ c) : Calls Try.prog 4 #[.slice A n c, .int .i64 b, .int .i64 g] w fun x w' => x = .returned (.bool true) ∧ Below w.heap.size w w' := by
  by_cases h : 1100 < n
  · exact carries_big A n c b g l w hl hb hc h
  cases hm : msgB n
  · exact carries_arg A n c b g l w hl hb hc h hm
  by_cases hr : b < 0 ∨ 255 < b ∨ g < 0 ∨ 127 < g
  · exact carries_range A n c b g l w hl hb hc h hm hr
  · exact carries_ok A n c b g l w hl hb hc h hm (by omega) (by omega) (by omega) (by omega)
end Go.Proofs.Ytfjeediecmhedaa
