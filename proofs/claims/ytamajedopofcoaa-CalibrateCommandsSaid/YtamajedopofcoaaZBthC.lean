/-
  Command and the reference's Command answer alike, whatever came in. No condition but the slices' shape.
-/
import Derived.Test.YtamajedopofcoaaZBth
import Derived.Test.YtamajedopofcoaaZR4B
import Derived.Test.YtamajedopofcoaaZR4C
import Derived.Test.YtamajedopofcoaaZH
import Derived.Test.YtamajedopofcoaaZCmS
import Derived.Test.YtamajedopofcoaaZCmW
import Derived.Test.YtamajedopofcoaaZCmM
import Derived.Test.YtamajedopofcoaaZCmN
set_option linter.unusedVariables false
set_option linter.unusedSimpArgs false
namespace Go.Proofs.Ytamajedopofcoaa
open Go.RowKit
theorem readM_b (p : PG) (i v e : Int) (hr : readM p i = (v, e)) (hv : p.ok = true) : (-9223372036854775808 ≤ v ∧ v ≤ 9223372036854775807) ∧ 0 ≤ e ∧ e ≤ 255 := by
  obtain ⟨_, _, h3, _, _, _, _, _, h9, h10⟩ := vP_t hv
  have key : ∀ (l : List Int) (j : Nat), allP l = true → -9223372036854775808 ≤ l.getD j 0 ∧ l.getD j 0 ≤ 9223372036854775807 := fun l j hl => by
    by_cases hj : j < l.length
    · unfold allP at hl
      rw [List.all_eq_true] at hl
      have := parB_t (hl _ (List.getElem_mem hj))
      simp only [List.getD, List.getElem?_eq_getElem hj, Option.getD_some]
      omega
    · simp only [List.getD, List.getElem?_eq_none (Nat.le_of_not_lt hj), Option.getD_none]
      omega
  unfold readM at hr
  rw [if_neg (by rw [hv]; decide)] at hr
  split at hr
  · injection hr with h1 h2; subst h1; subst h2; omega
  · split at hr
    · injection hr with h1 h2; subst h2; rw [← h1]; exact ⟨key _ _ h9, by omega⟩
    · injection hr with h1 h2; subst h2; rw [← h1]; exact ⟨key _ _ h10, by omega⟩
theorem wriM_b (p q : PG) (i x e : Int) (ms : List MS) (hr : wriM p i x = (q, e)) (hv : p.ok = true) (hs : Sz p ms) : (0 ≤ e ∧ e ≤ 255) ∧ Sz q ms := by
  obtain ⟨_, _, _, _, _, _, h7, _, _, _⟩ := vP_t hv
  unfold wriM at hr
  rw [if_neg (by rw [hv]; decide)] at hr
  split at hr
  · split at hr
    · injection hr with h1 h2; subst h1; subst h2; exact ⟨by omega, by simp [pz], by simp [pz], by simp [pz], hs.2.2.2⟩
    · injection hr with h1 h2; subst h1; subst h2; exact ⟨by omega, hs.1, hs.2.1, by simp only [List.length_append, List.length_cons, List.length_nil]; omega, hs.2.2.2⟩
  · injection hr with h1 h2; subst h1; subst h2; exact ⟨by omega, by simp [pz], by simp [pz], by simp [pz], hs.2.2.2⟩
theorem selM_b (p q : PG) (g e : Int) (ms : List MS) (hr : selM p g = (q, e)) (hv : p.ok = true) (hs : Sz p ms) : (0 ≤ e ∧ e ≤ 255) ∧ Sz q ms := by
  unfold selM at hr
  rw [if_neg (by rw [hv]; decide)] at hr
  split at hr
  · injection hr with h1 h2; subst h1; subst h2; exact ⟨by omega, hs⟩
  · injection hr with h1 h2; subst h1; subst h2; exact ⟨by omega, by simp [pz], by simp [pz], by simp [pz], hs.2.2.2⟩
theorem meaM_b (ms : List MS) (k : Int) (x : MS) (h8 : ms.length ≤ 100) (hx : x.Ce.length ≤ 5000) (hs : ∀ y ∈ ms, y.Ce.length ≤ 5000) : (0 ≤ (meaM ms k x).2 ∧ (meaM ms k x).2 ≤ 255) ∧ (meaM ms k x).1.length ≤ 5000 ∧ ∀ y ∈ (meaM ms k x).1, y.Ce.length ≤ 5000 := by
  unfold meaM
  split
  · exact ⟨by simp, by simp only; omega, hs⟩
  · split
    · exact ⟨by simp, by simp only; omega, hs⟩
    · split
      · refine ⟨by simp, by simp only [List.length_append, List.length_cons, List.length_nil]; omega, fun y hy => ?_⟩
        rcases List.mem_append.1 hy with h | h
        · exact hs y h
        · rw [List.mem_singleton] at h; rw [h]; exact hx
      · refine ⟨by simp, by simp only [List.length_set]; omega, fun y hy => ?_⟩
        rcases List.mem_or_eq_of_mem_set hy with h | h
        · exact hs y h
        · rw [h]; exact hx
theorem eight {n : Nat} {b : Bool} (h : (decide (n ≤ 8) && b) = true) : n ≤ 8 := by
  simp only [Bool.and_eq_true, decide_eq_true_eq] at h
  exact h.1
theorem both_1 {A : Option Addr} {n c : Nat} {A2 : Option Addr} {n2 c2 : Nat} {Ac Pe : Int} {A3 : Option Addr} {m c3 : Nat} {R W : List Int} {ch : List (Int × Int)} {A4 : Option Addr} {mm c4 : Nat} {l : List MV} {b o nb c5 : Nat} {bs : List Int} {w : World} (H : Inp A n c A2 n2 c2 Ac Pe A3 m c3 R W ch A4 mm c4 l (some ⟨b, o, none⟩) nb c5 bs w) (hbl : b < w.heap.size) (hv : vP R W Ac Pe ch = true) (hm8 : (decide (mm ≤ 8) && !l.any bV) = true) (hnb : 0 < nb) (h0 : bs.getD 0 0 = 1) : Both A n c A2 n2 c2 Ac Pe A3 m c3 R W ch A4 mm c4 l (some ⟨b, o, none⟩) nb c5 w := by
  by_cases hn : nb = 3
  · subst hn
    rcases hr : readM ⟨R, W, Ac, Pe, ch⟩ (bs.getD 1 0 * 256 + bs.getD 2 0) with ⟨v, er⟩
    obtain ⟨⟨v0, v1⟩, e0, e1⟩ := readM_b _ _ _ _ hr hv
    have K42 := fun w1 (hw : Below w.heap.size w w1) => r42_read A n c A2 n2 c2 Ac Pe A3 m c3 R W ch A4 mm c4 l b o c5 (bs.getD 1 0) (bs.getD 2 0) v er w1 (H.below hw).hl (H.below hw).hb (H.below hw).hc (H.below hw).hl2 (H.below hw).hb2 (H.below hw).hc2 (H.below hw).hl3 (H.below hw).hb3 (H.below hw).hc3 H.hs H.hs2 H.hs3 (H.below hw).hlm (H.below hw).hcv (H.below hw).hmo (H.below hw).hcm hv hm8 (fun w2 h2 => form56_1t b o 3 c5 rfl w2 (by have := (byte_at (H.below (chain hw h2)).hB (H.below (chain hw h2)).hr8 (i := 0) (by rw [(H.below (chain hw h2)).hbs]; omega)).1; rw [h0] at this; exact this) (by decide)) (by have := (byte_at (H.below hw).hB (H.below hw).hr8 (i := 0) (by rw [(H.below hw).hbs]; omega)).1; rw [h0] at this; exact this) (Nat.lt_of_lt_of_le hbl hw.size) H.hc5 (byte_at (H.below hw).hB (H.below hw).hr8 (i := 1) (by rw [(H.below hw).hbs]; omega)).1 (byte_at (H.below hw).hB (H.below hw).hr8 (i := 2) (by rw [(H.below hw).hbs]; omega)).1 (byte_at H.hB H.hr8 (i := 1) (by rw [H.hbs]; omega)).2.1 (byte_at H.hB H.hr8 (i := 1) (by rw [H.hbs]; omega)).2.2 (byte_at H.hB H.hr8 (i := 2) (by rw [H.hbs]; omega)).2.1 (byte_at H.hB H.hr8 (i := 2) (by rw [H.hbs]; omega)).2.2 v0 v1 hr
    by_cases he : er = 0
    · subst he
      refine both_ok H hv hm8 hnb ⟨R, W, Ac, Pe, ch⟩ (l.map MV.m) (byts v) H.sz (by simp [byts]) (fun X1 k1 X2 k2 X3 k3 A5 c6 l' G S w1 hin => ?_) (fun S w1 hw hS => ?_)
      · have hw : Below w.heap.size w w1 := hin.2.2.2.2.2.2.2.2.2
        refine (cmd41_read X1 R.length k1 X2 W.length k2 Ac Pe X3 ch.length k3 R W ch A5 mm c6 b o c5 (bs.getD 1 0) (bs.getD 2 0) v w1 rfl hin.2.1.1.1 hin.1.1 rfl hin.2.1.2.1.1 hin.1.2.1 rfl hin.2.1.2.2.1 hin.1.2.2 (by rw [H.hl]; exact H.hs) (by rw [H.hl2]; exact H.hs2) (by rw [H.hl3]; exact H.hs3) (by have := (byte_at (H.below hw).hB (H.below hw).hr8 (i := 0) (by rw [(H.below hw).hbs]; omega)).1; rw [h0] at this; exact this) (byte_at (H.below hw).hB (H.below hw).hr8 (i := 1) (by rw [(H.below hw).hbs]; omega)).1 (byte_at (H.below hw).hB (H.below hw).hr8 (i := 2) (by rw [(H.below hw).hbs]; omega)).1 (Nat.lt_of_lt_of_le hbl hw.size) H.hc5 (byte_at H.hB H.hr8 (i := 1) (by rw [H.hbs]; omega)).2.1 (byte_at H.hB H.hr8 (i := 1) (by rw [H.hbs]; omega)).2.2 (byte_at H.hB H.hr8 (i := 2) (by rw [H.hbs]; omega)).2.1 (byte_at H.hB H.hr8 (i := 2) (by rw [H.hbs]; omega)).2.2 v0 v1 hr).mono (fun r w' hh => ?_)
        obtain ⟨Bq, cq, hr', hcq, hib, hfb, hb'⟩ := hh
        exact ⟨⟨X1, k1, X2, k2, X3, k3, A5, c6, Bq, cq, by rw [hr', List.length_map, H.hlm]; rfl, hin.1, hin.pages (GB.of hb'), hin.lo hb', fr_iy hib hfb (fun s hs => (hin.2.2.2.2.2.2.2.2.1 s hs).1), hcq, fun h => by simp [byts] at h⟩, GB.of hb'⟩
      · refine (K42 w1 hw).mono (fun r w' hh => ?_)
        obtain ⟨Bq, cq, hr', hcq, hib, hfb, hb'⟩ := hh
        have hS1 : ∀ s ∈ S, w.heap.size ≤ s := fun s hs => (hS s hs).1
        exact ⟨⟨A, c, A2, c2, A3, c3, A4, c4, Bq, cq, by rw [hr', List.length_map, H.hlm, H.hl, H.hl2, H.hl3]; rfl, ⟨by rw [H.hl]; exact H.hc, by rw [H.hl2]; exact H.hc2, by rw [H.hl3]; exact H.hc3⟩, ⟨old_iy H.hb hS1 (chain hw hb'), old_iy H.hb2 hS1 (chain hw hb'), old_iy H.hb3 hS1 (chain hw hb')⟩, old_lo H.hlm H.hcv H.hmo H.hcm hS1 (chain hw hb'), fr_iy hib hfb (fun s hs => (hS s hs).2), hcq, fun h => by simp [byts] at h⟩, hb'⟩
    · refine both_err H hv hm8 hnb er he e0 e1 (fun X1 k1 X2 k2 X3 k3 A5 c6 l' G S w1 hin => ?_) (fun w1 hw => ?_)
      · have hw : Below w.heap.size w w1 := hin.2.2.2.2.2.2.2.2.2
        exact e41 G (cmd41_readno X1 R.length k1 X2 W.length k2 Ac Pe X3 ch.length k3 R W ch A5 mm c6 b o c5 (bs.getD 1 0) (bs.getD 2 0) v er w1 rfl hin.2.1.1.1 hin.1.1 rfl hin.2.1.2.1.1 hin.1.2.1 rfl hin.2.1.2.2.1 hin.1.2.2 (by rw [H.hl]; exact H.hs) (by rw [H.hl2]; exact H.hs2) (by rw [H.hl3]; exact H.hs3) (by have := (byte_at (H.below hw).hB (H.below hw).hr8 (i := 0) (by rw [(H.below hw).hbs]; omega)).1; rw [h0] at this; exact this) (Nat.lt_of_lt_of_le hbl hw.size) H.hc5 (byte_at (H.below hw).hB (H.below hw).hr8 (i := 1) (by rw [(H.below hw).hbs]; omega)).1 (byte_at (H.below hw).hB (H.below hw).hr8 (i := 2) (by rw [(H.below hw).hbs]; omega)).1 (byte_at H.hB H.hr8 (i := 1) (by rw [H.hbs]; omega)).2.1 (byte_at H.hB H.hr8 (i := 1) (by rw [H.hbs]; omega)).2.2 (byte_at H.hB H.hr8 (i := 2) (by rw [H.hbs]; omega)).2.1 (byte_at H.hB H.hr8 (i := 2) (by rw [H.hbs]; omega)).2.2 hr he)
      · refine (K42 w1 hw).mono (fun r w' hh => ?_)
        obtain ⟨Bq, cq, hr', hcq, hib, hfb, hb'⟩ := hh
        exact ⟨A, n, c, A2, n2, c2, Ac, Pe, A3, m, c3, _, _, hr', hb'⟩
  · refine both_err H hv hm8 hnb 3 (by decide) (by decide) (by decide) (fun X1 k1 X2 k2 X3 k3 A5 c6 l' G S w1 hin => ?_) (fun w1 hw => ?_)
    · have hw : Below w.heap.size w w1 := hin.2.2.2.2.2.2.2.2.2
      exact e41 G (cmd41_form1 X1 R.length k1 X2 W.length k2 Ac Pe X3 ch.length k3 R W ch A5 mm c6 b o nb c5 w1 (by have := (byte_at (H.below hw).hB (H.below hw).hr8 (i := 0) (by rw [(H.below hw).hbs]; omega)).1; rw [h0] at this; exact this) (Nat.lt_of_lt_of_le hbl hw.size) H.hc5 hnb hn)
    · exact r42_form A n c A2 n2 c2 Ac Pe A3 m c3 R W ch A4 mm c4 l (some ⟨b, o, none⟩) nb c5 w1 (H.below hw).hl (H.below hw).hb (H.below hw).hc (H.below hw).hl2 (H.below hw).hb2 (H.below hw).hc2 (H.below hw).hl3 (H.below hw).hb3 (H.below hw).hc3 H.hs H.hs2 H.hs3 (H.below hw).hlm (H.below hw).hcv (H.below hw).hmo (H.below hw).hcm hv hm8 (fun w2 h2 => form56_1f b o nb c5 hn w2 (by have := (byte_at (H.below (chain hw h2)).hB (H.below (chain hw h2)).hr8 (i := 0) (by rw [(H.below (chain hw h2)).hbs]; omega)).1; rw [h0] at this; exact this) hnb)
theorem both_2 {A : Option Addr} {n c : Nat} {A2 : Option Addr} {n2 c2 : Nat} {Ac Pe : Int} {A3 : Option Addr} {m c3 : Nat} {R W : List Int} {ch : List (Int × Int)} {A4 : Option Addr} {mm c4 : Nat} {l : List MV} {b o nb c5 : Nat} {bs : List Int} {w : World} (H : Inp A n c A2 n2 c2 Ac Pe A3 m c3 R W ch A4 mm c4 l (some ⟨b, o, none⟩) nb c5 bs w) (hbl : b < w.heap.size) (hv : vP R W Ac Pe ch = true) (hm8 : (decide (mm ≤ 8) && !l.any bV) = true) (hnb : 0 < nb) (h0 : bs.getD 0 0 = 2) : Both A n c A2 n2 c2 Ac Pe A3 m c3 R W ch A4 mm c4 l (some ⟨b, o, none⟩) nb c5 w := by
  by_cases hn : nb = 11
  · subst hn
    have hl8 : ((bs.drop 3).take 8).length = 8 := by have := H.hbs; simp only [List.length_take, List.length_drop]; omega
    have h8b : ∀ x ∈ (bs.drop 3).take 8, 0 ≤ x ∧ x ≤ 255 := fun x hx => H.hr8 x (List.mem_of_mem_drop (List.mem_of_mem_take hx))
    rcases hr : wriM ⟨R, W, Ac, Pe, ch⟩ (bs.getD 1 0 * 256 + bs.getD 2 0) (IntKind.i64.wrap (numL ((bs.drop 3).take 8))) with ⟨q, eq⟩
    obtain ⟨⟨e0, e1⟩, hq⟩ := wriM_b _ _ _ _ _ (l.map MV.m) hr hv H.sz
    have K42 := fun w1 (hw : Below w.heap.size w w1) => r42_write A n c A2 n2 c2 Ac Pe A3 m c3 R W ch A4 mm c4 l b o c5 (bs.getD 1 0) (bs.getD 2 0) (IntKind.i64.wrap (numL ((bs.drop 3).take 8))) eq ((bs.drop 3).take 8) q w1 (H.below hw).hl (H.below hw).hb (H.below hw).hc (H.below hw).hl2 (H.below hw).hb2 (H.below hw).hc2 (H.below hw).hl3 (H.below hw).hb3 (H.below hw).hc3 H.hs H.hs2 H.hs3 (H.below hw).hlm (H.below hw).hcv (H.below hw).hmo (H.below hw).hcm hv hm8 (fun w2 h2 => form56_2t b o 11 c5 rfl w2 (by have := (byte_at (H.below (chain hw h2)).hB (H.below (chain hw h2)).hr8 (i := 0) (by rw [(H.below (chain hw h2)).hbs]; omega)).1; rw [h0] at this; exact this) (by decide)) (by have := (byte_at (H.below hw).hB (H.below hw).hr8 (i := 0) (by rw [(H.below hw).hbs]; omega)).1; rw [h0] at this; exact this) (Nat.lt_of_lt_of_le hbl hw.size) H.hc5 (byte_at (H.below hw).hB (H.below hw).hr8 (i := 1) (by rw [(H.below hw).hbs]; omega)).1 (byte_at (H.below hw).hB (H.below hw).hr8 (i := 2) (by rw [(H.below hw).hbs]; omega)).1 (byte_at H.hB H.hr8 (i := 1) (by rw [H.hbs]; omega)).2.1 (byte_at H.hB H.hr8 (i := 1) (by rw [H.hbs]; omega)).2.2 (byte_at H.hB H.hr8 (i := 2) (by rw [H.hbs]; omega)).2.1 (byte_at H.hB H.hr8 (i := 2) (by rw [H.hbs]; omega)).2.2 ((H.below hw).hB.sub 3 8) hl8 h8b rfl hr
    by_cases he : eq = 0
    · subst he
      refine both_ok H hv hm8 hnb q (l.map MV.m) [] hq (by simp) (fun X1 k1 X2 k2 X3 k3 A5 c6 l' G S w1 hin => ?_) (fun S w1 hw hS => ?_)
      · have hw : Below w.heap.size w w1 := hin.2.2.2.2.2.2.2.2.2
        refine (cmd41_wriok X1 R.length k1 X2 W.length k2 Ac Pe X3 ch.length k3 R W ch A5 mm c6 b o c5 (bs.getD 1 0) (bs.getD 2 0) (IntKind.i64.wrap (numL ((bs.drop 3).take 8))) ((bs.drop 3).take 8) q w1 rfl hin.2.1.1.1 hin.1.1 rfl hin.2.1.2.1.1 hin.1.2.1 rfl hin.2.1.2.2.1 hin.1.2.2 (by rw [H.hl]; exact H.hs) (by rw [H.hl2]; exact H.hs2) (by rw [H.hl3]; exact H.hs3) (by have := (byte_at (H.below hw).hB (H.below hw).hr8 (i := 0) (by rw [(H.below hw).hbs]; omega)).1; rw [h0] at this; exact this) (Nat.lt_of_lt_of_le hbl hw.size) H.hc5 (byte_at (H.below hw).hB (H.below hw).hr8 (i := 1) (by rw [(H.below hw).hbs]; omega)).1 (byte_at (H.below hw).hB (H.below hw).hr8 (i := 2) (by rw [(H.below hw).hbs]; omega)).1 (byte_at H.hB H.hr8 (i := 1) (by rw [H.hbs]; omega)).2.1 (byte_at H.hB H.hr8 (i := 1) (by rw [H.hbs]; omega)).2.2 (byte_at H.hB H.hr8 (i := 2) (by rw [H.hbs]; omega)).2.1 (byte_at H.hB H.hr8 (i := 2) (by rw [H.hbs]; omega)).2.2 ((H.below hw).hB.sub 3 8) hl8 h8b rfl hr).mono (fun r w' hh => ?_)
        obtain ⟨Y1, j1, Y2, j2, Y3, j3, hr', hj1, hj2, hj3, hy1, hy2, hy3, ⟨f1, f2, f3⟩, hb'⟩ := hh
        have hSl : ∀ s ∈ S, s < w1.heap.size := fun s hs => (hin.2.2.2.2.2.2.2.2.1 s hs).1
        exact ⟨⟨Y1, j1, Y2, j2, Y3, j3, A5, c6, none, 0, by rw [hr', List.length_map, H.hlm]; rfl, ⟨hj1, hj2, hj3⟩, ⟨fr_iy hy1 f1 hSl, fr_iy hy2 f2 hSl, fr_iy hy3 f3 hSl⟩, hin.lo hb', ⟨Ik.nil _ _ _, fun h => absurd h (Nat.lt_irrefl 0)⟩, Nat.le_refl _, fun _ => rfl⟩, GB.of hb'⟩
      · refine (K42 w1 hw).mono (fun r w' hh => ?_)
        obtain ⟨Y1, j1, Y2, j2, Y3, j3, hr', hj1, hj2, hj3, hy1, hy2, hy3, ⟨f1, f2, f3⟩, hb'⟩ := hh
        have hS1 : ∀ s ∈ S, w.heap.size ≤ s := fun s hs => (hS s hs).1
        have hSl : ∀ s ∈ S, s < w1.heap.size := fun s hs => (hS s hs).2
        exact ⟨⟨Y1, j1, Y2, j2, Y3, j3, A4, c4, none, 0, by rw [hr', List.length_map, H.hlm]; rfl, ⟨hj1, hj2, hj3⟩, ⟨fr_iy hy1 f1 hSl, fr_iy hy2 f2 hSl, fr_iy hy3 f3 hSl⟩, old_lo H.hlm H.hcv H.hmo H.hcm hS1 (chain hw hb'), ⟨Ik.nil _ _ _, fun h => absurd h (Nat.lt_irrefl 0)⟩, Nat.le_refl _, fun _ => rfl⟩, hb'⟩
    · refine both_err H hv hm8 hnb eq he e0 e1 (fun X1 k1 X2 k2 X3 k3 A5 c6 l' G S w1 hin => ?_) (fun w1 hw => ?_)
      · have hw : Below w.heap.size w w1 := hin.2.2.2.2.2.2.2.2.2
        exact e41 G (cmd41_wrino X1 R.length k1 X2 W.length k2 Ac Pe X3 ch.length k3 R W ch A5 mm c6 b o c5 (bs.getD 1 0) (bs.getD 2 0) (IntKind.i64.wrap (numL ((bs.drop 3).take 8))) eq ((bs.drop 3).take 8) q w1 rfl hin.2.1.1.1 hin.1.1 rfl hin.2.1.2.1.1 hin.1.2.1 rfl hin.2.1.2.2.1 hin.1.2.2 (by rw [H.hl]; exact H.hs) (by rw [H.hl2]; exact H.hs2) (by rw [H.hl3]; exact H.hs3) (by have := (byte_at (H.below hw).hB (H.below hw).hr8 (i := 0) (by rw [(H.below hw).hbs]; omega)).1; rw [h0] at this; exact this) (Nat.lt_of_lt_of_le hbl hw.size) H.hc5 (byte_at (H.below hw).hB (H.below hw).hr8 (i := 1) (by rw [(H.below hw).hbs]; omega)).1 (byte_at (H.below hw).hB (H.below hw).hr8 (i := 2) (by rw [(H.below hw).hbs]; omega)).1 (byte_at H.hB H.hr8 (i := 1) (by rw [H.hbs]; omega)).2.1 (byte_at H.hB H.hr8 (i := 1) (by rw [H.hbs]; omega)).2.2 (byte_at H.hB H.hr8 (i := 2) (by rw [H.hbs]; omega)).2.1 (byte_at H.hB H.hr8 (i := 2) (by rw [H.hbs]; omega)).2.2 ((H.below hw).hB.sub 3 8) hl8 h8b rfl hr he)
      · refine (K42 w1 hw).mono (fun r w' hh => ?_)
        obtain ⟨Y1, j1, Y2, j2, Y3, j3, hr', hj1, hj2, hj3, hy1, hy2, hy3, hf, hb'⟩ := hh
        exact ⟨Y1, q.R.length, j1, Y2, q.W.length, j2, q.Ac, q.Pe, Y3, q.Ch.length, j3, _, _, hr', hb'⟩
  · refine both_err H hv hm8 hnb 3 (by decide) (by decide) (by decide) (fun X1 k1 X2 k2 X3 k3 A5 c6 l' G S w1 hin => ?_) (fun w1 hw => ?_)
    · have hw : Below w.heap.size w w1 := hin.2.2.2.2.2.2.2.2.2
      exact e41 G (cmd41_form2 X1 R.length k1 X2 W.length k2 Ac Pe X3 ch.length k3 R W ch A5 mm c6 b o nb c5 w1 (by have := (byte_at (H.below hw).hB (H.below hw).hr8 (i := 0) (by rw [(H.below hw).hbs]; omega)).1; rw [h0] at this; exact this) (Nat.lt_of_lt_of_le hbl hw.size) H.hc5 hnb hn)
    · exact r42_form A n c A2 n2 c2 Ac Pe A3 m c3 R W ch A4 mm c4 l (some ⟨b, o, none⟩) nb c5 w1 (H.below hw).hl (H.below hw).hb (H.below hw).hc (H.below hw).hl2 (H.below hw).hb2 (H.below hw).hc2 (H.below hw).hl3 (H.below hw).hb3 (H.below hw).hc3 H.hs H.hs2 H.hs3 (H.below hw).hlm (H.below hw).hcv (H.below hw).hmo (H.below hw).hcm hv hm8 (fun w2 h2 => form56_2f b o nb c5 hn w2 (by have := (byte_at (H.below (chain hw h2)).hB (H.below (chain hw h2)).hr8 (i := 0) (by rw [(H.below (chain hw h2)).hbs]; omega)).1; rw [h0] at this; exact this) hnb)
theorem both_3 {A : Option Addr} {n c : Nat} {A2 : Option Addr} {n2 c2 : Nat} {Ac Pe : Int} {A3 : Option Addr} {m c3 : Nat} {R W : List Int} {ch : List (Int × Int)} {A4 : Option Addr} {mm c4 : Nat} {l : List MV} {b o nb c5 : Nat} {bs : List Int} {w : World} (H : Inp A n c A2 n2 c2 Ac Pe A3 m c3 R W ch A4 mm c4 l (some ⟨b, o, none⟩) nb c5 bs w) (hbl : b < w.heap.size) (hv : vP R W Ac Pe ch = true) (hm8 : (decide (mm ≤ 8) && !l.any bV) = true) (hnb : 0 < nb) (h0 : bs.getD 0 0 = 3) : Both A n c A2 n2 c2 Ac Pe A3 m c3 R W ch A4 mm c4 l (some ⟨b, o, none⟩) nb c5 w := by
  by_cases hn : nb = 2
  · subst hn
    rcases hr : selM ⟨R, W, Ac, Pe, ch⟩ (bs.getD 1 0) with ⟨q, eq⟩
    obtain ⟨⟨e0, e1⟩, hq⟩ := selM_b _ _ _ _ (l.map MV.m) hr hv H.sz
    have K42 := fun w1 (hw : Below w.heap.size w w1) => r42_sel A n c A2 n2 c2 Ac Pe A3 m c3 R W ch A4 mm c4 l b o c5 (bs.getD 1 0) eq q w1 (H.below hw).hl (H.below hw).hb (H.below hw).hc (H.below hw).hl2 (H.below hw).hb2 (H.below hw).hc2 (H.below hw).hl3 (H.below hw).hb3 (H.below hw).hc3 H.hs H.hs2 H.hs3 (H.below hw).hlm (H.below hw).hcv (H.below hw).hmo (H.below hw).hcm hv hm8 (fun w2 h2 => form56_3t b o 2 c5 rfl w2 (by have := (byte_at (H.below (chain hw h2)).hB (H.below (chain hw h2)).hr8 (i := 0) (by rw [(H.below (chain hw h2)).hbs]; omega)).1; rw [h0] at this; exact this) (by decide)) (by have := (byte_at (H.below hw).hB (H.below hw).hr8 (i := 0) (by rw [(H.below hw).hbs]; omega)).1; rw [h0] at this; exact this) (Nat.lt_of_lt_of_le hbl hw.size) H.hc5 (byte_at (H.below hw).hB (H.below hw).hr8 (i := 1) (by rw [(H.below hw).hbs]; omega)).1 (byte_at H.hB H.hr8 (i := 1) (by rw [H.hbs]; omega)).2.1 (byte_at H.hB H.hr8 (i := 1) (by rw [H.hbs]; omega)).2.2 hr
    by_cases he : eq = 0
    · subst he
      refine both_ok H hv hm8 hnb q (l.map MV.m) [] hq (by simp) (fun X1 k1 X2 k2 X3 k3 A5 c6 l' G S w1 hin => ?_) (fun S w1 hw hS => ?_)
      · have hw : Below w.heap.size w w1 := hin.2.2.2.2.2.2.2.2.2
        refine (cmd41_selok X1 R.length k1 X2 W.length k2 Ac Pe X3 ch.length k3 R W ch A5 mm c6 b o c5 (bs.getD 1 0) q w1 rfl hin.2.1.1.1 hin.1.1 rfl hin.2.1.2.1.1 hin.1.2.1 rfl hin.2.1.2.2.1 hin.1.2.2 (by rw [H.hl]; exact H.hs) (by rw [H.hl2]; exact H.hs2) (by rw [H.hl3]; exact H.hs3) (by have := (byte_at (H.below hw).hB (H.below hw).hr8 (i := 0) (by rw [(H.below hw).hbs]; omega)).1; rw [h0] at this; exact this) (Nat.lt_of_lt_of_le hbl hw.size) H.hc5 (byte_at (H.below hw).hB (H.below hw).hr8 (i := 1) (by rw [(H.below hw).hbs]; omega)).1 (byte_at H.hB H.hr8 (i := 1) (by rw [H.hbs]; omega)).2.1 (byte_at H.hB H.hr8 (i := 1) (by rw [H.hbs]; omega)).2.2 hr).mono (fun r w' hh => ?_)
        obtain ⟨Y1, j1, Y2, j2, Y3, j3, hr', hj1, hj2, hj3, hy1, hy2, hy3, ⟨f1, f2, f3⟩, hb'⟩ := hh
        have hSl : ∀ s ∈ S, s < w1.heap.size := fun s hs => (hin.2.2.2.2.2.2.2.2.1 s hs).1
        exact ⟨⟨Y1, j1, Y2, j2, Y3, j3, A5, c6, none, 0, by rw [hr', List.length_map, H.hlm]; rfl, ⟨hj1, hj2, hj3⟩, ⟨fr_iy hy1 f1 hSl, fr_iy hy2 f2 hSl, fr_iy hy3 f3 hSl⟩, hin.lo hb', ⟨Ik.nil _ _ _, fun h => absurd h (Nat.lt_irrefl 0)⟩, Nat.le_refl _, fun _ => rfl⟩, GB.of hb'⟩
      · refine (K42 w1 hw).mono (fun r w' hh => ?_)
        obtain ⟨Y1, j1, Y2, j2, Y3, j3, hr', hj1, hj2, hj3, hy1, hy2, hy3, ⟨f1, f2, f3⟩, hb'⟩ := hh
        have hS1 : ∀ s ∈ S, w.heap.size ≤ s := fun s hs => (hS s hs).1
        have hSl : ∀ s ∈ S, s < w1.heap.size := fun s hs => (hS s hs).2
        exact ⟨⟨Y1, j1, Y2, j2, Y3, j3, A4, c4, none, 0, by rw [hr', List.length_map, H.hlm]; rfl, ⟨hj1, hj2, hj3⟩, ⟨fr_iy hy1 f1 hSl, fr_iy hy2 f2 hSl, fr_iy hy3 f3 hSl⟩, old_lo H.hlm H.hcv H.hmo H.hcm hS1 (chain hw hb'), ⟨Ik.nil _ _ _, fun h => absurd h (Nat.lt_irrefl 0)⟩, Nat.le_refl _, fun _ => rfl⟩, hb'⟩
    · refine both_err H hv hm8 hnb eq he e0 e1 (fun X1 k1 X2 k2 X3 k3 A5 c6 l' G S w1 hin => ?_) (fun w1 hw => ?_)
      · have hw : Below w.heap.size w w1 := hin.2.2.2.2.2.2.2.2.2
        exact e41 G (cmd41_selno X1 R.length k1 X2 W.length k2 Ac Pe X3 ch.length k3 R W ch A5 mm c6 b o c5 (bs.getD 1 0) eq q w1 rfl hin.2.1.1.1 hin.1.1 rfl hin.2.1.2.1.1 hin.1.2.1 rfl hin.2.1.2.2.1 hin.1.2.2 (by rw [H.hl]; exact H.hs) (by rw [H.hl2]; exact H.hs2) (by rw [H.hl3]; exact H.hs3) (by have := (byte_at (H.below hw).hB (H.below hw).hr8 (i := 0) (by rw [(H.below hw).hbs]; omega)).1; rw [h0] at this; exact this) (Nat.lt_of_lt_of_le hbl hw.size) H.hc5 (byte_at (H.below hw).hB (H.below hw).hr8 (i := 1) (by rw [(H.below hw).hbs]; omega)).1 (byte_at H.hB H.hr8 (i := 1) (by rw [H.hbs]; omega)).2.1 (byte_at H.hB H.hr8 (i := 1) (by rw [H.hbs]; omega)).2.2 hr he)
      · refine (K42 w1 hw).mono (fun r w' hh => ?_)
        obtain ⟨Y1, j1, Y2, j2, Y3, j3, hr', hj1, hj2, hj3, hy1, hy2, hy3, hf, hb'⟩ := hh
        exact ⟨Y1, q.R.length, j1, Y2, q.W.length, j2, q.Ac, q.Pe, Y3, q.Ch.length, j3, _, _, hr', hb'⟩
  · refine both_err H hv hm8 hnb 3 (by decide) (by decide) (by decide) (fun X1 k1 X2 k2 X3 k3 A5 c6 l' G S w1 hin => ?_) (fun w1 hw => ?_)
    · have hw : Below w.heap.size w w1 := hin.2.2.2.2.2.2.2.2.2
      exact e41 G (cmd41_form3 X1 R.length k1 X2 W.length k2 Ac Pe X3 ch.length k3 R W ch A5 mm c6 b o nb c5 w1 (by have := (byte_at (H.below hw).hB (H.below hw).hr8 (i := 0) (by rw [(H.below hw).hbs]; omega)).1; rw [h0] at this; exact this) (Nat.lt_of_lt_of_le hbl hw.size) H.hc5 hnb hn)
    · exact r42_form A n c A2 n2 c2 Ac Pe A3 m c3 R W ch A4 mm c4 l (some ⟨b, o, none⟩) nb c5 w1 (H.below hw).hl (H.below hw).hb (H.below hw).hc (H.below hw).hl2 (H.below hw).hb2 (H.below hw).hc2 (H.below hw).hl3 (H.below hw).hb3 (H.below hw).hc3 H.hs H.hs2 H.hs3 (H.below hw).hlm (H.below hw).hcv (H.below hw).hmo (H.below hw).hcm hv hm8 (fun w2 h2 => form56_3f b o nb c5 hn w2 (by have := (byte_at (H.below (chain hw h2)).hB (H.below (chain hw h2)).hr8 (i := 0) (by rw [(H.below (chain hw h2)).hbs]; omega)).1; rw [h0] at this; exact this) hnb)
theorem both_5 {A : Option Addr} {n c : Nat} {A2 : Option Addr} {n2 c2 : Nat} {Ac Pe : Int} {A3 : Option Addr} {m c3 : Nat} {R W : List Int} {ch : List (Int × Int)} {A4 : Option Addr} {mm c4 : Nat} {l : List MV} {b o nb c5 : Nat} {bs : List Int} {w : World} (H : Inp A n c A2 n2 c2 Ac Pe A3 m c3 R W ch A4 mm c4 l (some ⟨b, o, none⟩) nb c5 bs w) (hbl : b < w.heap.size) (hv : vP R W Ac Pe ch = true) (hm8 : (decide (mm ≤ 8) && !l.any bV) = true) (hnb : 0 < nb) (h0 : bs.getD 0 0 = 5) : Both A n c A2 n2 c2 Ac Pe A3 m c3 R W ch A4 mm c4 l (some ⟨b, o, none⟩) nb c5 w := by
  by_cases hn : nb = 2
  · subst hn
    have hx := (byte_at H.hB H.hr8 (i := 1) (by rw [H.hbs]; omega)).2
    obtain ⟨a, ha⟩ : ∃ a : Nat, (a : Int) = bs.getD 1 0 := ⟨(bs.getD 1 0).toNat, by omega⟩
    have ha5 : a ≤ 255 := by omega
    have h8 := eight hm8
    by_cases hlt : a < mm
    · have hms : Sz ⟨R, W, Ac, Pe, ch⟩ ((l.map MV.m).set a (runS ((l.map MV.m).getD a ⟨0, 0, 0, [], false⟩) true)) := by
        refine ⟨H.sz.1, H.sz.2.1, H.sz.2.2.1, by rw [List.length_set]; exact H.szm.1, fun y hy => ?_⟩
        rcases List.mem_or_eq_of_mem_set hy with h | h
        · exact H.szm.2 y h
        · rw [h]
          have hal : a < (l.map MV.m).length := by rw [List.length_map, H.hlm]; exact hlt
          show ((l.map MV.m).getD a ⟨0, 0, 0, [], false⟩).Ce.length ≤ 5000
          simp only [List.getD, List.getElem?_eq_getElem hal, Option.getD_some]
          exact H.szm.2 _ (List.getElem_mem hal)
      refine both_ok H hv hm8 hnb ⟨R, W, Ac, Pe, ch⟩ ((l.map MV.m).set a (runS ((l.map MV.m).getD a ⟨0, 0, 0, [], false⟩) true)) [] hms (by simp) (fun X1 k1 X2 k2 X3 k3 A5 c6 l' G S w1 hin => ?_) (fun S w1 hw hS => ?_)
      · have hw : Below w.heap.size w w1 := hin.2.2.2.2.2.2.2.2.2
        obtain ⟨i1, i2, i3, i4, i5, ⟨B0, hB0, hrow⟩, i7, i8, i9, _⟩ := id hin
        obtain ⟨g, cap, hg, _, hgl, _, _, _⟩ := own_form hrow (by omega)
        injection hg with hg _ hcap
        subst hg; subst hcap
        obtain rfl : G = some g := (i7 g 0 rfl).symm
        obtain ⟨j1, j2, j3⟩ := i8 g rfl
        refine (cmd41_run5 X1 R.length k1 X2 W.length k2 Ac Pe X3 ch.length k3 R W ch mm c6 b o c5 S g B0 l' a w1 (by have := (byte_at (H.below hw).hB (H.below hw).hr8 (i := 0) (by rw [(H.below hw).hbs]; omega)).1; rw [h0] at this; exact this) (Nat.lt_of_lt_of_le hbl hw.size) H.hc5 (by have := (byte_at (H.below hw).hB (H.below hw).hr8 (i := 1) (by rw [(H.below hw).hbs]; omega)).1; rw [← ha] at this; exact this) ha5 hlt hrow hgl i4 i5 j2 (fun s hs => (i9 s hs).1) (by omega)).mono (fun r w' hh => ?_)
        obtain ⟨A6, c6', hr', hlo, hb'⟩ := hh
        rw [i3] at hlo hr'
        exact ⟨⟨X1, k1, X2, k2, X3, k3, A6, c6', none, 0, hr', hin.1, hin.pages hb', hlo, ⟨Ik.nil _ _ _, fun h => absurd h (Nat.lt_irrefl 0)⟩, Nat.le_refl _, fun _ => rfl⟩, hb'⟩
      · have hS1 : ∀ s ∈ S, w.heap.size ≤ s := fun s hs => (hS s hs).1
        refine (r42_run5 A n c A2 n2 c2 Ac Pe A3 m c3 R W ch A4 mm c4 l b o c5 S ((l.map MV.m).set a (runS ((l.map MV.m).getD a ⟨0, 0, 0, [], false⟩) true)) a w1 (H.below hw).hl (H.below hw).hb (H.below hw).hc (H.below hw).hl2 (H.below hw).hb2 (H.below hw).hc2 (H.below hw).hl3 (H.below hw).hb3 (H.below hw).hc3 H.hs H.hs2 H.hs3 (H.below hw).hlm (H.below hw).hcv (H.below hw).hmo (H.below hw).hcm (old_mo H.hmo hS1 hw) (fun s hs => (hS s hs).2) rfl (by omega) hv hm8 (fun w2 h2 => form56_5t b o 2 c5 rfl w2 (by have := (byte_at (H.below (chain hw h2)).hB (H.below (chain hw h2)).hr8 (i := 0) (by rw [(H.below (chain hw h2)).hbs]; omega)).1; rw [h0] at this; exact this) (by decide)) (by have := (byte_at (H.below hw).hB (H.below hw).hr8 (i := 0) (by rw [(H.below hw).hbs]; omega)).1; rw [h0] at this; exact this) (Nat.lt_of_lt_of_le hbl hw.size) H.hc5 (by have := (byte_at (H.below hw).hB (H.below hw).hr8 (i := 1) (by rw [(H.below hw).hbs]; omega)).1; rw [← ha] at this; exact this) ha5 hlt).mono (fun r w' hh => ?_)
        obtain ⟨A6, c6', hr', hlo, hb'⟩ := hh
        exact ⟨⟨A, c, A2, c2, A3, c3, A6, c6', none, 0, by rw [hr', H.hl, H.hl2, H.hl3]; rfl, ⟨by rw [H.hl]; exact H.hc, by rw [H.hl2]; exact H.hc2, by rw [H.hl3]; exact H.hc3⟩, ⟨old_iy H.hb hS1 (chain hw hb'), old_iy H.hb2 hS1 (chain hw hb'), old_iy H.hb3 hS1 (chain hw hb')⟩, hlo, ⟨Ik.nil _ _ _, fun h => absurd h (Nat.lt_irrefl 0)⟩, Nat.le_refl _, fun _ => rfl⟩, hb'⟩
    · refine both_err H hv hm8 hnb 2 (by decide) (by decide) (by decide) (fun X1 k1 X2 k2 X3 k3 A5 c6 l' G S w1 hin => ?_) (fun w1 hw => ?_)
      · have hw : Below w.heap.size w w1 := hin.2.2.2.2.2.2.2.2.2
        exact e41 G (cmd41_range5 X1 R.length k1 X2 W.length k2 Ac Pe X3 ch.length k3 R W ch A5 mm c6 b o c5 (a : Int) w1 (by have := (byte_at (H.below hw).hB (H.below hw).hr8 (i := 0) (by rw [(H.below hw).hbs]; omega)).1; rw [h0] at this; exact this) (Nat.lt_of_lt_of_le hbl hw.size) H.hc5 (by have := (byte_at (H.below hw).hB (H.below hw).hr8 (i := 1) (by rw [(H.below hw).hbs]; omega)).1; rw [← ha] at this; exact this) (by omega) (by omega) (by omega))
      · exact r42_range5 A n c A2 n2 c2 Ac Pe A3 m c3 R W ch A4 mm c4 l b o c5 a w1 (H.below hw).hl (H.below hw).hb (H.below hw).hc (H.below hw).hl2 (H.below hw).hb2 (H.below hw).hc2 (H.below hw).hl3 (H.below hw).hb3 (H.below hw).hc3 H.hs H.hs2 H.hs3 (H.below hw).hlm (H.below hw).hcv (H.below hw).hmo (H.below hw).hcm (by omega) hv hm8 (fun w2 h2 => form56_5t b o 2 c5 rfl w2 (by have := (byte_at (H.below (chain hw h2)).hB (H.below (chain hw h2)).hr8 (i := 0) (by rw [(H.below (chain hw h2)).hbs]; omega)).1; rw [h0] at this; exact this) (by decide)) (by have := (byte_at (H.below hw).hB (H.below hw).hr8 (i := 0) (by rw [(H.below hw).hbs]; omega)).1; rw [h0] at this; exact this) (Nat.lt_of_lt_of_le hbl hw.size) H.hc5 (by have := (byte_at (H.below hw).hB (H.below hw).hr8 (i := 1) (by rw [(H.below hw).hbs]; omega)).1; rw [← ha] at this; exact this) ha5 (by omega)
  · refine both_err H hv hm8 hnb 3 (by decide) (by decide) (by decide) (fun X1 k1 X2 k2 X3 k3 A5 c6 l' G S w1 hin => ?_) (fun w1 hw => ?_)
    · have hw : Below w.heap.size w w1 := hin.2.2.2.2.2.2.2.2.2
      exact e41 G (cmd41_form5 X1 R.length k1 X2 W.length k2 Ac Pe X3 ch.length k3 R W ch A5 mm c6 b o nb c5 w1 (by have := (byte_at (H.below hw).hB (H.below hw).hr8 (i := 0) (by rw [(H.below hw).hbs]; omega)).1; rw [h0] at this; exact this) (Nat.lt_of_lt_of_le hbl hw.size) H.hc5 hnb hn)
    · exact r42_form A n c A2 n2 c2 Ac Pe A3 m c3 R W ch A4 mm c4 l (some ⟨b, o, none⟩) nb c5 w1 (H.below hw).hl (H.below hw).hb (H.below hw).hc (H.below hw).hl2 (H.below hw).hb2 (H.below hw).hc2 (H.below hw).hl3 (H.below hw).hb3 (H.below hw).hc3 H.hs H.hs2 H.hs3 (H.below hw).hlm (H.below hw).hcv (H.below hw).hmo (H.below hw).hcm hv hm8 (fun w2 h2 => form56_5f b o nb c5 hn w2 (by have := (byte_at (H.below (chain hw h2)).hB (H.below (chain hw h2)).hr8 (i := 0) (by rw [(H.below (chain hw h2)).hbs]; omega)).1; rw [h0] at this; exact this) hnb)
theorem both_6 {A : Option Addr} {n c : Nat} {A2 : Option Addr} {n2 c2 : Nat} {Ac Pe : Int} {A3 : Option Addr} {m c3 : Nat} {R W : List Int} {ch : List (Int × Int)} {A4 : Option Addr} {mm c4 : Nat} {l : List MV} {b o nb c5 : Nat} {bs : List Int} {w : World} (H : Inp A n c A2 n2 c2 Ac Pe A3 m c3 R W ch A4 mm c4 l (some ⟨b, o, none⟩) nb c5 bs w) (hbl : b < w.heap.size) (hv : vP R W Ac Pe ch = true) (hm8 : (decide (mm ≤ 8) && !l.any bV) = true) (hnb : 0 < nb) (h0 : bs.getD 0 0 = 6) : Both A n c A2 n2 c2 Ac Pe A3 m c3 R W ch A4 mm c4 l (some ⟨b, o, none⟩) nb c5 w := by
  by_cases hn : nb = 2
  · subst hn
    have hx := (byte_at H.hB H.hr8 (i := 1) (by rw [H.hbs]; omega)).2
    obtain ⟨a, ha⟩ : ∃ a : Nat, (a : Int) = bs.getD 1 0 := ⟨(bs.getD 1 0).toNat, by omega⟩
    have ha5 : a ≤ 255 := by omega
    have h8 := eight hm8
    by_cases hlt : a < mm
    · have hms : Sz ⟨R, W, Ac, Pe, ch⟩ ((l.map MV.m).set a (runS ((l.map MV.m).getD a ⟨0, 0, 0, [], false⟩) false)) := by
        refine ⟨H.sz.1, H.sz.2.1, H.sz.2.2.1, by rw [List.length_set]; exact H.szm.1, fun y hy => ?_⟩
        rcases List.mem_or_eq_of_mem_set hy with h | h
        · exact H.szm.2 y h
        · rw [h]
          have hal : a < (l.map MV.m).length := by rw [List.length_map, H.hlm]; exact hlt
          show ((l.map MV.m).getD a ⟨0, 0, 0, [], false⟩).Ce.length ≤ 5000
          simp only [List.getD, List.getElem?_eq_getElem hal, Option.getD_some]
          exact H.szm.2 _ (List.getElem_mem hal)
      refine both_ok H hv hm8 hnb ⟨R, W, Ac, Pe, ch⟩ ((l.map MV.m).set a (runS ((l.map MV.m).getD a ⟨0, 0, 0, [], false⟩) false)) [] hms (by simp) (fun X1 k1 X2 k2 X3 k3 A5 c6 l' G S w1 hin => ?_) (fun S w1 hw hS => ?_)
      · have hw : Below w.heap.size w w1 := hin.2.2.2.2.2.2.2.2.2
        obtain ⟨i1, i2, i3, i4, i5, ⟨B0, hB0, hrow⟩, i7, i8, i9, _⟩ := id hin
        obtain ⟨g, cap, hg, _, hgl, _, _, _⟩ := own_form hrow (by omega)
        injection hg with hg _ hcap
        subst hg; subst hcap
        obtain rfl : G = some g := (i7 g 0 rfl).symm
        obtain ⟨j1, j2, j3⟩ := i8 g rfl
        refine (cmd41_run6 X1 R.length k1 X2 W.length k2 Ac Pe X3 ch.length k3 R W ch mm c6 b o c5 S g B0 l' a w1 (by have := (byte_at (H.below hw).hB (H.below hw).hr8 (i := 0) (by rw [(H.below hw).hbs]; omega)).1; rw [h0] at this; exact this) (Nat.lt_of_lt_of_le hbl hw.size) H.hc5 (by have := (byte_at (H.below hw).hB (H.below hw).hr8 (i := 1) (by rw [(H.below hw).hbs]; omega)).1; rw [← ha] at this; exact this) ha5 hlt hrow hgl i4 i5 j2 (fun s hs => (i9 s hs).1) (by omega)).mono (fun r w' hh => ?_)
        obtain ⟨A6, c6', hr', hlo, hb'⟩ := hh
        rw [i3] at hlo hr'
        exact ⟨⟨X1, k1, X2, k2, X3, k3, A6, c6', none, 0, hr', hin.1, hin.pages hb', hlo, ⟨Ik.nil _ _ _, fun h => absurd h (Nat.lt_irrefl 0)⟩, Nat.le_refl _, fun _ => rfl⟩, hb'⟩
      · have hS1 : ∀ s ∈ S, w.heap.size ≤ s := fun s hs => (hS s hs).1
        refine (r42_run6 A n c A2 n2 c2 Ac Pe A3 m c3 R W ch A4 mm c4 l b o c5 S ((l.map MV.m).set a (runS ((l.map MV.m).getD a ⟨0, 0, 0, [], false⟩) false)) a w1 (H.below hw).hl (H.below hw).hb (H.below hw).hc (H.below hw).hl2 (H.below hw).hb2 (H.below hw).hc2 (H.below hw).hl3 (H.below hw).hb3 (H.below hw).hc3 H.hs H.hs2 H.hs3 (H.below hw).hlm (H.below hw).hcv (H.below hw).hmo (H.below hw).hcm (old_mo H.hmo hS1 hw) (fun s hs => (hS s hs).2) rfl (by omega) hv hm8 (fun w2 h2 => form56_6t b o 2 c5 rfl w2 (by have := (byte_at (H.below (chain hw h2)).hB (H.below (chain hw h2)).hr8 (i := 0) (by rw [(H.below (chain hw h2)).hbs]; omega)).1; rw [h0] at this; exact this) (by decide)) (by have := (byte_at (H.below hw).hB (H.below hw).hr8 (i := 0) (by rw [(H.below hw).hbs]; omega)).1; rw [h0] at this; exact this) (Nat.lt_of_lt_of_le hbl hw.size) H.hc5 (by have := (byte_at (H.below hw).hB (H.below hw).hr8 (i := 1) (by rw [(H.below hw).hbs]; omega)).1; rw [← ha] at this; exact this) ha5 hlt).mono (fun r w' hh => ?_)
        obtain ⟨A6, c6', hr', hlo, hb'⟩ := hh
        exact ⟨⟨A, c, A2, c2, A3, c3, A6, c6', none, 0, by rw [hr', H.hl, H.hl2, H.hl3]; rfl, ⟨by rw [H.hl]; exact H.hc, by rw [H.hl2]; exact H.hc2, by rw [H.hl3]; exact H.hc3⟩, ⟨old_iy H.hb hS1 (chain hw hb'), old_iy H.hb2 hS1 (chain hw hb'), old_iy H.hb3 hS1 (chain hw hb')⟩, hlo, ⟨Ik.nil _ _ _, fun h => absurd h (Nat.lt_irrefl 0)⟩, Nat.le_refl _, fun _ => rfl⟩, hb'⟩
    · refine both_err H hv hm8 hnb 2 (by decide) (by decide) (by decide) (fun X1 k1 X2 k2 X3 k3 A5 c6 l' G S w1 hin => ?_) (fun w1 hw => ?_)
      · have hw : Below w.heap.size w w1 := hin.2.2.2.2.2.2.2.2.2
        exact e41 G (cmd41_range6 X1 R.length k1 X2 W.length k2 Ac Pe X3 ch.length k3 R W ch A5 mm c6 b o c5 (a : Int) w1 (by have := (byte_at (H.below hw).hB (H.below hw).hr8 (i := 0) (by rw [(H.below hw).hbs]; omega)).1; rw [h0] at this; exact this) (Nat.lt_of_lt_of_le hbl hw.size) H.hc5 (by have := (byte_at (H.below hw).hB (H.below hw).hr8 (i := 1) (by rw [(H.below hw).hbs]; omega)).1; rw [← ha] at this; exact this) (by omega) (by omega) (by omega))
      · exact r42_range6 A n c A2 n2 c2 Ac Pe A3 m c3 R W ch A4 mm c4 l b o c5 a w1 (H.below hw).hl (H.below hw).hb (H.below hw).hc (H.below hw).hl2 (H.below hw).hb2 (H.below hw).hc2 (H.below hw).hl3 (H.below hw).hb3 (H.below hw).hc3 H.hs H.hs2 H.hs3 (H.below hw).hlm (H.below hw).hcv (H.below hw).hmo (H.below hw).hcm (by omega) hv hm8 (fun w2 h2 => form56_6t b o 2 c5 rfl w2 (by have := (byte_at (H.below (chain hw h2)).hB (H.below (chain hw h2)).hr8 (i := 0) (by rw [(H.below (chain hw h2)).hbs]; omega)).1; rw [h0] at this; exact this) (by decide)) (by have := (byte_at (H.below hw).hB (H.below hw).hr8 (i := 0) (by rw [(H.below hw).hbs]; omega)).1; rw [h0] at this; exact this) (Nat.lt_of_lt_of_le hbl hw.size) H.hc5 (by have := (byte_at (H.below hw).hB (H.below hw).hr8 (i := 1) (by rw [(H.below hw).hbs]; omega)).1; rw [← ha] at this; exact this) ha5 (by omega)
  · refine both_err H hv hm8 hnb 3 (by decide) (by decide) (by decide) (fun X1 k1 X2 k2 X3 k3 A5 c6 l' G S w1 hin => ?_) (fun w1 hw => ?_)
    · have hw : Below w.heap.size w w1 := hin.2.2.2.2.2.2.2.2.2
      exact e41 G (cmd41_form6 X1 R.length k1 X2 W.length k2 Ac Pe X3 ch.length k3 R W ch A5 mm c6 b o nb c5 w1 (by have := (byte_at (H.below hw).hB (H.below hw).hr8 (i := 0) (by rw [(H.below hw).hbs]; omega)).1; rw [h0] at this; exact this) (Nat.lt_of_lt_of_le hbl hw.size) H.hc5 hnb hn)
    · exact r42_form A n c A2 n2 c2 Ac Pe A3 m c3 R W ch A4 mm c4 l (some ⟨b, o, none⟩) nb c5 w1 (H.below hw).hl (H.below hw).hb (H.below hw).hc (H.below hw).hl2 (H.below hw).hb2 (H.below hw).hc2 (H.below hw).hl3 (H.below hw).hb3 (H.below hw).hc3 H.hs H.hs2 H.hs3 (H.below hw).hlm (H.below hw).hcv (H.below hw).hmo (H.below hw).hcm hv hm8 (fun w2 h2 => form56_6f b o nb c5 hn w2 (by have := (byte_at (H.below (chain hw h2)).hB (H.below (chain hw h2)).hr8 (i := 0) (by rw [(H.below (chain hw h2)).hbs]; omega)).1; rw [h0] at this; exact this) hnb)
theorem both_4 {A : Option Addr} {n c : Nat} {A2 : Option Addr} {n2 c2 : Nat} {Ac Pe : Int} {A3 : Option Addr} {m c3 : Nat} {R W : List Int} {ch : List (Int × Int)} {A4 : Option Addr} {mm c4 : Nat} {l : List MV} {b o nb c5 : Nat} {bs : List Int} {w : World} (H : Inp A n c A2 n2 c2 Ac Pe A3 m c3 R W ch A4 mm c4 l (some ⟨b, o, none⟩) nb c5 bs w) (hbl : b < w.heap.size) (hv : vP R W Ac Pe ch = true) (hm8 : (decide (mm ≤ 8) && !l.any bV) = true) (hnb : 0 < nb) (h0 : bs.getD 0 0 = 4) : Both A n c A2 n2 c2 Ac Pe A3 m c3 R W ch A4 mm c4 l (some ⟨b, o, none⟩) nb c5 w := by
  by_cases hs6 : nb < 6
  · refine both_err H hv hm8 hnb 3 (by decide) (by decide) (by decide) (fun X1 k1 X2 k2 X3 k3 A5 c6 l' G S w1 hin => ?_) (fun w1 hw => ?_)
    · have hw : Below w.heap.size w w1 := hin.2.2.2.2.2.2.2.2.2
      exact e41 G (cmd41_mshort X1 R.length k1 X2 W.length k2 Ac Pe X3 ch.length k3 R W ch A5 mm c6 b o nb c5 w1 (by have := (byte_at (H.below hw).hB (H.below hw).hr8 (i := 0) (by rw [(H.below hw).hbs]; omega)).1; rw [h0] at this; exact this) (Nat.lt_of_lt_of_le hbl hw.size) H.hc5 hnb hs6)
    · exact r42_form A n c A2 n2 c2 Ac Pe A3 m c3 R W ch A4 mm c4 l (some ⟨b, o, none⟩) nb c5 w1 (H.below hw).hl (H.below hw).hb (H.below hw).hc (H.below hw).hl2 (H.below hw).hb2 (H.below hw).hc2 (H.below hw).hl3 (H.below hw).hb3 (H.below hw).hc3 H.hs H.hs2 H.hs3 (H.below hw).hlm (H.below hw).hcv (H.below hw).hmo (H.below hw).hcm hv hm8 (fun w2 h2 => form56_4s b o nb c5 hs6 w2 (by have := (byte_at (H.below (chain hw h2)).hB (H.below (chain hw h2)).hr8 (i := 0) (by rw [(H.below (chain hw h2)).hbs]; omega)).1; rw [h0] at this; exact this) hnb)

  · have hx := (byte_at H.hB H.hr8 (i := 3) (by rw [H.hbs]; omega)).2
    obtain ⟨z, hz⟩ : ∃ z : Nat, (z : Int) = bs.getD 3 0 := ⟨(bs.getD 3 0).toNat, by omega⟩
    have hz5 : z ≤ 255 := by omega
    have h8 := eight hm8
    by_cases hn : nb = 6 + 2 * z
    · obtain ⟨⟨e0, e1⟩, hl1, hl2⟩ := meaM_b (l.map MV.m) (bs.getD 1 0) ⟨bs.getD 2 0, bs.getD 4 0 * 256 + bs.getD 5 0, 0, celsM bs z, false⟩ (by rw [List.length_map, H.hlm]; omega) (by rw [celsM_len]; omega) H.szm.2
      have K42 := fun (S : List Nat) w1 (hw : Below w.heap.size w w1) (hS : ∀ s ∈ S, w.heap.size ≤ s ∧ s < w1.heap.size) => r42_meas A n c A2 n2 c2 Ac Pe A3 m c3 R W ch A4 mm c4 l b o nb c5 S (bs.getD 1 0) (bs.getD 2 0) (bs.getD 4 0 * 256 + bs.getD 5 0) z bs (meaM (l.map MV.m) (bs.getD 1 0) ⟨bs.getD 2 0, bs.getD 4 0 * 256 + bs.getD 5 0, 0, celsM bs z, false⟩) w1 (H.below hw).hl (H.below hw).hb (H.below hw).hc (H.below hw).hl2 (H.below hw).hb2 (H.below hw).hc2 (H.below hw).hl3 (H.below hw).hb3 (H.below hw).hc3 H.hs H.hs2 H.hs3 (H.below hw).hlm (H.below hw).hcv (H.below hw).hmo (H.below hw).hcm (old_mo H.hmo (fun s hs => (hS s hs).1) hw) (fun s hs => (hS s hs).2) (by omega) hv hm8 (fun w2 h2 => form56_4t b o nb c5 z hz5 (by omega) hn w2 (by have := (byte_at (H.below (chain hw h2)).hB (H.below (chain hw h2)).hr8 (i := 3) (by rw [(H.below (chain hw h2)).hbs]; omega)).1; rw [← hz] at this; exact this) (by have := (byte_at (H.below (chain hw h2)).hB (H.below (chain hw h2)).hr8 (i := 0) (by rw [(H.below (chain hw h2)).hbs]; omega)).1; rw [h0] at this; exact this) hnb) H.hbs (H.below hw).hB H.hr8 (Nat.lt_of_lt_of_le hbl hw.size) H.hc5 h0 rfl rfl hz.symm rfl hn hz5 rfl
      have K41 := fun (X1 : Option Addr) (k1 : Nat) (X2 : Option Addr) (k2 : Nat) (X3 : Option Addr) (k3 : Nat) (A5 : Option Addr) (c6 : Nat) (l' : List MV) (G : Option Nat) (S : List Nat) (w1 : World) (hin : In41 R W ch (l.map MV.m) mm S X1 k1 X2 k2 X3 k3 A5 c6 l' G w w1) (B0 : Nat) (hB0 : B0 ≤ w1.heap.size) (hrow : w1.ownsRow B0 66 5 (.slice A5 mm c6) mm (flatM l')) => cmd41_meas X1 R.length k1 X2 W.length k2 Ac Pe X3 ch.length k3 R W ch A5 mm c6 b o nb c5 S G B0 l' (bs.getD 1 0) (bs.getD 2 0) (bs.getD 4 0 * 256 + bs.getD 5 0) z bs w1 H.hbs (H.below hin.2.2.2.2.2.2.2.2.2).hB H.hr8 (Nat.lt_of_lt_of_le hbl hin.2.2.2.2.2.2.2.2.2.size) H.hc5 h0 rfl rfl hz.symm rfl hn hz5 hrow hin.2.2.2.2.2.2.1 (fun g e => (hin.2.2.2.2.2.2.2.1 g e).1) hin.2.2.2.1 hin.2.2.2.2.1 (fun g e => (hin.2.2.2.2.2.2.2.1 g e).2.1) (fun s hs => (hin.2.2.2.2.2.2.2.2.1 s hs).1) (by omega) hB0
      by_cases he : (meaM (l.map MV.m) (bs.getD 1 0) ⟨bs.getD 2 0, bs.getD 4 0 * 256 + bs.getD 5 0, 0, celsM bs z, false⟩).2 = 0
      · refine both_ok H hv hm8 hnb ⟨R, W, Ac, Pe, ch⟩ (meaM (l.map MV.m) (bs.getD 1 0) ⟨bs.getD 2 0, bs.getD 4 0 * 256 + bs.getD 5 0, 0, celsM bs z, false⟩).1 [] ⟨H.sz.1, H.sz.2.1, H.sz.2.2.1, hl1, hl2⟩ (by simp) (fun X1 k1 X2 k2 X3 k3 A5 c6 l' G S w1 hin => ?_) (fun S w1 hw hS => ?_)
        · obtain ⟨B0, hB0, hrow⟩ := hin.2.2.2.2.2.1
          have hms := hin.2.2.1
          refine (K41 X1 k1 X2 k2 X3 k3 A5 c6 l' G S w1 hin B0 hB0 hrow).mono (fun r w' hh => ?_)
          rw [hms] at hh
          rcases hh with ⟨h1, _⟩ | ⟨_, A6, c6', hr', hlo, hb'⟩
          · exact absurd he h1
          · exact ⟨⟨X1, k1, X2, k2, X3, k3, A6, c6', none, 0, hr', hin.1, hin.pages hb', hlo, ⟨Ik.nil _ _ _, fun h => absurd h (Nat.lt_irrefl 0)⟩, Nat.le_refl _, fun _ => rfl⟩, hb'⟩
        · have hS1 : ∀ s ∈ S, w.heap.size ≤ s := fun s hs => (hS s hs).1
          refine (K42 S w1 hw hS).mono (fun r w' hh => ?_)
          rcases hh with ⟨h1, _⟩ | ⟨_, A6, c6', hr', hlo, hb'⟩
          · exact absurd he h1
          · exact ⟨⟨A, c, A2, c2, A3, c3, A6, c6', none, 0, by rw [hr', H.hl, H.hl2, H.hl3]; rfl, ⟨by rw [H.hl]; exact H.hc, by rw [H.hl2]; exact H.hc2, by rw [H.hl3]; exact H.hc3⟩, ⟨old_iy H.hb hS1 (chain hw hb'), old_iy H.hb2 hS1 (chain hw hb'), old_iy H.hb3 hS1 (chain hw hb')⟩, hlo, ⟨Ik.nil _ _ _, fun h => absurd h (Nat.lt_irrefl 0)⟩, Nat.le_refl _, fun _ => rfl⟩, hb'⟩
      · refine both_err H hv hm8 hnb _ he e0 e1 (fun X1 k1 X2 k2 X3 k3 A5 c6 l' G S w1 hin => ?_) (fun w1 hw => ?_)
        · obtain ⟨B0, hB0, hrow⟩ := hin.2.2.2.2.2.1
          have hms := hin.2.2.1
          refine (K41 X1 k1 X2 k2 X3 k3 A5 c6 l' G S w1 hin B0 hB0 hrow).mono (fun r w' hh => ?_)
          rw [hms] at hh
          rcases hh with ⟨_, hr', hb'⟩ | ⟨h1, _⟩
          · exact ⟨⟨X1, _, k1, X2, _, k2, Ac, Pe, X3, _, k3, _, _, hr'⟩, hb'⟩
          · exact absurd h1 he
        · refine (K42 [] w1 hw (fun s hs => by cases hs)).mono (fun r w' hh => ?_)
          rcases hh with ⟨_, hr'⟩ | ⟨h1, _⟩
          · exact hr'
          · exact absurd h1 he
    · refine both_err H hv hm8 hnb 3 (by decide) (by decide) (by decide) (fun X1 k1 X2 k2 X3 k3 A5 c6 l' G S w1 hin => ?_) (fun w1 hw => ?_)
      · have hw : Below w.heap.size w w1 := hin.2.2.2.2.2.2.2.2.2
        exact e41 G (cmd41_mlen X1 R.length k1 X2 W.length k2 Ac Pe X3 ch.length k3 R W ch A5 mm c6 b o nb c5 w1 (by have := (byte_at (H.below hw).hB (H.below hw).hr8 (i := 0) (by rw [(H.below hw).hbs]; omega)).1; rw [h0] at this; exact this) (Nat.lt_of_lt_of_le hbl hw.size) H.hc5 (by omega) z (by have := (byte_at (H.below hw).hB (H.below hw).hr8 (i := 3) (by rw [(H.below hw).hbs]; omega)).1; rw [← hz] at this; exact this) hz5 hn)
      · exact r42_form A n c A2 n2 c2 Ac Pe A3 m c3 R W ch A4 mm c4 l (some ⟨b, o, none⟩) nb c5 w1 (H.below hw).hl (H.below hw).hb (H.below hw).hc (H.below hw).hl2 (H.below hw).hb2 (H.below hw).hc2 (H.below hw).hl3 (H.below hw).hb3 (H.below hw).hc3 H.hs H.hs2 H.hs3 (H.below hw).hlm (H.below hw).hcv (H.below hw).hmo (H.below hw).hcm hv hm8 (fun w2 h2 => form56_4f b o nb c5 z hz5 (by omega) hn w2 (by have := (byte_at (H.below (chain hw h2)).hB (H.below (chain hw h2)).hr8 (i := 3) (by rw [(H.below (chain hw h2)).hbs]; omega)).1; rw [← hz] at this; exact this) (by have := (byte_at (H.below (chain hw h2)).hB (H.below (chain hw h2)).hr8 (i := 0) (by rw [(H.below (chain hw h2)).hbs]; omega)).1; rw [h0] at this; exact this) hnb)
theorem both_o {A : Option Addr} {n c : Nat} {A2 : Option Addr} {n2 c2 : Nat} {Ac Pe : Int} {A3 : Option Addr} {m c3 : Nat} {R W : List Int} {ch : List (Int × Int)} {A4 : Option Addr} {mm c4 : Nat} {l : List MV} {b o nb c5 : Nat} {bs : List Int} {w : World} (H : Inp A n c A2 n2 c2 Ac Pe A3 m c3 R W ch A4 mm c4 l (some ⟨b, o, none⟩) nb c5 bs w) (hbl : b < w.heap.size) (hv : vP R W Ac Pe ch = true) (hm8 : (decide (mm ≤ 8) && !l.any bV) = true) (hnb : 0 < nb) (x0 : Int) (h0 : bs.getD 0 0 = x0) (n1 : x0 ≠ 1) (n2' : x0 ≠ 2) (n3 : x0 ≠ 3) (n4 : x0 ≠ 4) (n5 : x0 ≠ 5) (n6 : x0 ≠ 6) : Both A n c A2 n2 c2 Ac Pe A3 m c3 R W ch A4 mm c4 l (some ⟨b, o, none⟩) nb c5 w := by
  have hx := (byte_at H.hB H.hr8 (i := 0) (by rw [H.hbs]; omega)).2
  rw [h0] at hx
  refine both_err H hv hm8 hnb 3 (by decide) (by decide) (by decide) (fun X1 k1 X2 k2 X3 k3 A5 c6 l' G S w1 hin => ?_) (fun w1 hw => ?_)
  · have hw : Below w.heap.size w w1 := hin.2.2.2.2.2.2.2.2.2
    exact e41 G (cmd41_other X1 R.length k1 X2 W.length k2 Ac Pe X3 ch.length k3 R W ch A5 mm c6 b o nb c5 x0 w1 (by have := (byte_at (H.below hw).hB (H.below hw).hr8 (i := 0) (by rw [(H.below hw).hbs]; omega)).1; rw [h0] at this; exact this) (Nat.lt_of_lt_of_le hbl hw.size) H.hc5 hnb n1 n2' n3 n4 n5 n6 hx.1 hx.2)
  · exact r42_form A n c A2 n2 c2 Ac Pe A3 m c3 R W ch A4 mm c4 l (some ⟨b, o, none⟩) nb c5 w1 (H.below hw).hl (H.below hw).hb (H.below hw).hc (H.below hw).hl2 (H.below hw).hb2 (H.below hw).hc2 (H.below hw).hl3 (H.below hw).hb3 (H.below hw).hc3 H.hs H.hs2 H.hs3 (H.below hw).hlm (H.below hw).hcv (H.below hw).hmo (H.below hw).hcm hv hm8 (fun w2 h2 => form56_o b o nb c5 x0 n1 n2' n3 n4 n5 n6 w2 (by have := (byte_at (H.below (chain hw h2)).hB (H.below (chain hw h2)).hr8 (i := 0) (by rw [(H.below (chain hw h2)).hbs]; omega)).1; rw [h0] at this; exact this) hnb)
/-- Command and the reference's answer alike, whatever came in -/
theorem both_all {A : Option Addr} {n c : Nat} {A2 : Option Addr} {n2 c2 : Nat} {Ac Pe : Int} {A3 : Option Addr} {m c3 : Nat} {R W : List Int} {ch : List (Int × Int)} {A4 : Option Addr} {mm c4 : Nat} {l : List MV} {B : Option Addr} {nb c5 : Nat} {bs : List Int} {w : World} (H : Inp A n c A2 n2 c2 Ac Pe A3 m c3 R W ch A4 mm c4 l B nb c5 bs w) : Both A n c A2 n2 c2 Ac Pe A3 m c3 R W ch A4 mm c4 l B nb c5 w := by
  rcases hv : vP R W Ac Pe ch with _ | _
  · exact both_inv H hv
  rcases hm8 : (decide (mm ≤ 8) && !l.any bV) with _ | _
  · exact both_bad H hv hm8
  by_cases hz : nb = 0
  · subst hz
    exact both_nil H hv hm8
  have hnb : 0 < nb := Nat.pos_of_ne_zero hz
  obtain ⟨b, o, rfl, hbl⟩ := H.hB.addr (by rw [H.hbs]; exact hnb)
  by_cases h1 : bs.getD 0 0 = 1
  · exact both_1 H hbl hv hm8 hnb h1
  by_cases h2 : bs.getD 0 0 = 2
  · exact both_2 H hbl hv hm8 hnb h2
  by_cases h3 : bs.getD 0 0 = 3
  · exact both_3 H hbl hv hm8 hnb h3
  by_cases h4 : bs.getD 0 0 = 4
  · exact both_4 H hbl hv hm8 hnb h4
  by_cases h5 : bs.getD 0 0 = 5
  · exact both_5 H hbl hv hm8 hnb h5
  by_cases h6 : bs.getD 0 0 = 6
  · exact both_6 H hbl hv hm8 hnb h6
  exact both_o H hbl hv hm8 hnb _ rfl h1 h2 h3 h4 h5 h6
end Go.Proofs.Ytamajedopofcoaa
