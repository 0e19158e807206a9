/-
  The law file's own check of the example. No condition.
-/
import Derived.Test.YtfjeediecmhedaaRecv1
set_option linter.unusedVariables false
set_option linter.unusedSimpArgs false
namespace Go.Proofs.Ytfjeediecmhedaa
open Go.RowKit
set_option maxRecDepth 100000 in
set_option maxHeartbeats 2000000 in
theorem awake10 (w : World) : Calls Try.prog 10 #[] w fun x w' => x = .returned (.bool true) ∧ Below w.heap.size w w' := by
  go_enter Try.func10, Try.ntmps10
  go_wp2_with fail
  refine (send19 (some ⟨w.heap.size, 0, none⟩) 3 3 [1, 2, 3] 0 _ rfl (Bt.of_block (new_at rfl _)) (by omega)).mono ?_
  rintro r w1 (⟨h, _⟩ | ⟨_, h, _⟩ | ⟨_, _, _, h⟩ | ⟨_, _, h, _⟩)
  · exact absurd h (by decide)
  · exact absurd h (by decide)
  · obtain ⟨A, c, B, m, d, rfl, hc, hbt, hfr, hm, hmd, hbf, hff, hb1⟩ := h
    obtain rfl : m = 8 := hm
    have hg1 := chain (w := w) (by go_grown) hb1
    have hbf' : Bt w1 B [3, 1, 2, 3, 0, 0, 0, 0] := hbf
    have X1 := Lib.hid (Cl.new (w := w1) rfl [.slice A 3 c, .int .i64 3, .int .i64 0, .int .i64 0, .int .i64 0, .bool false, .int .i64 0, .int .i64 0, .bool false] 40)
    have HF := Lib.hid hbf'
    clear hbt hfr hb1 hbf hbf' hff
    go_wp2_with fail
    refine (recv13_single none 0 0 0 0 0 0 false false 0 false [] B d [3, 1, 2, 3, 0, 0, 0, 0] 0 _ rfl (Bt.nil _ _) (by omega) (HF.out.below (by go_grown)) (by intro x hx; simp at hx; omega) hmd (by decide) (by decide) (by decide)).mono ?_
    rintro r w2 h
    · replace h : RP ⟨[1, 2, 3], 3, 0, 0, 0, false, true, 0, false⟩ [] 0 _ r w2 := h
      obtain ⟨A2, n2, c2, B2, m2, d2, rfl, hn2, hc2, hbt2, hfr2, hm2, hmd2, hbf2, hff2, hb2⟩ := h
      simp only at hn2 hm2 hbt2
      obtain rfl : n2 = 3 := hn2
      obtain rfl : m2 = 0 := hm2
      have hg2 := chain (w := w) (hg1.alloc hg1.size (.cells #[.slice A 3 c, .int .i64 3, .int .i64 0, .int .i64 0, .int .i64 0, .bool false, .int .i64 0, .int .i64 0, .bool false] 40)) hb2
      have X2 := X1.out.below hb2
      obtain ⟨x0, x1, x2, x3, x4, x5, x6, x7, x8⟩ := X2.cells9
      have zx := X2.1
      have HF2 := Lib.hid ((HF.out.below ((Below.refl _ _).alloc (Nat.le_refl _) (.cells #[.slice A 3 c, .int .i64 3, .int .i64 0, .int .i64 0, .int .i64 0, .bool false, .int .i64 0, .int .i64 0, .bool false] 40))).below hb2)
      have HD2 := Lib.hid hbt2
      have hgs := hg2.size
      clear X1 HF X2 hb2 hbt2 hfr2 hbf2 hff2
      go_wp2_with fail
      refine (equal18 B (some ⟨w2.heap.size + 1, 0, none⟩) 8 d 8 [3, 1, 2, 3, 0, 0, 0, 0] _ rfl (HF2.out.below (by go_grown)) (Bt.of_block (new_at (by simp) _))).mono ?_
      rintro r w3 ⟨rfl, rfl⟩
      go_wp2_with fail
      refine (equal18 A2 (some ⟨w2.heap.size + 2, 0, none⟩) 3 c2 3 [1, 2, 3] _ rfl (HD2.out.below (by go_grown)) (Bt.of_block (new_at (by simp) _))).mono ?_
      rintro r w3 ⟨rfl, rfl⟩
      go_wp2
      go_ret
      exact ⟨rfl, by go_grown⟩
  · omega
end Go.Proofs.Ytfjeediecmhedaa
