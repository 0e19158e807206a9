/-
  The contracts of New and of its reference. No condition but the slice's shape.
-/
import Derived.Test.YtamajedopofcoaaZC
set_option linter.unusedVariables false
set_option linter.unusedSimpArgs false
namespace Go.Proofs.Ytamajedopofcoaa
open Go.RowKit
set_option maxRecDepth 100000 in
set_option maxHeartbeats 16000000 in
theorem new8 (A : Option Addr) (n c : Nat) (l : List Int) (w : World) (hl : l.length = n) (hb : Ik .i64 w A l) (hc : n ≤ c) (hs : n ≤ 5000) : Calls Try.prog 8 #[.slice A n c] w (if listB l = true then PO ⟨l, l, 0, -1, []⟩ 0 w else PO pz 1 w) := by
  have KL := fun w h => list29 A n c l w hl h hc
  have KC := fun w h => clone27 A n c l w hl h (by omega) hc
  replace KC := Lib.hid KC
  have al : Below w.heap.size w (w.alloc (.cells #[.slice none 0 0, .slice none 0 0, .int .i64 0, .int .i64 0, .slice none 0 0] 25)) := (Below.refl _ _).alloc (Nat.le_refl _) _
  have HB := Lib.hid (hb.below al)
  have HQ := Lib.hid (Cl.new (w := w) rfl [.slice none 0 0, .slice none 0 0, .int .i64 0, .int .i64 0, .slice none 0 0] 25)
  have HG := Lib.hid al
  have hz : (w.alloc (.cells #[.slice none 0 0, .slice none 0 0, .int .i64 0, .int .i64 0, .slice none 0 0] 25)).heap.size = w.heap.size + 1 := by simp
  have HZ := Lib.hid hz
  clear hl hb al hz
  cases hv : listB l
  · rw [if_neg (by simp)]
    rw [hv] at KL
    replace KL := Lib.hid KL
    clear hv
    go_enter Try.func8, Try.ntmps8
    go_wp2_with fail
    refine (KL.out _ HB.out).mono ?_
    rintro r w1 ⟨rfl, rfl⟩
    go_wp2_with fail
    refine bodyPost_ret (v := .tuple #[.agg #[.slice none 0 0, .slice none 0 0, .int .i64 0, .int .i64 0, .slice none 0 0], .int .i64 1]) (by simp [results, Try.results8, go_sem] <;> first | rfl | ((repeat' apply And.intro) <;> rfl)) rfl (PO.zero rfl (by go_grown))
  · rw [if_pos rfl]
    rw [hv] at KL
    replace KL := Lib.hid KL
    clear hv
    go_enter Try.func8, Try.ntmps8
    go_wp2_with fail
    refine (KL.out _ HB.out).mono ?_
    rintro r w1 ⟨rfl, rfl⟩
    go_wp2_with fail
    refine (KC.out _ HB.out).mono ?_
    rintro r w2 ⟨v1, rfl, hO1, hb2⟩
    obtain ⟨X1, k1, rfl, hk1, _, hi1, hf1, _⟩ := own_it hO1
    have hz2 := hb2.size
    have HB2 := Lib.hid (HB.out.below hb2)
    have HI1 := Lib.hid hi1
    have HQ2 := Lib.hid (HQ.out.below hb2)
    have HG2 := Lib.hid (chain HG.out hb2)
    have hZ := HZ.out
    have hw2 : w.heap.size + 1 ≤ w2.heap.size := by omega
    have hf1' : Fr (w.heap.size + 1) X1 := fr_le hf1 (by omega)
    clear hO1 hi1 hb2 hz2 HB HQ HG HZ hZ hf1
    go_wp2_with fail
    refine (KC.out _ HB2.out).mono ?_
    rintro r w3 ⟨v2, rfl, hO2, hb3⟩
    obtain ⟨X2, k2, rfl, hk2, _, hi2, hf2, _⟩ := own_it hO2
    have hf2' : Fr (w.heap.size + 1) X2 := fr_le hf2 hw2
    have HI13 := Lib.hid (HI1.out.below hb3)
    have HI2 := Lib.hid hi2
    have D3 := HQ2.out.below hb3
    have HG3 := Lib.hid (chain HG2.out hb3)
    clear hO2 hi2 hb3 HB2 HQ2 HG2 hf2 HI1
    have q0 := D3.c 0 rfl
    have q1 := D3.c 1 rfl
    have q2 := D3.c 2 rfl
    have q3 := D3.c 3 rfl
    have q4 := D3.c 4 rfl
    have f0 := D3.f 0 rfl
    have f1 := D3.f 1 rfl
    have f2 := D3.f 2 rfl
    have f3 := D3.f 3 rfl
    have f4 := D3.f 4 rfl
    have zq := D3.1
    clear D3
    go_wp2_with fail
    refine bodyPost_ret (v := .tuple #[.agg #[.slice X1 l.length k1, .slice X2 l.length k2, .int .i64 0, .int .i64 (-1), .slice none 0 0], .int .i64 0]) (by simp [results, Try.results8, go_sem, q0, f0, q1, f1, q2, f2, q3, f3, q4, f4, zq] <;> first | rfl | ((repeat' apply And.intro) <;> rfl)) rfl ⟨X1, l.length, k1, X2, l.length, k2, none, 0, 0, rfl, rfl, hk1, ?_, rfl, hk2, ?_, rfl, Nat.le_refl _, Ik.nil _ _ _, fr_le hf1' (by omega), fr_le hf2' (by omega), Fr.none _, below_set5 HG3.out (Nat.le_refl _) _ _ _ _ _⟩
    · exact HI13.out.fr5 hf1' (Nat.lt_succ_self _) _ _ _ _ _
    · exact HI2.out.fr5 hf2' (Nat.lt_succ_self _) _ _ _ _ _
theorem vP_new (l : List Int) : vP l l 0 (-1) [] = listB l := by
  unfold vP
  have e : allC l.length [] = true := rfl
  rw [e]
  cases listB l <;> simp
set_option maxRecDepth 100000 in
set_option maxHeartbeats 16000000 in
theorem rnew9 (A : Option Addr) (n c : Nat) (l : List Int) (w : World) (hl : l.length = n) (hb : Ik .i64 w A l) (hc : n ≤ c) (hs : n ≤ 5000) : Calls Try.prog 9 #[.slice A n c] w (if listB l = true then PO ⟨l, l, 0, -1, []⟩ 0 w else PO pz 1 w) := by
  have KC := fun w h => copy30 A n c A n c 0 (-1) none 0 0 l l [] w hl h hc hl h hc rfl (Ik.nil _ _ _) (Nat.le_refl _) hs hs (by omega)
  replace KC := Lib.hid KC
  have KV := fun (X1 : Option Addr) (k1 : Nat) (X2 : Option Addr) (k2 : Nat) (X3 : Option Addr) (k3 : Nat) w h h2 hk1 hk2 hk3 => rvalid12 X1 l.length k1 X2 l.length k2 0 (-1) X3 0 k3 l l [] w rfl h hk1 rfl h2 hk2 rfl (Ik.nil _ _ _) hk3 (by omega) (by omega) (by omega)
  rw [vP_new] at KV
  have al : Below w.heap.size w (w.alloc (.cells #[.slice none 0 0, .slice none 0 0, .int .i64 0, .int .i64 0, .slice none 0 0] 25)) := (Below.refl _ _).alloc (Nat.le_refl _) _
  have HB := Lib.hid (hb.below al)
  have HQ := Lib.hid (Cl.new (w := w) rfl [.slice none 0 0, .slice none 0 0, .int .i64 0, .int .i64 0, .slice none 0 0] 25)
  have HG := Lib.hid al
  have hz : (w.alloc (.cells #[.slice none 0 0, .slice none 0 0, .int .i64 0, .int .i64 0, .slice none 0 0] 25)).heap.size = w.heap.size + 1 := by simp
  have HZ := Lib.hid hz
  clear hl hb al hz
  cases hv : listB l
  · rw [if_neg (by simp)]
    rw [hv] at KV
    replace KV := Lib.hid KV
    clear hv
    go_enter Try.func9, Try.ntmps9
    go_wp2_with fail
    refine (KC.out _ HB.out).mono ?_
    rintro r w2 ⟨v1, v2, v3, b2, b3, rfl, hB2, hB3, hO1, hv1, hO2, hv2, hO3, hbb3, hb2'⟩
    obtain ⟨X1, k1, rfl, hk1, _, hi1, hf1, hl1⟩ := own_it hO1
    obtain ⟨X2, k2, rfl, hk2, _, hi2, hf2, hl2'⟩ := own_it hO2
    obtain ⟨X3, k3, rfl, hk3, _, hi3, hf3, hl3'⟩ := own_it hO3
    have hZ := HZ.out
    have hz2 := hb2'.size
    have hw2 : w.heap.size + 1 ≤ w2.heap.size := by omega
    have hff1 : Fr (w.heap.size + 1) X1 := fr_le hf1 (by omega)
    have hff2 : Fr (w.heap.size + 1) X2 := fr_le hf2 (by omega)
    have hff3 : Fr (w.heap.size + 1) X3 := fr_le hf3 (by omega)
    have HQ2 := Lib.hid (HQ.out.below hb2')
    have HG2 := Lib.hid (chain HG.out hb2')
    have al2 : Below w2.heap.size w2 (w2.alloc (.cells #[.slice X1 l.length k1, .slice X2 l.length k2, .int .i64 0, .int .i64 (-1), .slice X3 0 k3] 25)) := (Below.refl _ _).alloc (Nat.le_refl _) _
    have HC3 := Lib.hid (Cl.new (w := w2) rfl [.slice X1 l.length k1, .slice X2 l.length k2, .int .i64 0, .int .i64 (-1), .slice X3 0 k3] 25)
    have HD3 := Lib.hid (HQ2.out.below al2)
    have HG3 := Lib.hid (chain HG2.out al2)
    have HI1 := Lib.hid (hi1.below al2)
    have HI2 := Lib.hid (hi2.below al2)
    clear hO1 hO2 hO3 hv1 hv2 hi1 hi2 hi3 hb2' hbb3 hB2 hB3 hf1 hf2 hf3 hl1 hl2' hl3' HQ HG HZ HB HQ2 HG2 al2 hZ hz2 KC
    go_wp2_with fail
    refine (KV.out X1 k1 X2 k2 X3 k3 _ HI1.out HI2.out hk1 hk2 (Nat.zero_le _)).mono ?_
    rintro r w4 ⟨rfl, hb4⟩
    have HC4 := Lib.hid (HC3.out.below hb4)
    have HD4 := Lib.hid (HD3.out.below hb4)
    have HG4 := Lib.hid (chain HG3.out hb4)
    have HI14 := Lib.hid (HI1.out.below hb4)
    have HI24 := Lib.hid (HI2.out.below hb4)
    clear hb4 HC3 HD3 HG3 HI1 HI2
    have p0 := HC4.out.c 0 rfl
    have p1 := HC4.out.c 1 rfl
    have p2 := HC4.out.c 2 rfl
    have p3 := HC4.out.c 3 rfl
    have p4 := HC4.out.c 4 rfl
    have zp := HC4.out.1
    have q0 := HD4.out.c 0 rfl
    have q1 := HD4.out.c 1 rfl
    have q2 := HD4.out.c 2 rfl
    have q3 := HD4.out.c 3 rfl
    have q4 := HD4.out.c 4 rfl
    have f0 := HD4.out.f 0 rfl
    have f1 := HD4.out.f 1 rfl
    have f2 := HD4.out.f 2 rfl
    have f3 := HD4.out.f 3 rfl
    have f4 := HD4.out.f 4 rfl
    have zq := HD4.out.1
    go_wp2_with fail
    refine bodyPost_ret (v := .tuple #[.agg #[.slice none 0 0, .slice none 0 0, .int .i64 0, .int .i64 0, .slice none 0 0], .int .i64 1]) (by simp [results, Try.results9, go_sem, q0, f0, q1, f1, q2, f2, q3, f3, q4, f4, zq] <;> first | rfl | ((repeat' apply And.intro) <;> rfl)) rfl (PO.zero rfl (below_set5 HG4.out (Nat.le_refl _) _ _ _ _ _))
  · rw [if_pos rfl]
    rw [hv] at KV
    replace KV := Lib.hid KV
    clear hv
    go_enter Try.func9, Try.ntmps9
    go_wp2_with fail
    refine (KC.out _ HB.out).mono ?_
    rintro r w2 ⟨v1, v2, v3, b2, b3, rfl, hB2, hB3, hO1, hv1, hO2, hv2, hO3, hbb3, hb2'⟩
    obtain ⟨X1, k1, rfl, hk1, _, hi1, hf1, hl1⟩ := own_it hO1
    obtain ⟨X2, k2, rfl, hk2, _, hi2, hf2, hl2'⟩ := own_it hO2
    obtain ⟨X3, k3, rfl, hk3, _, hi3, hf3, hl3'⟩ := own_it hO3
    have hZ := HZ.out
    have hz2 := hb2'.size
    have hw2 : w.heap.size + 1 ≤ w2.heap.size := by omega
    have hff1 : Fr (w.heap.size + 1) X1 := fr_le hf1 (by omega)
    have hff2 : Fr (w.heap.size + 1) X2 := fr_le hf2 (by omega)
    have hff3 : Fr (w.heap.size + 1) X3 := fr_le hf3 (by omega)
    have HQ2 := Lib.hid (HQ.out.below hb2')
    have HG2 := Lib.hid (chain HG.out hb2')
    have al2 : Below w2.heap.size w2 (w2.alloc (.cells #[.slice X1 l.length k1, .slice X2 l.length k2, .int .i64 0, .int .i64 (-1), .slice X3 0 k3] 25)) := (Below.refl _ _).alloc (Nat.le_refl _) _
    have HC3 := Lib.hid (Cl.new (w := w2) rfl [.slice X1 l.length k1, .slice X2 l.length k2, .int .i64 0, .int .i64 (-1), .slice X3 0 k3] 25)
    have HD3 := Lib.hid (HQ2.out.below al2)
    have HG3 := Lib.hid (chain HG2.out al2)
    have HI1 := Lib.hid (hi1.below al2)
    have HI2 := Lib.hid (hi2.below al2)
    clear hO1 hO2 hO3 hv1 hv2 hi1 hi2 hi3 hb2' hbb3 hB2 hB3 hf1 hf2 hf3 hl1 hl2' hl3' HQ HG HZ HB HQ2 HG2 al2 hZ hz2 KC
    go_wp2_with fail
    refine (KV.out X1 k1 X2 k2 X3 k3 _ HI1.out HI2.out hk1 hk2 (Nat.zero_le _)).mono ?_
    rintro r w4 ⟨rfl, hb4⟩
    have HC4 := Lib.hid (HC3.out.below hb4)
    have HD4 := Lib.hid (HD3.out.below hb4)
    have HG4 := Lib.hid (chain HG3.out hb4)
    have HI14 := Lib.hid (HI1.out.below hb4)
    have HI24 := Lib.hid (HI2.out.below hb4)
    clear hb4 HC3 HD3 HG3 HI1 HI2
    have p0 := HC4.out.c 0 rfl
    have p1 := HC4.out.c 1 rfl
    have p2 := HC4.out.c 2 rfl
    have p3 := HC4.out.c 3 rfl
    have p4 := HC4.out.c 4 rfl
    have zp := HC4.out.1
    have q0 := HD4.out.c 0 rfl
    have q1 := HD4.out.c 1 rfl
    have q2 := HD4.out.c 2 rfl
    have q3 := HD4.out.c 3 rfl
    have q4 := HD4.out.c 4 rfl
    have f0 := HD4.out.f 0 rfl
    have f1 := HD4.out.f 1 rfl
    have f2 := HD4.out.f 2 rfl
    have f3 := HD4.out.f 3 rfl
    have f4 := HD4.out.f 4 rfl
    have zq := HD4.out.1
    go_wp2_with fail
    refine bodyPost_ret (v := .tuple #[.agg #[.slice X1 l.length k1, .slice X2 l.length k2, .int .i64 0, .int .i64 (-1), .slice X3 0 k3], .int .i64 0]) (by simp [results, Try.results9, go_sem, q0, f0, q1, f1, q2, f2, q3, f3, q4, f4, zq] <;> first | rfl | ((repeat' apply And.intro) <;> rfl)) rfl ⟨X1, l.length, k1, X2, l.length, k2, X3, 0, k3, rfl, rfl, hk1, ?_, rfl, hk2, ?_, rfl, Nat.zero_le _, Ik.nil _ _ _, fr_le hff1 (by omega), fr_le hff2 (by omega), fr_le hff3 (by omega), below_set5 HG4.out (Nat.le_refl _) _ _ _ _ _⟩
    · exact HI14.out.fr5 hff1 (Nat.lt_succ_self _) _ _ _ _ _
    · exact HI24.out.fr5 hff2 (Nat.lt_succ_self _) _ _ _ _ _
end Go.Proofs.Ytamajedopofcoaa
