/-
  The contract of command where the length is wrong. No condition.
  The contract of command where the first byte is no command's. No condition.
  The contract of command for a read that fails. No condition.
  The contract of command for a measure of wrong length. No condition.
-/
import Derived.Test.YtamajedopofcoaaZD
set_option linter.unusedVariables false
set_option linter.unusedSimpArgs false
namespace Go.Proofs.Ytamajedopofcoaa
open Go.RowKit
set_option maxRecDepth 100000 in
set_option maxHeartbeats 16000000 in
open Go.Maps in
theorem cmd41_form1 (A : Option Addr) (n c : Nat) (A2 : Option Addr) (n2 c2 : Nat) (Ac Pe : Int) (A3 : Option Addr) (m c3 : Nat) (R W : List Int) (ch : List (Int × Int)) (A4 : Option Addr) (mm c4 : Nat) (b o nb c5 : Nat) (w : World) (h0 : w.cell? ⟨b, o, none⟩ = some (.int .u8 1)) (hbl : b < w.heap.size) (hc5 : nb ≤ c5) (hp : 1 ≤ nb) (hne : nb ≠ 3) : Calls Try.prog 41 #[.agg #[.slice A n c, .slice A2 n2 c2, .int .i64 Ac, .int .i64 Pe, .slice A3 m c3], .slice A4 mm c4, .slice (some ⟨b, o, none⟩) nb c5] w (fun r w' => r = .returned (.tuple #[.agg #[.slice A n c, .slice A2 n2 c2, .int .i64 Ac, .int .i64 Pe, .slice A3 m c3], .slice A4 mm c4, .slice none 0 0, .int .i64 3]) ∧ Below w.heap.size w w') := by
  have d1 : decide ((nb : Int) = 3) = false := by simp; omega
  have d2 : ((nb : Int) == 3) = false := by simp; omega
  have d3 : ((nb : Int) != 3) = true := by simp; omega
  have hnb : nb ≠ 0 ∨ nb = 0 := by omega
  clear hnb
  have hpos : (0 : Int) < (nb : Int) := by omega
  have hmm := @run_makeMap Try.prog
  go_enter Try.func41, Try.ntmps41
  go_upto_region 2 with fail
  obtain ⟨w8, hw8⟩ : ∃ wx, wx = ((w.alloc (.cells #[.slice A n c, .slice A2 n2 c2, .int .i64 Ac, .int .i64 Pe, .slice A3 m c3] 25)).alloc (.cells #[.slice A4 mm c4] 45)).alloc (.cells #[.slice none 0 0, .slice none 0 0, .int .i64 0, .int .i64 0, .slice none 0 0] 25) := ⟨_, rfl⟩
  have G8 : Below w.heap.size w w8 := by rw [hw8]; go_grown
  have z8 : w8.heap.size = w.heap.size + 3 := by rw [hw8]; simp
  have CP : Cl w.heap.size w8 [.slice A n c, .slice A2 n2 c2, .int .i64 Ac, .int .i64 Pe, .slice A3 m c3] := by rw [hw8]; exact ((Cl.new (w := w) rfl [.slice A n c, .slice A2 n2 c2, .int .i64 Ac, .int .i64 Pe, .slice A3 m c3] 25).below ((Below.refl _ _).alloc (Nat.le_refl _) _)).below ((Below.refl _ _).alloc (Nat.le_refl _) _)
  have CM : Cl (w.heap.size + 1) w8 [.slice A4 mm c4] := by rw [hw8]; exact (Cl.new (P := w.heap.size + 1) (by simp) [.slice A4 mm c4] 45).below ((Below.refl _ _).alloc (Nat.le_refl _) _)
  have CQ : Cl (w.heap.size + 1 + 1) w8 [.slice none 0 0, .slice none 0 0, .int .i64 0, .int .i64 0, .slice none 0 0] := by rw [hw8]; exact Cl.new (by simp) [.slice none 0 0, .slice none 0 0, .int .i64 0, .int .i64 0, .slice none 0 0] 25
  rw [← hw8]
  have HZ8 := Lib.hid z8
  clear hw8 z8
  have hown0 := World.ownsMap_made (H := Unit) w8 Try.prog 5 (plainElem Try.prog 3)
  go_upto_region 3 with (first | (refine insert_own _ rfl _ _ _ 78 rfl 5 3 (int_keyed Try.underlying5) Try.underlying78 (plainElem Try.prog 3) _ 0 _ rfl hown0 (by unfold maxLen; omega) _ _ _ rfl rfl (keyOf_int_mk Try.underlying5 (a := 1) rfl) _ [] (plainElem_int Try.underlying3 (a := 3) rfl) ?_; intro m1 hown1 hgr1) | (refine insert_own _ rfl _ _ _ 78 rfl 5 3 (int_keyed Try.underlying5) Try.underlying78 (plainElem Try.prog 3) _ 1 _ rfl hown1 (by unfold maxLen; omega) _ _ _ rfl rfl (keyOf_int_mk Try.underlying5 (a := 2) rfl) _ [] (plainElem_int Try.underlying3 (a := 11) rfl) ?_; intro m2 hown2 hgr2) | (refine insert_own _ rfl _ _ _ 78 rfl 5 3 (int_keyed Try.underlying5) Try.underlying78 (plainElem Try.prog 3) _ 2 _ rfl hown2 (by unfold maxLen; omega) _ _ _ rfl rfl (keyOf_int_mk Try.underlying5 (a := 3) rfl) _ [] (plainElem_int Try.underlying3 (a := 2) rfl) ?_; intro m3 hown3 hgr3) | (refine insert_own _ rfl _ _ _ 78 rfl 5 3 (int_keyed Try.underlying5) Try.underlying78 (plainElem Try.prog 3) _ 3 _ rfl hown3 (by unfold maxLen; omega) _ _ _ rfl rfl (keyOf_int_mk Try.underlying5 (a := 5) rfl) _ [] (plainElem_int Try.underlying3 (a := 2) rfl) ?_; intro m4 hown4 hgr4) | (refine insert_own _ rfl _ _ _ 78 rfl 5 3 (int_keyed Try.underlying5) Try.underlying78 (plainElem Try.prog 3) _ 4 _ rfl hown4 (by unfold maxLen; omega) _ _ _ rfl rfl (keyOf_int_mk Try.underlying5 (a := 6) rfl) _ [] (plainElem_int Try.underlying3 (a := 2) rfl) ?_; intro m5 hown5 hgr5))
  have g0 : Below w8.heap.size w8 (w8.alloc (.map #[] 0)) := (Below.refl _ _).alloc (Nat.le_refl _) _
  have hBg : ∀ k, some w8.heap.size = some k → w8.heap.size ≤ k := fun k e => by injection e with e; omega
  have g1 := g0.grown hgr1 g0.size hBg
  have g2 := g1.grown hgr2 g1.size hBg
  have g3 := g2.grown hgr3 g2.size hBg
  have g4 := g3.grown hgr4 g3.size hBg
  have g5 := g4.grown hgr5 g4.size hBg
  have s1 : m5.cell? ⟨b, o, none⟩ = some (.int .u8 1) := ((bcell (chain G8 g5)).1 b o hbl).trans h0
  have HP5 := Lib.hid (CP.below g5)
  have HM5 := Lib.hid (CM.below g5)
  have HQ5 := Lib.hid (CQ.below g5)
  have HG5 := Lib.hid (chain G8 g5)
  have hb5 : b < m5.heap.size := by have := g5.size; have := HZ8.out; omega
  clear hown0 hown1 hown2 hown3 hown4 hgr1 hgr2 hgr3 hgr4 hgr5 g0 g1 g2 g3 g4 g5 hBg CP CM CQ G8 h0
  go_upto_region 4 with (first | (at_lookup; refine wpList_lookup_own_ok_int _ rfl _ _ 78 rfl 5 3 .i64 (int_keyed Try.underlying5) Try.underlying78 Try.underlying3 (by kernel_rfl) _ 5 _ rfl hown5 _ _ rfl (keyOf_int_mk Try.underlying5 (a := 1) rfl) ?_; intro c0 hat hwc))
  have hc03 : c0 = 3 := by
    have e : (DataW.lit (Lit.int .i64 3) : DataW Unit) = .lit (.int .i64 c0) := hat
    injection e with e; injection e with _ e; exact e.symm
  subst hc03
  rw [show Maps.has ((((((DataW.map [] : DataW Unit).put (.int .u8 1) (.lit (.int .i64 3))).put (.int .u8 2) (.lit (.int .i64 11))).put (.int .u8 3) (.lit (.int .i64 2))).put (.int .u8 5) (.lit (.int .i64 2))).put (.int .u8 6) (.lit (.int .i64 2))) (Lit.int .u8 1) = true from by kernel_rfl]
  clear hat hwc hown5
  go_wp2_with fail
  have hPP := HP5.out
  have hMM := HM5.out
  refine (fail51 A n c A2 n2 c2 Ac Pe A3 m c3 R W ch A4 mm c4 3 w.heap.size (w.heap.size + 1) m5 hPP hMM).mono ?_
  rintro r w9 ⟨rfl, hb9⟩
  have HQ9 := Lib.hid (HQ5.out.below hb9)
  have HG9 := Lib.hid (chain HG5.out hb9)
  clear hb9 hPP hMM HP5 HM5 HQ5 HG5
  have q0 := HQ9.out.c 0 rfl
  have q1 := HQ9.out.c 1 rfl
  have q2 := HQ9.out.c 2 rfl
  have q3 := HQ9.out.c 3 rfl
  have q4 := HQ9.out.c 4 rfl
  have f0 := HQ9.out.f 0 rfl
  have f1 := HQ9.out.f 1 rfl
  have f2 := HQ9.out.f 2 rfl
  have f3 := HQ9.out.f 3 rfl
  have f4 := HQ9.out.f 4 rfl
  have zq := HQ9.out.1
  go_wp2_with fail
  refine bodyPost_ret (v := .tuple #[.agg #[.slice A n c, .slice A2 n2 c2, .int .i64 Ac, .int .i64 Pe, .slice A3 m c3], .slice A4 mm c4, .slice none 0 0, .int .i64 3]) (by simp [results, Try.results41, go_sem, q0, f0, q1, f1, q2, f2, q3, f3, q4, f4, zq] <;> first | rfl | ((repeat' apply And.intro) <;> rfl)) rfl ⟨rfl, below_set5 HG9.out (by omega) _ _ _ _ _⟩
set_option maxRecDepth 100000 in
set_option maxHeartbeats 16000000 in
open Go.Maps in
theorem cmd41_form2 (A : Option Addr) (n c : Nat) (A2 : Option Addr) (n2 c2 : Nat) (Ac Pe : Int) (A3 : Option Addr) (m c3 : Nat) (R W : List Int) (ch : List (Int × Int)) (A4 : Option Addr) (mm c4 : Nat) (b o nb c5 : Nat) (w : World) (h0 : w.cell? ⟨b, o, none⟩ = some (.int .u8 2)) (hbl : b < w.heap.size) (hc5 : nb ≤ c5) (hp : 1 ≤ nb) (hne : nb ≠ 11) : Calls Try.prog 41 #[.agg #[.slice A n c, .slice A2 n2 c2, .int .i64 Ac, .int .i64 Pe, .slice A3 m c3], .slice A4 mm c4, .slice (some ⟨b, o, none⟩) nb c5] w (fun r w' => r = .returned (.tuple #[.agg #[.slice A n c, .slice A2 n2 c2, .int .i64 Ac, .int .i64 Pe, .slice A3 m c3], .slice A4 mm c4, .slice none 0 0, .int .i64 3]) ∧ Below w.heap.size w w') := by
  have d1 : decide ((nb : Int) = 11) = false := by simp; omega
  have d2 : ((nb : Int) == 11) = false := by simp; omega
  have d3 : ((nb : Int) != 11) = true := by simp; omega
  have hnb : nb ≠ 0 ∨ nb = 0 := by omega
  clear hnb
  have hpos : (0 : Int) < (nb : Int) := by omega
  have hmm := @run_makeMap Try.prog
  go_enter Try.func41, Try.ntmps41
  go_upto_region 2 with fail
  obtain ⟨w8, hw8⟩ : ∃ wx, wx = ((w.alloc (.cells #[.slice A n c, .slice A2 n2 c2, .int .i64 Ac, .int .i64 Pe, .slice A3 m c3] 25)).alloc (.cells #[.slice A4 mm c4] 45)).alloc (.cells #[.slice none 0 0, .slice none 0 0, .int .i64 0, .int .i64 0, .slice none 0 0] 25) := ⟨_, rfl⟩
  have G8 : Below w.heap.size w w8 := by rw [hw8]; go_grown
  have z8 : w8.heap.size = w.heap.size + 3 := by rw [hw8]; simp
  have CP : Cl w.heap.size w8 [.slice A n c, .slice A2 n2 c2, .int .i64 Ac, .int .i64 Pe, .slice A3 m c3] := by rw [hw8]; exact ((Cl.new (w := w) rfl [.slice A n c, .slice A2 n2 c2, .int .i64 Ac, .int .i64 Pe, .slice A3 m c3] 25).below ((Below.refl _ _).alloc (Nat.le_refl _) _)).below ((Below.refl _ _).alloc (Nat.le_refl _) _)
  have CM : Cl (w.heap.size + 1) w8 [.slice A4 mm c4] := by rw [hw8]; exact (Cl.new (P := w.heap.size + 1) (by simp) [.slice A4 mm c4] 45).below ((Below.refl _ _).alloc (Nat.le_refl _) _)
  have CQ : Cl (w.heap.size + 1 + 1) w8 [.slice none 0 0, .slice none 0 0, .int .i64 0, .int .i64 0, .slice none 0 0] := by rw [hw8]; exact Cl.new (by simp) [.slice none 0 0, .slice none 0 0, .int .i64 0, .int .i64 0, .slice none 0 0] 25
  rw [← hw8]
  have HZ8 := Lib.hid z8
  clear hw8 z8
  have hown0 := World.ownsMap_made (H := Unit) w8 Try.prog 5 (plainElem Try.prog 3)
  go_upto_region 3 with (first | (refine insert_own _ rfl _ _ _ 78 rfl 5 3 (int_keyed Try.underlying5) Try.underlying78 (plainElem Try.prog 3) _ 0 _ rfl hown0 (by unfold maxLen; omega) _ _ _ rfl rfl (keyOf_int_mk Try.underlying5 (a := 1) rfl) _ [] (plainElem_int Try.underlying3 (a := 3) rfl) ?_; intro m1 hown1 hgr1) | (refine insert_own _ rfl _ _ _ 78 rfl 5 3 (int_keyed Try.underlying5) Try.underlying78 (plainElem Try.prog 3) _ 1 _ rfl hown1 (by unfold maxLen; omega) _ _ _ rfl rfl (keyOf_int_mk Try.underlying5 (a := 2) rfl) _ [] (plainElem_int Try.underlying3 (a := 11) rfl) ?_; intro m2 hown2 hgr2) | (refine insert_own _ rfl _ _ _ 78 rfl 5 3 (int_keyed Try.underlying5) Try.underlying78 (plainElem Try.prog 3) _ 2 _ rfl hown2 (by unfold maxLen; omega) _ _ _ rfl rfl (keyOf_int_mk Try.underlying5 (a := 3) rfl) _ [] (plainElem_int Try.underlying3 (a := 2) rfl) ?_; intro m3 hown3 hgr3) | (refine insert_own _ rfl _ _ _ 78 rfl 5 3 (int_keyed Try.underlying5) Try.underlying78 (plainElem Try.prog 3) _ 3 _ rfl hown3 (by unfold maxLen; omega) _ _ _ rfl rfl (keyOf_int_mk Try.underlying5 (a := 5) rfl) _ [] (plainElem_int Try.underlying3 (a := 2) rfl) ?_; intro m4 hown4 hgr4) | (refine insert_own _ rfl _ _ _ 78 rfl 5 3 (int_keyed Try.underlying5) Try.underlying78 (plainElem Try.prog 3) _ 4 _ rfl hown4 (by unfold maxLen; omega) _ _ _ rfl rfl (keyOf_int_mk Try.underlying5 (a := 6) rfl) _ [] (plainElem_int Try.underlying3 (a := 2) rfl) ?_; intro m5 hown5 hgr5))
  have g0 : Below w8.heap.size w8 (w8.alloc (.map #[] 0)) := (Below.refl _ _).alloc (Nat.le_refl _) _
  have hBg : ∀ k, some w8.heap.size = some k → w8.heap.size ≤ k := fun k e => by injection e with e; omega
  have g1 := g0.grown hgr1 g0.size hBg
  have g2 := g1.grown hgr2 g1.size hBg
  have g3 := g2.grown hgr3 g2.size hBg
  have g4 := g3.grown hgr4 g3.size hBg
  have g5 := g4.grown hgr5 g4.size hBg
  have s1 : m5.cell? ⟨b, o, none⟩ = some (.int .u8 2) := ((bcell (chain G8 g5)).1 b o hbl).trans h0
  have HP5 := Lib.hid (CP.below g5)
  have HM5 := Lib.hid (CM.below g5)
  have HQ5 := Lib.hid (CQ.below g5)
  have HG5 := Lib.hid (chain G8 g5)
  have hb5 : b < m5.heap.size := by have := g5.size; have := HZ8.out; omega
  clear hown0 hown1 hown2 hown3 hown4 hgr1 hgr2 hgr3 hgr4 hgr5 g0 g1 g2 g3 g4 g5 hBg CP CM CQ G8 h0
  go_upto_region 4 with (first | (at_lookup; refine wpList_lookup_own_ok_int _ rfl _ _ 78 rfl 5 3 .i64 (int_keyed Try.underlying5) Try.underlying78 Try.underlying3 (by kernel_rfl) _ 5 _ rfl hown5 _ _ rfl (keyOf_int_mk Try.underlying5 (a := 2) rfl) ?_; intro c0 hat hwc))
  have hc03 : c0 = 11 := by
    have e : (DataW.lit (Lit.int .i64 11) : DataW Unit) = .lit (.int .i64 c0) := hat
    injection e with e; injection e with _ e; exact e.symm
  subst hc03
  rw [show Maps.has ((((((DataW.map [] : DataW Unit).put (.int .u8 1) (.lit (.int .i64 3))).put (.int .u8 2) (.lit (.int .i64 11))).put (.int .u8 3) (.lit (.int .i64 2))).put (.int .u8 5) (.lit (.int .i64 2))).put (.int .u8 6) (.lit (.int .i64 2))) (Lit.int .u8 2) = true from by kernel_rfl]
  clear hat hwc hown5
  go_wp2_with fail
  have hPP := HP5.out
  have hMM := HM5.out
  refine (fail51 A n c A2 n2 c2 Ac Pe A3 m c3 R W ch A4 mm c4 3 w.heap.size (w.heap.size + 1) m5 hPP hMM).mono ?_
  rintro r w9 ⟨rfl, hb9⟩
  have HQ9 := Lib.hid (HQ5.out.below hb9)
  have HG9 := Lib.hid (chain HG5.out hb9)
  clear hb9 hPP hMM HP5 HM5 HQ5 HG5
  have q0 := HQ9.out.c 0 rfl
  have q1 := HQ9.out.c 1 rfl
  have q2 := HQ9.out.c 2 rfl
  have q3 := HQ9.out.c 3 rfl
  have q4 := HQ9.out.c 4 rfl
  have f0 := HQ9.out.f 0 rfl
  have f1 := HQ9.out.f 1 rfl
  have f2 := HQ9.out.f 2 rfl
  have f3 := HQ9.out.f 3 rfl
  have f4 := HQ9.out.f 4 rfl
  have zq := HQ9.out.1
  go_wp2_with fail
  refine bodyPost_ret (v := .tuple #[.agg #[.slice A n c, .slice A2 n2 c2, .int .i64 Ac, .int .i64 Pe, .slice A3 m c3], .slice A4 mm c4, .slice none 0 0, .int .i64 3]) (by simp [results, Try.results41, go_sem, q0, f0, q1, f1, q2, f2, q3, f3, q4, f4, zq] <;> first | rfl | ((repeat' apply And.intro) <;> rfl)) rfl ⟨rfl, below_set5 HG9.out (by omega) _ _ _ _ _⟩
set_option maxRecDepth 100000 in
set_option maxHeartbeats 16000000 in
open Go.Maps in
theorem cmd41_form3 (A : Option Addr) (n c : Nat) (A2 : Option Addr) (n2 c2 : Nat) (Ac Pe : Int) (A3 : Option Addr) (m c3 : Nat) (R W : List Int) (ch : List (Int × Int)) (A4 : Option Addr) (mm c4 : Nat) (b o nb c5 : Nat) (w : World) (h0 : w.cell? ⟨b, o, none⟩ = some (.int .u8 3)) (hbl : b < w.heap.size) (hc5 : nb ≤ c5) (hp : 1 ≤ nb) (hne : nb ≠ 2) : Calls Try.prog 41 #[.agg #[.slice A n c, .slice A2 n2 c2, .int .i64 Ac, .int .i64 Pe, .slice A3 m c3], .slice A4 mm c4, .slice (some ⟨b, o, none⟩) nb c5] w (fun r w' => r = .returned (.tuple #[.agg #[.slice A n c, .slice A2 n2 c2, .int .i64 Ac, .int .i64 Pe, .slice A3 m c3], .slice A4 mm c4, .slice none 0 0, .int .i64 3]) ∧ Below w.heap.size w w') := by
  have d1 : decide ((nb : Int) = 2) = false := by simp; omega
  have d2 : ((nb : Int) == 2) = false := by simp; omega
  have d3 : ((nb : Int) != 2) = true := by simp; omega
  have hnb : nb ≠ 0 ∨ nb = 0 := by omega
  clear hnb
  have hpos : (0 : Int) < (nb : Int) := by omega
  have hmm := @run_makeMap Try.prog
  go_enter Try.func41, Try.ntmps41
  go_upto_region 2 with fail
  obtain ⟨w8, hw8⟩ : ∃ wx, wx = ((w.alloc (.cells #[.slice A n c, .slice A2 n2 c2, .int .i64 Ac, .int .i64 Pe, .slice A3 m c3] 25)).alloc (.cells #[.slice A4 mm c4] 45)).alloc (.cells #[.slice none 0 0, .slice none 0 0, .int .i64 0, .int .i64 0, .slice none 0 0] 25) := ⟨_, rfl⟩
  have G8 : Below w.heap.size w w8 := by rw [hw8]; go_grown
  have z8 : w8.heap.size = w.heap.size + 3 := by rw [hw8]; simp
  have CP : Cl w.heap.size w8 [.slice A n c, .slice A2 n2 c2, .int .i64 Ac, .int .i64 Pe, .slice A3 m c3] := by rw [hw8]; exact ((Cl.new (w := w) rfl [.slice A n c, .slice A2 n2 c2, .int .i64 Ac, .int .i64 Pe, .slice A3 m c3] 25).below ((Below.refl _ _).alloc (Nat.le_refl _) _)).below ((Below.refl _ _).alloc (Nat.le_refl _) _)
  have CM : Cl (w.heap.size + 1) w8 [.slice A4 mm c4] := by rw [hw8]; exact (Cl.new (P := w.heap.size + 1) (by simp) [.slice A4 mm c4] 45).below ((Below.refl _ _).alloc (Nat.le_refl _) _)
  have CQ : Cl (w.heap.size + 1 + 1) w8 [.slice none 0 0, .slice none 0 0, .int .i64 0, .int .i64 0, .slice none 0 0] := by rw [hw8]; exact Cl.new (by simp) [.slice none 0 0, .slice none 0 0, .int .i64 0, .int .i64 0, .slice none 0 0] 25
  rw [← hw8]
  have HZ8 := Lib.hid z8
  clear hw8 z8
  have hown0 := World.ownsMap_made (H := Unit) w8 Try.prog 5 (plainElem Try.prog 3)
  go_upto_region 3 with (first | (refine insert_own _ rfl _ _ _ 78 rfl 5 3 (int_keyed Try.underlying5) Try.underlying78 (plainElem Try.prog 3) _ 0 _ rfl hown0 (by unfold maxLen; omega) _ _ _ rfl rfl (keyOf_int_mk Try.underlying5 (a := 1) rfl) _ [] (plainElem_int Try.underlying3 (a := 3) rfl) ?_; intro m1 hown1 hgr1) | (refine insert_own _ rfl _ _ _ 78 rfl 5 3 (int_keyed Try.underlying5) Try.underlying78 (plainElem Try.prog 3) _ 1 _ rfl hown1 (by unfold maxLen; omega) _ _ _ rfl rfl (keyOf_int_mk Try.underlying5 (a := 2) rfl) _ [] (plainElem_int Try.underlying3 (a := 11) rfl) ?_; intro m2 hown2 hgr2) | (refine insert_own _ rfl _ _ _ 78 rfl 5 3 (int_keyed Try.underlying5) Try.underlying78 (plainElem Try.prog 3) _ 2 _ rfl hown2 (by unfold maxLen; omega) _ _ _ rfl rfl (keyOf_int_mk Try.underlying5 (a := 3) rfl) _ [] (plainElem_int Try.underlying3 (a := 2) rfl) ?_; intro m3 hown3 hgr3) | (refine insert_own _ rfl _ _ _ 78 rfl 5 3 (int_keyed Try.underlying5) Try.underlying78 (plainElem Try.prog 3) _ 3 _ rfl hown3 (by unfold maxLen; omega) _ _ _ rfl rfl (keyOf_int_mk Try.underlying5 (a := 5) rfl) _ [] (plainElem_int Try.underlying3 (a := 2) rfl) ?_; intro m4 hown4 hgr4) | (refine insert_own _ rfl _ _ _ 78 rfl 5 3 (int_keyed Try.underlying5) Try.underlying78 (plainElem Try.prog 3) _ 4 _ rfl hown4 (by unfold maxLen; omega) _ _ _ rfl rfl (keyOf_int_mk Try.underlying5 (a := 6) rfl) _ [] (plainElem_int Try.underlying3 (a := 2) rfl) ?_; intro m5 hown5 hgr5))
  have g0 : Below w8.heap.size w8 (w8.alloc (.map #[] 0)) := (Below.refl _ _).alloc (Nat.le_refl _) _
  have hBg : ∀ k, some w8.heap.size = some k → w8.heap.size ≤ k := fun k e => by injection e with e; omega
  have g1 := g0.grown hgr1 g0.size hBg
  have g2 := g1.grown hgr2 g1.size hBg
  have g3 := g2.grown hgr3 g2.size hBg
  have g4 := g3.grown hgr4 g3.size hBg
  have g5 := g4.grown hgr5 g4.size hBg
  have s1 : m5.cell? ⟨b, o, none⟩ = some (.int .u8 3) := ((bcell (chain G8 g5)).1 b o hbl).trans h0
  have HP5 := Lib.hid (CP.below g5)
  have HM5 := Lib.hid (CM.below g5)
  have HQ5 := Lib.hid (CQ.below g5)
  have HG5 := Lib.hid (chain G8 g5)
  have hb5 : b < m5.heap.size := by have := g5.size; have := HZ8.out; omega
  clear hown0 hown1 hown2 hown3 hown4 hgr1 hgr2 hgr3 hgr4 hgr5 g0 g1 g2 g3 g4 g5 hBg CP CM CQ G8 h0
  go_upto_region 4 with (first | (at_lookup; refine wpList_lookup_own_ok_int _ rfl _ _ 78 rfl 5 3 .i64 (int_keyed Try.underlying5) Try.underlying78 Try.underlying3 (by kernel_rfl) _ 5 _ rfl hown5 _ _ rfl (keyOf_int_mk Try.underlying5 (a := 3) rfl) ?_; intro c0 hat hwc))
  have hc03 : c0 = 2 := by
    have e : (DataW.lit (Lit.int .i64 2) : DataW Unit) = .lit (.int .i64 c0) := hat
    injection e with e; injection e with _ e; exact e.symm
  subst hc03
  rw [show Maps.has ((((((DataW.map [] : DataW Unit).put (.int .u8 1) (.lit (.int .i64 3))).put (.int .u8 2) (.lit (.int .i64 11))).put (.int .u8 3) (.lit (.int .i64 2))).put (.int .u8 5) (.lit (.int .i64 2))).put (.int .u8 6) (.lit (.int .i64 2))) (Lit.int .u8 3) = true from by kernel_rfl]
  clear hat hwc hown5
  go_wp2_with fail
  have hPP := HP5.out
  have hMM := HM5.out
  refine (fail51 A n c A2 n2 c2 Ac Pe A3 m c3 R W ch A4 mm c4 3 w.heap.size (w.heap.size + 1) m5 hPP hMM).mono ?_
  rintro r w9 ⟨rfl, hb9⟩
  have HQ9 := Lib.hid (HQ5.out.below hb9)
  have HG9 := Lib.hid (chain HG5.out hb9)
  clear hb9 hPP hMM HP5 HM5 HQ5 HG5
  have q0 := HQ9.out.c 0 rfl
  have q1 := HQ9.out.c 1 rfl
  have q2 := HQ9.out.c 2 rfl
  have q3 := HQ9.out.c 3 rfl
  have q4 := HQ9.out.c 4 rfl
  have f0 := HQ9.out.f 0 rfl
  have f1 := HQ9.out.f 1 rfl
  have f2 := HQ9.out.f 2 rfl
  have f3 := HQ9.out.f 3 rfl
  have f4 := HQ9.out.f 4 rfl
  have zq := HQ9.out.1
  go_wp2_with fail
  refine bodyPost_ret (v := .tuple #[.agg #[.slice A n c, .slice A2 n2 c2, .int .i64 Ac, .int .i64 Pe, .slice A3 m c3], .slice A4 mm c4, .slice none 0 0, .int .i64 3]) (by simp [results, Try.results41, go_sem, q0, f0, q1, f1, q2, f2, q3, f3, q4, f4, zq] <;> first | rfl | ((repeat' apply And.intro) <;> rfl)) rfl ⟨rfl, below_set5 HG9.out (by omega) _ _ _ _ _⟩
set_option maxRecDepth 100000 in
set_option maxHeartbeats 16000000 in
open Go.Maps in
theorem cmd41_form5 (A : Option Addr) (n c : Nat) (A2 : Option Addr) (n2 c2 : Nat) (Ac Pe : Int) (A3 : Option Addr) (m c3 : Nat) (R W : List Int) (ch : List (Int × Int)) (A4 : Option Addr) (mm c4 : Nat) (b o nb c5 : Nat) (w : World) (h0 : w.cell? ⟨b, o, none⟩ = some (.int .u8 5)) (hbl : b < w.heap.size) (hc5 : nb ≤ c5) (hp : 1 ≤ nb) (hne : nb ≠ 2) : Calls Try.prog 41 #[.agg #[.slice A n c, .slice A2 n2 c2, .int .i64 Ac, .int .i64 Pe, .slice A3 m c3], .slice A4 mm c4, .slice (some ⟨b, o, none⟩) nb c5] w (fun r w' => r = .returned (.tuple #[.agg #[.slice A n c, .slice A2 n2 c2, .int .i64 Ac, .int .i64 Pe, .slice A3 m c3], .slice A4 mm c4, .slice none 0 0, .int .i64 3]) ∧ Below w.heap.size w w') := by
  have d1 : decide ((nb : Int) = 2) = false := by simp; omega
  have d2 : ((nb : Int) == 2) = false := by simp; omega
  have d3 : ((nb : Int) != 2) = true := by simp; omega
  have hnb : nb ≠ 0 ∨ nb = 0 := by omega
  clear hnb
  have hpos : (0 : Int) < (nb : Int) := by omega
  have hmm := @run_makeMap Try.prog
  go_enter Try.func41, Try.ntmps41
  go_upto_region 2 with fail
  obtain ⟨w8, hw8⟩ : ∃ wx, wx = ((w.alloc (.cells #[.slice A n c, .slice A2 n2 c2, .int .i64 Ac, .int .i64 Pe, .slice A3 m c3] 25)).alloc (.cells #[.slice A4 mm c4] 45)).alloc (.cells #[.slice none 0 0, .slice none 0 0, .int .i64 0, .int .i64 0, .slice none 0 0] 25) := ⟨_, rfl⟩
  have G8 : Below w.heap.size w w8 := by rw [hw8]; go_grown
  have z8 : w8.heap.size = w.heap.size + 3 := by rw [hw8]; simp
  have CP : Cl w.heap.size w8 [.slice A n c, .slice A2 n2 c2, .int .i64 Ac, .int .i64 Pe, .slice A3 m c3] := by rw [hw8]; exact ((Cl.new (w := w) rfl [.slice A n c, .slice A2 n2 c2, .int .i64 Ac, .int .i64 Pe, .slice A3 m c3] 25).below ((Below.refl _ _).alloc (Nat.le_refl _) _)).below ((Below.refl _ _).alloc (Nat.le_refl _) _)
  have CM : Cl (w.heap.size + 1) w8 [.slice A4 mm c4] := by rw [hw8]; exact (Cl.new (P := w.heap.size + 1) (by simp) [.slice A4 mm c4] 45).below ((Below.refl _ _).alloc (Nat.le_refl _) _)
  have CQ : Cl (w.heap.size + 1 + 1) w8 [.slice none 0 0, .slice none 0 0, .int .i64 0, .int .i64 0, .slice none 0 0] := by rw [hw8]; exact Cl.new (by simp) [.slice none 0 0, .slice none 0 0, .int .i64 0, .int .i64 0, .slice none 0 0] 25
  rw [← hw8]
  have HZ8 := Lib.hid z8
  clear hw8 z8
  have hown0 := World.ownsMap_made (H := Unit) w8 Try.prog 5 (plainElem Try.prog 3)
  go_upto_region 3 with (first | (refine insert_own _ rfl _ _ _ 78 rfl 5 3 (int_keyed Try.underlying5) Try.underlying78 (plainElem Try.prog 3) _ 0 _ rfl hown0 (by unfold maxLen; omega) _ _ _ rfl rfl (keyOf_int_mk Try.underlying5 (a := 1) rfl) _ [] (plainElem_int Try.underlying3 (a := 3) rfl) ?_; intro m1 hown1 hgr1) | (refine insert_own _ rfl _ _ _ 78 rfl 5 3 (int_keyed Try.underlying5) Try.underlying78 (plainElem Try.prog 3) _ 1 _ rfl hown1 (by unfold maxLen; omega) _ _ _ rfl rfl (keyOf_int_mk Try.underlying5 (a := 2) rfl) _ [] (plainElem_int Try.underlying3 (a := 11) rfl) ?_; intro m2 hown2 hgr2) | (refine insert_own _ rfl _ _ _ 78 rfl 5 3 (int_keyed Try.underlying5) Try.underlying78 (plainElem Try.prog 3) _ 2 _ rfl hown2 (by unfold maxLen; omega) _ _ _ rfl rfl (keyOf_int_mk Try.underlying5 (a := 3) rfl) _ [] (plainElem_int Try.underlying3 (a := 2) rfl) ?_; intro m3 hown3 hgr3) | (refine insert_own _ rfl _ _ _ 78 rfl 5 3 (int_keyed Try.underlying5) Try.underlying78 (plainElem Try.prog 3) _ 3 _ rfl hown3 (by unfold maxLen; omega) _ _ _ rfl rfl (keyOf_int_mk Try.underlying5 (a := 5) rfl) _ [] (plainElem_int Try.underlying3 (a := 2) rfl) ?_; intro m4 hown4 hgr4) | (refine insert_own _ rfl _ _ _ 78 rfl 5 3 (int_keyed Try.underlying5) Try.underlying78 (plainElem Try.prog 3) _ 4 _ rfl hown4 (by unfold maxLen; omega) _ _ _ rfl rfl (keyOf_int_mk Try.underlying5 (a := 6) rfl) _ [] (plainElem_int Try.underlying3 (a := 2) rfl) ?_; intro m5 hown5 hgr5))
  have g0 : Below w8.heap.size w8 (w8.alloc (.map #[] 0)) := (Below.refl _ _).alloc (Nat.le_refl _) _
  have hBg : ∀ k, some w8.heap.size = some k → w8.heap.size ≤ k := fun k e => by injection e with e; omega
  have g1 := g0.grown hgr1 g0.size hBg
  have g2 := g1.grown hgr2 g1.size hBg
  have g3 := g2.grown hgr3 g2.size hBg
  have g4 := g3.grown hgr4 g3.size hBg
  have g5 := g4.grown hgr5 g4.size hBg
  have s1 : m5.cell? ⟨b, o, none⟩ = some (.int .u8 5) := ((bcell (chain G8 g5)).1 b o hbl).trans h0
  have HP5 := Lib.hid (CP.below g5)
  have HM5 := Lib.hid (CM.below g5)
  have HQ5 := Lib.hid (CQ.below g5)
  have HG5 := Lib.hid (chain G8 g5)
  have hb5 : b < m5.heap.size := by have := g5.size; have := HZ8.out; omega
  clear hown0 hown1 hown2 hown3 hown4 hgr1 hgr2 hgr3 hgr4 hgr5 g0 g1 g2 g3 g4 g5 hBg CP CM CQ G8 h0
  go_upto_region 4 with (first | (at_lookup; refine wpList_lookup_own_ok_int _ rfl _ _ 78 rfl 5 3 .i64 (int_keyed Try.underlying5) Try.underlying78 Try.underlying3 (by kernel_rfl) _ 5 _ rfl hown5 _ _ rfl (keyOf_int_mk Try.underlying5 (a := 5) rfl) ?_; intro c0 hat hwc))
  have hc03 : c0 = 2 := by
    have e : (DataW.lit (Lit.int .i64 2) : DataW Unit) = .lit (.int .i64 c0) := hat
    injection e with e; injection e with _ e; exact e.symm
  subst hc03
  rw [show Maps.has ((((((DataW.map [] : DataW Unit).put (.int .u8 1) (.lit (.int .i64 3))).put (.int .u8 2) (.lit (.int .i64 11))).put (.int .u8 3) (.lit (.int .i64 2))).put (.int .u8 5) (.lit (.int .i64 2))).put (.int .u8 6) (.lit (.int .i64 2))) (Lit.int .u8 5) = true from by kernel_rfl]
  clear hat hwc hown5
  go_wp2_with fail
  have hPP := HP5.out
  have hMM := HM5.out
  refine (fail51 A n c A2 n2 c2 Ac Pe A3 m c3 R W ch A4 mm c4 3 w.heap.size (w.heap.size + 1) m5 hPP hMM).mono ?_
  rintro r w9 ⟨rfl, hb9⟩
  have HQ9 := Lib.hid (HQ5.out.below hb9)
  have HG9 := Lib.hid (chain HG5.out hb9)
  clear hb9 hPP hMM HP5 HM5 HQ5 HG5
  have q0 := HQ9.out.c 0 rfl
  have q1 := HQ9.out.c 1 rfl
  have q2 := HQ9.out.c 2 rfl
  have q3 := HQ9.out.c 3 rfl
  have q4 := HQ9.out.c 4 rfl
  have f0 := HQ9.out.f 0 rfl
  have f1 := HQ9.out.f 1 rfl
  have f2 := HQ9.out.f 2 rfl
  have f3 := HQ9.out.f 3 rfl
  have f4 := HQ9.out.f 4 rfl
  have zq := HQ9.out.1
  go_wp2_with fail
  refine bodyPost_ret (v := .tuple #[.agg #[.slice A n c, .slice A2 n2 c2, .int .i64 Ac, .int .i64 Pe, .slice A3 m c3], .slice A4 mm c4, .slice none 0 0, .int .i64 3]) (by simp [results, Try.results41, go_sem, q0, f0, q1, f1, q2, f2, q3, f3, q4, f4, zq] <;> first | rfl | ((repeat' apply And.intro) <;> rfl)) rfl ⟨rfl, below_set5 HG9.out (by omega) _ _ _ _ _⟩
set_option maxRecDepth 100000 in
set_option maxHeartbeats 16000000 in
open Go.Maps in
theorem cmd41_form6 (A : Option Addr) (n c : Nat) (A2 : Option Addr) (n2 c2 : Nat) (Ac Pe : Int) (A3 : Option Addr) (m c3 : Nat) (R W : List Int) (ch : List (Int × Int)) (A4 : Option Addr) (mm c4 : Nat) (b o nb c5 : Nat) (w : World) (h0 : w.cell? ⟨b, o, none⟩ = some (.int .u8 6)) (hbl : b < w.heap.size) (hc5 : nb ≤ c5) (hp : 1 ≤ nb) (hne : nb ≠ 2) : Calls Try.prog 41 #[.agg #[.slice A n c, .slice A2 n2 c2, .int .i64 Ac, .int .i64 Pe, .slice A3 m c3], .slice A4 mm c4, .slice (some ⟨b, o, none⟩) nb c5] w (fun r w' => r = .returned (.tuple #[.agg #[.slice A n c, .slice A2 n2 c2, .int .i64 Ac, .int .i64 Pe, .slice A3 m c3], .slice A4 mm c4, .slice none 0 0, .int .i64 3]) ∧ Below w.heap.size w w') := by
  have d1 : decide ((nb : Int) = 2) = false := by simp; omega
  have d2 : ((nb : Int) == 2) = false := by simp; omega
  have d3 : ((nb : Int) != 2) = true := by simp; omega
  have hnb : nb ≠ 0 ∨ nb = 0 := by omega
  clear hnb
  have hpos : (0 : Int) < (nb : Int) := by omega
  have hmm := @run_makeMap Try.prog
  go_enter Try.func41, Try.ntmps41
  go_upto_region 2 with fail
  obtain ⟨w8, hw8⟩ : ∃ wx, wx = ((w.alloc (.cells #[.slice A n c, .slice A2 n2 c2, .int .i64 Ac, .int .i64 Pe, .slice A3 m c3] 25)).alloc (.cells #[.slice A4 mm c4] 45)).alloc (.cells #[.slice none 0 0, .slice none 0 0, .int .i64 0, .int .i64 0, .slice none 0 0] 25) := ⟨_, rfl⟩
  have G8 : Below w.heap.size w w8 := by rw [hw8]; go_grown
  have z8 : w8.heap.size = w.heap.size + 3 := by rw [hw8]; simp
  have CP : Cl w.heap.size w8 [.slice A n c, .slice A2 n2 c2, .int .i64 Ac, .int .i64 Pe, .slice A3 m c3] := by rw [hw8]; exact ((Cl.new (w := w) rfl [.slice A n c, .slice A2 n2 c2, .int .i64 Ac, .int .i64 Pe, .slice A3 m c3] 25).below ((Below.refl _ _).alloc (Nat.le_refl _) _)).below ((Below.refl _ _).alloc (Nat.le_refl _) _)
  have CM : Cl (w.heap.size + 1) w8 [.slice A4 mm c4] := by rw [hw8]; exact (Cl.new (P := w.heap.size + 1) (by simp) [.slice A4 mm c4] 45).below ((Below.refl _ _).alloc (Nat.le_refl _) _)
  have CQ : Cl (w.heap.size + 1 + 1) w8 [.slice none 0 0, .slice none 0 0, .int .i64 0, .int .i64 0, .slice none 0 0] := by rw [hw8]; exact Cl.new (by simp) [.slice none 0 0, .slice none 0 0, .int .i64 0, .int .i64 0, .slice none 0 0] 25
  rw [← hw8]
  have HZ8 := Lib.hid z8
  clear hw8 z8
  have hown0 := World.ownsMap_made (H := Unit) w8 Try.prog 5 (plainElem Try.prog 3)
  go_upto_region 3 with (first | (refine insert_own _ rfl _ _ _ 78 rfl 5 3 (int_keyed Try.underlying5) Try.underlying78 (plainElem Try.prog 3) _ 0 _ rfl hown0 (by unfold maxLen; omega) _ _ _ rfl rfl (keyOf_int_mk Try.underlying5 (a := 1) rfl) _ [] (plainElem_int Try.underlying3 (a := 3) rfl) ?_; intro m1 hown1 hgr1) | (refine insert_own _ rfl _ _ _ 78 rfl 5 3 (int_keyed Try.underlying5) Try.underlying78 (plainElem Try.prog 3) _ 1 _ rfl hown1 (by unfold maxLen; omega) _ _ _ rfl rfl (keyOf_int_mk Try.underlying5 (a := 2) rfl) _ [] (plainElem_int Try.underlying3 (a := 11) rfl) ?_; intro m2 hown2 hgr2) | (refine insert_own _ rfl _ _ _ 78 rfl 5 3 (int_keyed Try.underlying5) Try.underlying78 (plainElem Try.prog 3) _ 2 _ rfl hown2 (by unfold maxLen; omega) _ _ _ rfl rfl (keyOf_int_mk Try.underlying5 (a := 3) rfl) _ [] (plainElem_int Try.underlying3 (a := 2) rfl) ?_; intro m3 hown3 hgr3) | (refine insert_own _ rfl _ _ _ 78 rfl 5 3 (int_keyed Try.underlying5) Try.underlying78 (plainElem Try.prog 3) _ 3 _ rfl hown3 (by unfold maxLen; omega) _ _ _ rfl rfl (keyOf_int_mk Try.underlying5 (a := 5) rfl) _ [] (plainElem_int Try.underlying3 (a := 2) rfl) ?_; intro m4 hown4 hgr4) | (refine insert_own _ rfl _ _ _ 78 rfl 5 3 (int_keyed Try.underlying5) Try.underlying78 (plainElem Try.prog 3) _ 4 _ rfl hown4 (by unfold maxLen; omega) _ _ _ rfl rfl (keyOf_int_mk Try.underlying5 (a := 6) rfl) _ [] (plainElem_int Try.underlying3 (a := 2) rfl) ?_; intro m5 hown5 hgr5))
  have g0 : Below w8.heap.size w8 (w8.alloc (.map #[] 0)) := (Below.refl _ _).alloc (Nat.le_refl _) _
  have hBg : ∀ k, some w8.heap.size = some k → w8.heap.size ≤ k := fun k e => by injection e with e; omega
  have g1 := g0.grown hgr1 g0.size hBg
  have g2 := g1.grown hgr2 g1.size hBg
  have g3 := g2.grown hgr3 g2.size hBg
  have g4 := g3.grown hgr4 g3.size hBg
  have g5 := g4.grown hgr5 g4.size hBg
  have s1 : m5.cell? ⟨b, o, none⟩ = some (.int .u8 6) := ((bcell (chain G8 g5)).1 b o hbl).trans h0
  have HP5 := Lib.hid (CP.below g5)
  have HM5 := Lib.hid (CM.below g5)
  have HQ5 := Lib.hid (CQ.below g5)
  have HG5 := Lib.hid (chain G8 g5)
  have hb5 : b < m5.heap.size := by have := g5.size; have := HZ8.out; omega
  clear hown0 hown1 hown2 hown3 hown4 hgr1 hgr2 hgr3 hgr4 hgr5 g0 g1 g2 g3 g4 g5 hBg CP CM CQ G8 h0
  go_upto_region 4 with (first | (at_lookup; refine wpList_lookup_own_ok_int _ rfl _ _ 78 rfl 5 3 .i64 (int_keyed Try.underlying5) Try.underlying78 Try.underlying3 (by kernel_rfl) _ 5 _ rfl hown5 _ _ rfl (keyOf_int_mk Try.underlying5 (a := 6) rfl) ?_; intro c0 hat hwc))
  have hc03 : c0 = 2 := by
    have e : (DataW.lit (Lit.int .i64 2) : DataW Unit) = .lit (.int .i64 c0) := hat
    injection e with e; injection e with _ e; exact e.symm
  subst hc03
  rw [show Maps.has ((((((DataW.map [] : DataW Unit).put (.int .u8 1) (.lit (.int .i64 3))).put (.int .u8 2) (.lit (.int .i64 11))).put (.int .u8 3) (.lit (.int .i64 2))).put (.int .u8 5) (.lit (.int .i64 2))).put (.int .u8 6) (.lit (.int .i64 2))) (Lit.int .u8 6) = true from by kernel_rfl]
  clear hat hwc hown5
  go_wp2_with fail
  have hPP := HP5.out
  have hMM := HM5.out
  refine (fail51 A n c A2 n2 c2 Ac Pe A3 m c3 R W ch A4 mm c4 3 w.heap.size (w.heap.size + 1) m5 hPP hMM).mono ?_
  rintro r w9 ⟨rfl, hb9⟩
  have HQ9 := Lib.hid (HQ5.out.below hb9)
  have HG9 := Lib.hid (chain HG5.out hb9)
  clear hb9 hPP hMM HP5 HM5 HQ5 HG5
  have q0 := HQ9.out.c 0 rfl
  have q1 := HQ9.out.c 1 rfl
  have q2 := HQ9.out.c 2 rfl
  have q3 := HQ9.out.c 3 rfl
  have q4 := HQ9.out.c 4 rfl
  have f0 := HQ9.out.f 0 rfl
  have f1 := HQ9.out.f 1 rfl
  have f2 := HQ9.out.f 2 rfl
  have f3 := HQ9.out.f 3 rfl
  have f4 := HQ9.out.f 4 rfl
  have zq := HQ9.out.1
  go_wp2_with fail
  refine bodyPost_ret (v := .tuple #[.agg #[.slice A n c, .slice A2 n2 c2, .int .i64 Ac, .int .i64 Pe, .slice A3 m c3], .slice A4 mm c4, .slice none 0 0, .int .i64 3]) (by simp [results, Try.results41, go_sem, q0, f0, q1, f1, q2, f2, q3, f3, q4, f4, zq] <;> first | rfl | ((repeat' apply And.intro) <;> rfl)) rfl ⟨rfl, below_set5 HG9.out (by omega) _ _ _ _ _⟩
end Go.Proofs.Ytamajedopofcoaa
set_option linter.unusedVariables false
set_option linter.unusedSimpArgs false
namespace Go.Proofs.Ytamajedopofcoaa
open Go.RowKit
open Go.Maps in
theorem miss_key (x : Int) (h1 : x ≠ 1) (h2 : x ≠ 2) (h3 : x ≠ 3) (h5 : x ≠ 5) (h6 : x ≠ 6) : Maps.has ((((((DataW.map [] : DataW Unit).put (.int .u8 1) (.lit (.int .i64 3))).put (.int .u8 2) (.lit (.int .i64 11))).put (.int .u8 3) (.lit (.int .i64 2))).put (.int .u8 5) (.lit (.int .i64 2))).put (.int .u8 6) (.lit (.int .i64 2))) (Lit.int .u8 x) = false := by
  rw [has_put_other (by simp [h6]), has_put_other (by simp [h5]), has_put_other (by simp [h3]), has_put_other (by simp [h2]), has_put_other (by simp [h1])]
  rfl
theorem wf_u8 {x : Int} (x0 : 0 ≤ x) (x1 : x ≤ 255) : (Lit.int .u8 x).wf = true := by
  simp [Lit.wf, IntKind.min, IntKind.max, IntKind.signed, IntKind.bits]; omega
set_option maxRecDepth 100000 in
set_option maxHeartbeats 16000000 in
open Go.Maps in
theorem cmd41_other (A : Option Addr) (n c : Nat) (A2 : Option Addr) (n2 c2 : Nat) (Ac Pe : Int) (A3 : Option Addr) (m c3 : Nat) (R W : List Int) (ch : List (Int × Int)) (A4 : Option Addr) (mm c4 : Nat) (b o nb c5 : Nat) (x0 : Int) (w : World) (h0 : w.cell? ⟨b, o, none⟩ = some (.int .u8 x0)) (hbl : b < w.heap.size) (hc5 : nb ≤ c5) (hp : 1 ≤ nb) (n1 : x0 ≠ 1) (n2' : x0 ≠ 2) (n3 : x0 ≠ 3) (n4 : x0 ≠ 4) (n5 : x0 ≠ 5) (n6 : x0 ≠ 6) (x00 : 0 ≤ x0) (x01 : x0 ≤ 255) : Calls Try.prog 41 #[.agg #[.slice A n c, .slice A2 n2 c2, .int .i64 Ac, .int .i64 Pe, .slice A3 m c3], .slice A4 mm c4, .slice (some ⟨b, o, none⟩) nb c5] w (fun r w' => r = .returned (.tuple #[.agg #[.slice A n c, .slice A2 n2 c2, .int .i64 Ac, .int .i64 Pe, .slice A3 m c3], .slice A4 mm c4, .slice none 0 0, .int .i64 3]) ∧ Below w.heap.size w w') := by
  have hpos : (0 : Int) < (nb : Int) := by omega
  have HMK := Lib.hid (miss_key x0 n1 n2' n3 n5 n6)
  have HWF := Lib.hid (wf_u8 x00 x01)
  have d1 : (x0 == 1) = false := by simp [n1]
  have d2 : (x0 == 2) = false := by simp [n2']
  have d3 : (x0 == 3) = false := by simp [n3]
  have d4 : (x0 == 4) = false := by simp [n4]
  have d5 : (x0 == 5) = false := by simp [n5]
  have d6 : (x0 == 6) = false := by simp [n6]
  have e1 : decide (x0 = 1) = false := by simp [n1]
  have e2 : decide (x0 = 2) = false := by simp [n2']
  have e3 : decide (x0 = 3) = false := by simp [n3]
  have e4 : decide (x0 = 4) = false := by simp [n4]
  have e5 : decide (x0 = 5) = false := by simp [n5]
  have e6 : decide (x0 = 6) = false := by simp [n6]
  clear n1 n2' n3 n4 n5 n6
  have hmm := @run_makeMap Try.prog
  go_enter Try.func41, Try.ntmps41
  go_upto_region 2 with fail
  obtain ⟨w8, hw8⟩ : ∃ wx, wx = ((w.alloc (.cells #[.slice A n c, .slice A2 n2 c2, .int .i64 Ac, .int .i64 Pe, .slice A3 m c3] 25)).alloc (.cells #[.slice A4 mm c4] 45)).alloc (.cells #[.slice none 0 0, .slice none 0 0, .int .i64 0, .int .i64 0, .slice none 0 0] 25) := ⟨_, rfl⟩
  have G8 : Below w.heap.size w w8 := by rw [hw8]; go_grown
  have z8 : w8.heap.size = w.heap.size + 3 := by rw [hw8]; simp
  have CP : Cl w.heap.size w8 [.slice A n c, .slice A2 n2 c2, .int .i64 Ac, .int .i64 Pe, .slice A3 m c3] := by rw [hw8]; exact ((Cl.new (w := w) rfl [.slice A n c, .slice A2 n2 c2, .int .i64 Ac, .int .i64 Pe, .slice A3 m c3] 25).below ((Below.refl _ _).alloc (Nat.le_refl _) _)).below ((Below.refl _ _).alloc (Nat.le_refl _) _)
  have CM : Cl (w.heap.size + 1) w8 [.slice A4 mm c4] := by rw [hw8]; exact (Cl.new (P := w.heap.size + 1) (by simp) [.slice A4 mm c4] 45).below ((Below.refl _ _).alloc (Nat.le_refl _) _)
  have CQ : Cl (w.heap.size + 1 + 1) w8 [.slice none 0 0, .slice none 0 0, .int .i64 0, .int .i64 0, .slice none 0 0] := by rw [hw8]; exact Cl.new (by simp) [.slice none 0 0, .slice none 0 0, .int .i64 0, .int .i64 0, .slice none 0 0] 25
  rw [← hw8]
  have HZ8 := Lib.hid z8
  clear hw8 z8
  have hown0 := World.ownsMap_made (H := Unit) w8 Try.prog 5 (plainElem Try.prog 3)
  go_upto_region 3 with (first | (refine insert_own _ rfl _ _ _ 78 rfl 5 3 (int_keyed Try.underlying5) Try.underlying78 (plainElem Try.prog 3) _ 0 _ rfl hown0 (by unfold maxLen; omega) _ _ _ rfl rfl (keyOf_int_mk Try.underlying5 (a := 1) rfl) _ [] (plainElem_int Try.underlying3 (a := 3) rfl) ?_; intro m1 hown1 hgr1) | (refine insert_own _ rfl _ _ _ 78 rfl 5 3 (int_keyed Try.underlying5) Try.underlying78 (plainElem Try.prog 3) _ 1 _ rfl hown1 (by unfold maxLen; omega) _ _ _ rfl rfl (keyOf_int_mk Try.underlying5 (a := 2) rfl) _ [] (plainElem_int Try.underlying3 (a := 11) rfl) ?_; intro m2 hown2 hgr2) | (refine insert_own _ rfl _ _ _ 78 rfl 5 3 (int_keyed Try.underlying5) Try.underlying78 (plainElem Try.prog 3) _ 2 _ rfl hown2 (by unfold maxLen; omega) _ _ _ rfl rfl (keyOf_int_mk Try.underlying5 (a := 3) rfl) _ [] (plainElem_int Try.underlying3 (a := 2) rfl) ?_; intro m3 hown3 hgr3) | (refine insert_own _ rfl _ _ _ 78 rfl 5 3 (int_keyed Try.underlying5) Try.underlying78 (plainElem Try.prog 3) _ 3 _ rfl hown3 (by unfold maxLen; omega) _ _ _ rfl rfl (keyOf_int_mk Try.underlying5 (a := 5) rfl) _ [] (plainElem_int Try.underlying3 (a := 2) rfl) ?_; intro m4 hown4 hgr4) | (refine insert_own _ rfl _ _ _ 78 rfl 5 3 (int_keyed Try.underlying5) Try.underlying78 (plainElem Try.prog 3) _ 4 _ rfl hown4 (by unfold maxLen; omega) _ _ _ rfl rfl (keyOf_int_mk Try.underlying5 (a := 6) rfl) _ [] (plainElem_int Try.underlying3 (a := 2) rfl) ?_; intro m5 hown5 hgr5))
  have g0 : Below w8.heap.size w8 (w8.alloc (.map #[] 0)) := (Below.refl _ _).alloc (Nat.le_refl _) _
  have hBg : ∀ k, some w8.heap.size = some k → w8.heap.size ≤ k := fun k e => by injection e with e; omega
  have g1 := g0.grown hgr1 g0.size hBg
  have g2 := g1.grown hgr2 g1.size hBg
  have g3 := g2.grown hgr3 g2.size hBg
  have g4 := g3.grown hgr4 g3.size hBg
  have g5 := g4.grown hgr5 g4.size hBg
  have s1 : m5.cell? ⟨b, o, none⟩ = some (.int .u8 x0) := ((bcell (chain G8 g5)).1 b o hbl).trans h0
  have HP5 := Lib.hid (CP.below g5)
  have HM5 := Lib.hid (CM.below g5)
  have HQ5 := Lib.hid (CQ.below g5)
  have HG5 := Lib.hid (chain G8 g5)
  have hb5 : b < m5.heap.size := by have := g5.size; have := HZ8.out; omega
  clear hown0 hown1 hown2 hown3 hown4 hgr1 hgr2 hgr3 hgr4 hgr5 g0 g1 g2 g3 g4 g5 hBg CP CM CQ G8 h0
  go_upto_region 4 with (first | (at_lookup; refine wpList_lookup_own_ok_int _ rfl _ _ 78 rfl 5 3 .i64 (int_keyed Try.underlying5) Try.underlying78 Try.underlying3 (by kernel_rfl) _ 5 _ rfl hown5 _ _ rfl (keyOf_int_mk Try.underlying5 (a := x0) HWF.out) ?_; intro c0 hat hwc))
  rw [HMK.out]
  clear hat hwc hown5
  go_wp2_with fail
  have hPP := HP5.out
  have hMM := HM5.out
  refine (fail51 A n c A2 n2 c2 Ac Pe A3 m c3 R W ch A4 mm c4 3 w.heap.size (w.heap.size + 1) m5 hPP hMM).mono ?_
  rintro r w9 ⟨rfl, hb9⟩
  have HQ9 := Lib.hid (HQ5.out.below hb9)
  have HG9 := Lib.hid (chain HG5.out hb9)
  clear hb9 hPP hMM HP5 HM5 HQ5 HG5
  have q0 := HQ9.out.c 0 rfl
  have q1 := HQ9.out.c 1 rfl
  have q2 := HQ9.out.c 2 rfl
  have q3 := HQ9.out.c 3 rfl
  have q4 := HQ9.out.c 4 rfl
  have f0 := HQ9.out.f 0 rfl
  have f1 := HQ9.out.f 1 rfl
  have f2 := HQ9.out.f 2 rfl
  have f3 := HQ9.out.f 3 rfl
  have f4 := HQ9.out.f 4 rfl
  have zq := HQ9.out.1
  go_wp2_with fail
  refine bodyPost_ret (v := .tuple #[.agg #[.slice A n c, .slice A2 n2 c2, .int .i64 Ac, .int .i64 Pe, .slice A3 m c3], .slice A4 mm c4, .slice none 0 0, .int .i64 3]) (by simp [results, Try.results41, go_sem, q0, f0, q1, f1, q2, f2, q3, f3, q4, f4, zq] <;> first | rfl | ((repeat' apply And.intro) <;> rfl)) rfl ⟨rfl, below_set5 HG9.out (by omega) _ _ _ _ _⟩
end Go.Proofs.Ytamajedopofcoaa
set_option linter.unusedVariables false
set_option linter.unusedSimpArgs false
namespace Go.Proofs.Ytamajedopofcoaa
open Go.RowKit
set_option maxRecDepth 100000 in
set_option maxHeartbeats 16000000 in
open Go.Maps in
theorem cmd41_readno (A : Option Addr) (n c : Nat) (A2 : Option Addr) (n2 c2 : Nat) (Ac Pe : Int) (A3 : Option Addr) (m c3 : Nat) (R W : List Int) (ch : List (Int × Int)) (A4 : Option Addr) (mm c4 : Nat) (b o c5 : Nat) (x y v er : Int) (w : World) (hl : R.length = n) (hb : Ik .i64 w A R) (hc : n ≤ c) (hl2 : W.length = n2) (hb2 : Ik .i64 w A2 W) (hc2 : n2 ≤ c2) (hl3 : ch.length = m) (hb3 : Ik .i64 w A3 (flat ch)) (hc3 : m ≤ c3) (hs : n ≤ 5000) (hs2 : n2 ≤ 5000) (hs3 : m ≤ 5000) (h0 : w.cell? ⟨b, o, none⟩ = some (.int .u8 1)) (hbl : b < w.heap.size) (hc5 : 3 ≤ c5) (h1 : w.cell? ⟨b, o + 1, none⟩ = some (.int .u8 x)) (h2 : w.cell? ⟨b, o + 1 + 1, none⟩ = some (.int .u8 y)) (x0 : 0 ≤ x) (x1 : x ≤ 255) (y0 : 0 ≤ y) (y1 : y ≤ 255) (hr : readM ⟨R, W, Ac, Pe, ch⟩ (x * 256 + y) = (v, er)) (her : er ≠ 0) : Calls Try.prog 41 #[.agg #[.slice A n c, .slice A2 n2 c2, .int .i64 Ac, .int .i64 Pe, .slice A3 m c3], .slice A4 mm c4, .slice (some ⟨b, o, none⟩) 3 c5] w (fun r w' => r = .returned (.tuple #[.agg #[.slice A n c, .slice A2 n2 c2, .int .i64 Ac, .int .i64 Pe, .slice A3 m c3], .slice A4 mm c4, .slice none 0 0, .int .i64 er]) ∧ Below w.heap.size w w') := by
  have KR := fun w h h2 h3 => read13 A n c A2 n2 c2 Ac Pe A3 m c3 R W ch (x * 256 + y) w hl h hc hl2 h2 hc2 hl3 h3 hc3 hs hs2 hs3
  rw [hr] at KR
  have KI := fun w h h' => index52 b (o + 1) 2 (c5 - 1) x y w (Nat.le_refl _) (by omega) h h' x0 x1 y0 y1
  replace KR := Lib.hid KR
  replace KI := Lib.hid KI
  have HB1 := Lib.hid hb
  have HB2 := Lib.hid hb2
  have HB3 := Lib.hid hb3
  have e1 : (er != 0) = true := by simp [her]
  have e2 : decide (er = 0) = false := by simp [her]
  have e3 : (er == 0) = false := by simp [her]
  clear hl hl2 hl3 hb hb2 hb3 hr her
  have hmm := @run_makeMap Try.prog
  go_enter Try.func41, Try.ntmps41
  go_upto_region 2 with fail
  obtain ⟨w8, hw8⟩ : ∃ wx, wx = ((w.alloc (.cells #[.slice A n c, .slice A2 n2 c2, .int .i64 Ac, .int .i64 Pe, .slice A3 m c3] 25)).alloc (.cells #[.slice A4 mm c4] 45)).alloc (.cells #[.slice none 0 0, .slice none 0 0, .int .i64 0, .int .i64 0, .slice none 0 0] 25) := ⟨_, rfl⟩
  have G8 : Below w.heap.size w w8 := by rw [hw8]; go_grown
  have z8 : w8.heap.size = w.heap.size + 3 := by rw [hw8]; simp
  have CP : Cl w.heap.size w8 [.slice A n c, .slice A2 n2 c2, .int .i64 Ac, .int .i64 Pe, .slice A3 m c3] := by rw [hw8]; exact ((Cl.new (w := w) rfl [.slice A n c, .slice A2 n2 c2, .int .i64 Ac, .int .i64 Pe, .slice A3 m c3] 25).below ((Below.refl _ _).alloc (Nat.le_refl _) _)).below ((Below.refl _ _).alloc (Nat.le_refl _) _)
  have CM : Cl (w.heap.size + 1) w8 [.slice A4 mm c4] := by rw [hw8]; exact (Cl.new (P := w.heap.size + 1) (by simp) [.slice A4 mm c4] 45).below ((Below.refl _ _).alloc (Nat.le_refl _) _)
  have CQ : Cl (w.heap.size + 1 + 1) w8 [.slice none 0 0, .slice none 0 0, .int .i64 0, .int .i64 0, .slice none 0 0] := by rw [hw8]; exact Cl.new (by simp) [.slice none 0 0, .slice none 0 0, .int .i64 0, .int .i64 0, .slice none 0 0] 25
  rw [← hw8]
  have HZ8 := Lib.hid z8
  clear hw8 z8
  have hown0 := World.ownsMap_made (H := Unit) w8 Try.prog 5 (plainElem Try.prog 3)
  go_upto_region 3 with (first | (refine insert_own _ rfl _ _ _ 78 rfl 5 3 (int_keyed Try.underlying5) Try.underlying78 (plainElem Try.prog 3) _ 0 _ rfl hown0 (by unfold maxLen; omega) _ _ _ rfl rfl (keyOf_int_mk Try.underlying5 (a := 1) rfl) _ [] (plainElem_int Try.underlying3 (a := 3) rfl) ?_; intro m1 hown1 hgr1) | (refine insert_own _ rfl _ _ _ 78 rfl 5 3 (int_keyed Try.underlying5) Try.underlying78 (plainElem Try.prog 3) _ 1 _ rfl hown1 (by unfold maxLen; omega) _ _ _ rfl rfl (keyOf_int_mk Try.underlying5 (a := 2) rfl) _ [] (plainElem_int Try.underlying3 (a := 11) rfl) ?_; intro m2 hown2 hgr2) | (refine insert_own _ rfl _ _ _ 78 rfl 5 3 (int_keyed Try.underlying5) Try.underlying78 (plainElem Try.prog 3) _ 2 _ rfl hown2 (by unfold maxLen; omega) _ _ _ rfl rfl (keyOf_int_mk Try.underlying5 (a := 3) rfl) _ [] (plainElem_int Try.underlying3 (a := 2) rfl) ?_; intro m3 hown3 hgr3) | (refine insert_own _ rfl _ _ _ 78 rfl 5 3 (int_keyed Try.underlying5) Try.underlying78 (plainElem Try.prog 3) _ 3 _ rfl hown3 (by unfold maxLen; omega) _ _ _ rfl rfl (keyOf_int_mk Try.underlying5 (a := 5) rfl) _ [] (plainElem_int Try.underlying3 (a := 2) rfl) ?_; intro m4 hown4 hgr4) | (refine insert_own _ rfl _ _ _ 78 rfl 5 3 (int_keyed Try.underlying5) Try.underlying78 (plainElem Try.prog 3) _ 4 _ rfl hown4 (by unfold maxLen; omega) _ _ _ rfl rfl (keyOf_int_mk Try.underlying5 (a := 6) rfl) _ [] (plainElem_int Try.underlying3 (a := 2) rfl) ?_; intro m5 hown5 hgr5))
  have g0 : Below w8.heap.size w8 (w8.alloc (.map #[] 0)) := (Below.refl _ _).alloc (Nat.le_refl _) _
  have hBg : ∀ k, some w8.heap.size = some k → w8.heap.size ≤ k := fun k e => by injection e with e; omega
  have g1 := g0.grown hgr1 g0.size hBg
  have g2 := g1.grown hgr2 g1.size hBg
  have g3 := g2.grown hgr3 g2.size hBg
  have g4 := g3.grown hgr4 g3.size hBg
  have g5 := g4.grown hgr5 g4.size hBg
  have s1 : m5.cell? ⟨b, o, none⟩ = some (.int .u8 1) := ((bcell (chain G8 g5)).1 b o hbl).trans h0
  have HP5 := Lib.hid (CP.below g5)
  have HM5 := Lib.hid (CM.below g5)
  have HQ5 := Lib.hid (CQ.below g5)
  have HG5 := Lib.hid (chain G8 g5)
  have hb5 : b < m5.heap.size := by have := g5.size; have := HZ8.out; omega
  clear hown0 hown1 hown2 hown3 hown4 hgr1 hgr2 hgr3 hgr4 hgr5 g0 g1 g2 g3 g4 g5 hBg CP CM CQ G8 h0
  go_upto_region 4 with (first | (at_lookup; refine wpList_lookup_own_ok_int _ rfl _ _ 78 rfl 5 3 .i64 (int_keyed Try.underlying5) Try.underlying78 Try.underlying3 (by kernel_rfl) _ 5 _ rfl hown5 _ _ rfl (keyOf_int_mk Try.underlying5 (a := 1) rfl) ?_; intro c0 hat hwc))
  have hc03 : c0 = 3 := by
    have e : (DataW.lit (Lit.int .i64 3) : DataW Unit) = .lit (.int .i64 c0) := hat
    injection e with e; injection e with _ e; exact e.symm
  subst hc03
  rw [show Maps.has ((((((DataW.map [] : DataW Unit).put (.int .u8 1) (.lit (.int .i64 3))).put (.int .u8 2) (.lit (.int .i64 11))).put (.int .u8 3) (.lit (.int .i64 2))).put (.int .u8 5) (.lit (.int .i64 2))).put (.int .u8 6) (.lit (.int .i64 2))) (Lit.int .u8 1) = true from by kernel_rfl]
  clear hat hwc hown5
  have s2 : m5.cell? ⟨b, o + 1, none⟩ = some (.int .u8 x) := ((bcell HG5.out).1 b _ hbl).trans h1
  have s3 : m5.cell? ⟨b, o + 1 + 1, none⟩ = some (.int .u8 y) := ((bcell HG5.out).1 b _ hbl).trans h2
  clear h1 h2
  go_upto_region 8 with fail
  have hPm : w.heap.size < m5.heap.size := HP5.out.1
  have f1 : (1 : Int) ≤ (3 : Int) := by decide
  have f2 : ¬ (c5 = 1) := by omega
  have p0 := HP5.out.c 0 rfl
  have p1 := HP5.out.c 1 rfl
  have p2 := HP5.out.c 2 rfl
  have p3 := HP5.out.c 3 rfl
  have p4 := HP5.out.c 4 rfl
  refine region_K (fun W' => (∀ b o, b < m5.heap.size → W'.cell? ⟨b, o, none⟩ = m5.cell? ⟨b, o, none⟩) ∧ Below m5.heap.size m5 W') 4 (by kernel_rfl) (Kp.mk (Below.refl _ _).drew) (fun hHeld => ?_)
  refine K_take' (i := 1) (v := ?_) rfl (by kernel_rfl) (by kernel_rfl) (by kernel_rfl) (by kernel_rfl) (fun _ _ _ h => h) (Or.inl ⟨by kernel_rfl, ?_⟩) hHeld ?_
  rotate_left 1
  · intro W8 hSw
    clear hSw
    go_simp
    all_goals with_reducible rfl
  try simp only [Act.put, List.setIfInBounds_toArray, List.set_cons_zero, List.set_cons_succ]
  refine K_take' (i := 2) (v := ?_) rfl (by kernel_rfl) (by kernel_rfl) (by kernel_rfl) (by kernel_rfl) (fun _ _ _ h => h) (Or.inl ⟨by kernel_rfl, ?_⟩) hHeld ?_
  rotate_left 1
  · intro W8 hSw
    clear hSw
    go_simp
    all_goals with_reducible rfl
  try simp only [Act.put, List.setIfInBounds_toArray, List.set_cons_zero, List.set_cons_succ]
  refine K_take (i := 0) (v := ?_) rfl (by kernel_rfl) (by kernel_rfl) (by kernel_rfl) (by kernel_rfl) (by kernel_rfl) (fun _ _ _ h => h) (Or.inl ⟨by kernel_rfl, ?_⟩) hHeld ?_
  rotate_left 1
  · intro W8 hSw
    (try dsimp only at hSw)
    go_simp
    all_goals with_reducible rfl
  try simp only [Act.put, List.setIfInBounds_toArray, List.set_cons_zero, List.set_cons_succ]
  refine K_step' (i := 3) (by kernel_rfl) rfl (fun K hK => ?_)
  go_simp
  refine (KI.out _ ((hHeld.1 b _ hb5).trans s2) ((hHeld.1 b _ hb5).trans s3)).mono ?_
  rintro r w9 ⟨rfl, hb9⟩
  have hKp9 := Kp.next hHeld hb9
  refine hK.out _ _ hKp9 (fun hH1 => ?_)
  clear hK K
  try simp only [Act.put, List.setIfInBounds_toArray, List.set_cons_zero, List.set_cons_succ]
  refine K_step (by kernel_rfl) (by kernel_rfl) rfl (fun K hK => ?_)
  go_simp
  refine (KR.out _ ((HB1.out.below HG5.out).below hKp9.2) ((HB2.out.below HG5.out).below hKp9.2) ((HB3.out.below HG5.out).below hKp9.2)).mono ?_
  rintro r w10 ⟨rfl, hb10⟩
  have hKp10 := Kp.next hKp9 hb10
  refine hK.out _ _ ?_
  clear hK K
  try simp only [Act.put, List.setIfInBounds_toArray, List.set_cons_zero, List.set_cons_succ]
  refine wpAny_take (i := 5) (v := ?_) rfl (by kernel_rfl) (by kernel_rfl) (by kernel_rfl) (fun _ _ _ h => h) (Or.inl ⟨by kernel_rfl, ?_⟩) ?_
  rotate_left 1
  · intro W8
    go_simp
    all_goals with_reducible rfl
  try simp only [Act.put, List.setIfInBounds_toArray, List.set_cons_zero, List.set_cons_succ]
  refine wpAny_take (i := 6) (v := ?_) rfl (by kernel_rfl) (by kernel_rfl) (by kernel_rfl) (fun _ _ _ h => h) (Or.inl ⟨by kernel_rfl, ?_⟩) ?_
  rotate_left 1
  · intro W8
    go_simp
    all_goals with_reducible rfl
  try simp only [Act.put, List.setIfInBounds_toArray, List.set_cons_zero, List.set_cons_succ]
  refine wpAny_take (i := 7) (v := ?_) rfl (by kernel_rfl) (by kernel_rfl) (by kernel_rfl) (fun _ _ _ h => h) (Or.inl ⟨by kernel_rfl, ?_⟩) ?_
  rotate_left 1
  · intro W8
    go_simp
    all_goals with_reducible rfl
  try simp only [Act.put, List.setIfInBounds_toArray, List.set_cons_zero, List.set_cons_succ]
  refine wpAny_ready (rs := [8]) (by kernel_rfl) (by simp) (AllReady.cons rfl (fun K hK => ?_) AllReady.nil)
  go_simp
  refine hK _ _ ?_
  clear hK K
  try simp only [Act.put, List.setIfInBounds_toArray, List.set_cons_zero, List.set_cons_succ]
  refine wpAny_ready (rs := [9]) (by kernel_rfl) (by simp) (AllReady.cons rfl (fun K hK => ?_) AllReady.nil)
  go_simp
  refine hK _ _ ?_
  clear hK K
  try simp only [Act.put, List.setIfInBounds_toArray, List.set_cons_zero, List.set_cons_succ]
  refine wpAny_done (by kernel_rfl) ?_ _
  have HP10 := Lib.hid (HP5.out.below hKp10.2)
  have HM10 := Lib.hid (HM5.out.below hKp10.2)
  have HQ10 := Lib.hid (HQ5.out.below hKp10.2)
  have HG10 := Lib.hid (chain HG5.out hKp10.2)
  clear p0 p1 p2 p3 p4 hKp9 hKp10 hHeld hH1 hb9 hb10 s1 s2 s3 HP5 HM5 HQ5 HG5 HB1 HB2 HB3 KR KI
  go_wp2_with fail
  have hPP := HP10.out
  have hMM := HM10.out
  refine (fail51 A n c A2 n2 c2 Ac Pe A3 m c3 R W ch A4 mm c4 er w.heap.size (w.heap.size + 1) w10 hPP hMM).mono ?_
  rintro r wF ⟨rfl, hbF⟩
  have HQF := Lib.hid (HQ10.out.below hbF)
  have HGF := Lib.hid (chain HG10.out hbF)
  clear hbF hPP hMM HP10 HM10 HQ10 HG10
  have q0 := HQF.out.c 0 rfl
  have q1 := HQF.out.c 1 rfl
  have q2 := HQF.out.c 2 rfl
  have q3 := HQF.out.c 3 rfl
  have q4 := HQF.out.c 4 rfl
  have f0 := HQF.out.f 0 rfl
  have f1 := HQF.out.f 1 rfl
  have f2 := HQF.out.f 2 rfl
  have f3 := HQF.out.f 3 rfl
  have f4 := HQF.out.f 4 rfl
  have zq := HQF.out.1
  go_wp2_with fail
  refine bodyPost_ret (v := .tuple #[.agg #[.slice A n c, .slice A2 n2 c2, .int .i64 Ac, .int .i64 Pe, .slice A3 m c3], .slice A4 mm c4, .slice none 0 0, .int .i64 er]) (by simp [results, Try.results41, go_sem, q0, f0, q1, f1, q2, f2, q3, f3, q4, f4, zq] <;> first | rfl | ((repeat' apply And.intro) <;> rfl)) rfl ⟨rfl, below_set5 HGF.out (by omega) _ _ _ _ _⟩
end Go.Proofs.Ytamajedopofcoaa
set_option linter.unusedVariables false
set_option linter.unusedSimpArgs false
namespace Go.Proofs.Ytamajedopofcoaa
open Go.RowKit
set_option maxRecDepth 100000 in
set_option maxHeartbeats 16000000 in
open Go.Maps in
theorem cmd41_mshort (A : Option Addr) (n c : Nat) (A2 : Option Addr) (n2 c2 : Nat) (Ac Pe : Int) (A3 : Option Addr) (m c3 : Nat) (R W : List Int) (ch : List (Int × Int)) (A4 : Option Addr) (mm c4 : Nat) (b o nb c5 : Nat) (w : World) (h0 : w.cell? ⟨b, o, none⟩ = some (.int .u8 4)) (hbl : b < w.heap.size) (hc5 : nb ≤ c5) (hp : 1 ≤ nb) (hn : nb < 6) : Calls Try.prog 41 #[.agg #[.slice A n c, .slice A2 n2 c2, .int .i64 Ac, .int .i64 Pe, .slice A3 m c3], .slice A4 mm c4, .slice (some ⟨b, o, none⟩) nb c5] w (fun r w' => r = .returned (.tuple #[.agg #[.slice A n c, .slice A2 n2 c2, .int .i64 Ac, .int .i64 Pe, .slice A3 m c3], .slice A4 mm c4, .slice none 0 0, .int .i64 3]) ∧ Below w.heap.size w w') := by
  have hpos : (0 : Int) < (nb : Int) := by omega
  have d1 : decide ((nb : Int) < 6) = true := by simp; omega
  have hmm := @run_makeMap Try.prog
  go_enter Try.func41, Try.ntmps41
  go_upto_region 2 with fail
  obtain ⟨w8, hw8⟩ : ∃ wx, wx = ((w.alloc (.cells #[.slice A n c, .slice A2 n2 c2, .int .i64 Ac, .int .i64 Pe, .slice A3 m c3] 25)).alloc (.cells #[.slice A4 mm c4] 45)).alloc (.cells #[.slice none 0 0, .slice none 0 0, .int .i64 0, .int .i64 0, .slice none 0 0] 25) := ⟨_, rfl⟩
  have G8 : Below w.heap.size w w8 := by rw [hw8]; go_grown
  have z8 : w8.heap.size = w.heap.size + 3 := by rw [hw8]; simp
  have CP : Cl w.heap.size w8 [.slice A n c, .slice A2 n2 c2, .int .i64 Ac, .int .i64 Pe, .slice A3 m c3] := by rw [hw8]; exact ((Cl.new (w := w) rfl [.slice A n c, .slice A2 n2 c2, .int .i64 Ac, .int .i64 Pe, .slice A3 m c3] 25).below ((Below.refl _ _).alloc (Nat.le_refl _) _)).below ((Below.refl _ _).alloc (Nat.le_refl _) _)
  have CM : Cl (w.heap.size + 1) w8 [.slice A4 mm c4] := by rw [hw8]; exact (Cl.new (P := w.heap.size + 1) (by simp) [.slice A4 mm c4] 45).below ((Below.refl _ _).alloc (Nat.le_refl _) _)
  have CQ : Cl (w.heap.size + 1 + 1) w8 [.slice none 0 0, .slice none 0 0, .int .i64 0, .int .i64 0, .slice none 0 0] := by rw [hw8]; exact Cl.new (by simp) [.slice none 0 0, .slice none 0 0, .int .i64 0, .int .i64 0, .slice none 0 0] 25
  rw [← hw8]
  have HZ8 := Lib.hid z8
  clear hw8 z8
  have hown0 := World.ownsMap_made (H := Unit) w8 Try.prog 5 (plainElem Try.prog 3)
  go_upto_region 3 with (first | (refine insert_own _ rfl _ _ _ 78 rfl 5 3 (int_keyed Try.underlying5) Try.underlying78 (plainElem Try.prog 3) _ 0 _ rfl hown0 (by unfold maxLen; omega) _ _ _ rfl rfl (keyOf_int_mk Try.underlying5 (a := 1) rfl) _ [] (plainElem_int Try.underlying3 (a := 3) rfl) ?_; intro m1 hown1 hgr1) | (refine insert_own _ rfl _ _ _ 78 rfl 5 3 (int_keyed Try.underlying5) Try.underlying78 (plainElem Try.prog 3) _ 1 _ rfl hown1 (by unfold maxLen; omega) _ _ _ rfl rfl (keyOf_int_mk Try.underlying5 (a := 2) rfl) _ [] (plainElem_int Try.underlying3 (a := 11) rfl) ?_; intro m2 hown2 hgr2) | (refine insert_own _ rfl _ _ _ 78 rfl 5 3 (int_keyed Try.underlying5) Try.underlying78 (plainElem Try.prog 3) _ 2 _ rfl hown2 (by unfold maxLen; omega) _ _ _ rfl rfl (keyOf_int_mk Try.underlying5 (a := 3) rfl) _ [] (plainElem_int Try.underlying3 (a := 2) rfl) ?_; intro m3 hown3 hgr3) | (refine insert_own _ rfl _ _ _ 78 rfl 5 3 (int_keyed Try.underlying5) Try.underlying78 (plainElem Try.prog 3) _ 3 _ rfl hown3 (by unfold maxLen; omega) _ _ _ rfl rfl (keyOf_int_mk Try.underlying5 (a := 5) rfl) _ [] (plainElem_int Try.underlying3 (a := 2) rfl) ?_; intro m4 hown4 hgr4) | (refine insert_own _ rfl _ _ _ 78 rfl 5 3 (int_keyed Try.underlying5) Try.underlying78 (plainElem Try.prog 3) _ 4 _ rfl hown4 (by unfold maxLen; omega) _ _ _ rfl rfl (keyOf_int_mk Try.underlying5 (a := 6) rfl) _ [] (plainElem_int Try.underlying3 (a := 2) rfl) ?_; intro m5 hown5 hgr5))
  have g0 : Below w8.heap.size w8 (w8.alloc (.map #[] 0)) := (Below.refl _ _).alloc (Nat.le_refl _) _
  have hBg : ∀ k, some w8.heap.size = some k → w8.heap.size ≤ k := fun k e => by injection e with e; omega
  have g1 := g0.grown hgr1 g0.size hBg
  have g2 := g1.grown hgr2 g1.size hBg
  have g3 := g2.grown hgr3 g2.size hBg
  have g4 := g3.grown hgr4 g3.size hBg
  have g5 := g4.grown hgr5 g4.size hBg
  have s1 : m5.cell? ⟨b, o, none⟩ = some (.int .u8 4) := ((bcell (chain G8 g5)).1 b o hbl).trans h0
  have HP5 := Lib.hid (CP.below g5)
  have HM5 := Lib.hid (CM.below g5)
  have HQ5 := Lib.hid (CQ.below g5)
  have HG5 := Lib.hid (chain G8 g5)
  have hb5 : b < m5.heap.size := by have := g5.size; have := HZ8.out; omega
  clear hown0 hown1 hown2 hown3 hown4 hgr1 hgr2 hgr3 hgr4 hgr5 g0 g1 g2 g3 g4 g5 hBg CP CM CQ G8 h0
  go_upto_region 4 with (first | (at_lookup; refine wpList_lookup_own_ok_int _ rfl _ _ 78 rfl 5 3 .i64 (int_keyed Try.underlying5) Try.underlying78 Try.underlying3 (by kernel_rfl) _ 5 _ rfl hown5 _ _ rfl (keyOf_int_mk Try.underlying5 (a := 4) rfl) ?_; intro c0 hat hwc))
  rw [show Maps.has ((((((DataW.map [] : DataW Unit).put (.int .u8 1) (.lit (.int .i64 3))).put (.int .u8 2) (.lit (.int .i64 11))).put (.int .u8 3) (.lit (.int .i64 2))).put (.int .u8 5) (.lit (.int .i64 2))).put (.int .u8 6) (.lit (.int .i64 2))) (Lit.int .u8 4) = false from by kernel_rfl]
  clear hat hwc hown5
  go_wp2_with fail
  have hPP := HP5.out
  have hMM := HM5.out
  refine (fail51 A n c A2 n2 c2 Ac Pe A3 m c3 R W ch A4 mm c4 3 w.heap.size (w.heap.size + 1) m5 hPP hMM).mono ?_
  rintro r wF ⟨rfl, hbF⟩
  have HQF := Lib.hid (HQ5.out.below hbF)
  have HGF := Lib.hid (chain HG5.out hbF)
  clear hbF hPP hMM HP5 HM5 HQ5 HG5
  have q0 := HQF.out.c 0 rfl
  have q1 := HQF.out.c 1 rfl
  have q2 := HQF.out.c 2 rfl
  have q3 := HQF.out.c 3 rfl
  have q4 := HQF.out.c 4 rfl
  have f0 := HQF.out.f 0 rfl
  have f1 := HQF.out.f 1 rfl
  have f2 := HQF.out.f 2 rfl
  have f3 := HQF.out.f 3 rfl
  have f4 := HQF.out.f 4 rfl
  have zq := HQF.out.1
  go_wp2_with fail
  refine bodyPost_ret (v := .tuple #[.agg #[.slice A n c, .slice A2 n2 c2, .int .i64 Ac, .int .i64 Pe, .slice A3 m c3], .slice A4 mm c4, .slice none 0 0, .int .i64 3]) (by simp [results, Try.results41, go_sem, q0, f0, q1, f1, q2, f2, q3, f3, q4, f4, zq] <;> first | rfl | ((repeat' apply And.intro) <;> rfl)) rfl ⟨rfl, below_set5 HGF.out (by omega) _ _ _ _ _⟩
set_option maxRecDepth 100000 in
set_option maxHeartbeats 16000000 in
open Go.Maps in
theorem cmd41_mlen (A : Option Addr) (n c : Nat) (A2 : Option Addr) (n2 c2 : Nat) (Ac Pe : Int) (A3 : Option Addr) (m c3 : Nat) (R W : List Int) (ch : List (Int × Int)) (A4 : Option Addr) (mm c4 : Nat) (b o nb c5 : Nat) (w : World) (h0 : w.cell? ⟨b, o, none⟩ = some (.int .u8 4)) (hbl : b < w.heap.size) (hc5 : nb ≤ c5) (hn : 6 ≤ nb) (z : Nat) (h3 : w.cell? ⟨b, o + 3, none⟩ = some (.int .u8 (z : Int))) (hz : z ≤ 255) (hne : nb ≠ 6 + 2 * z) : Calls Try.prog 41 #[.agg #[.slice A n c, .slice A2 n2 c2, .int .i64 Ac, .int .i64 Pe, .slice A3 m c3], .slice A4 mm c4, .slice (some ⟨b, o, none⟩) nb c5] w (fun r w' => r = .returned (.tuple #[.agg #[.slice A n c, .slice A2 n2 c2, .int .i64 Ac, .int .i64 Pe, .slice A3 m c3], .slice A4 mm c4, .slice none 0 0, .int .i64 3]) ∧ Below w.heap.size w w') := by
  have hpos : (0 : Int) < (nb : Int) := by omega
  have d1 : decide ((nb : Int) < 6) = false := by simp; omega
  have d2 : decide ((nb : Int) = 6 + 2 * (z : Int)) = false := by simp; omega
  have d3 : ((nb : Int) == 6 + 2 * (z : Int)) = false := by simp; omega
  have d4 : ((nb : Int) != 6 + 2 * (z : Int)) = true := by simp; omega
  have d5 : (3 : Int) < (nb : Int) := by omega
  have hmm := @run_makeMap Try.prog
  go_enter Try.func41, Try.ntmps41
  go_upto_region 2 with fail
  obtain ⟨w8, hw8⟩ : ∃ wx, wx = ((w.alloc (.cells #[.slice A n c, .slice A2 n2 c2, .int .i64 Ac, .int .i64 Pe, .slice A3 m c3] 25)).alloc (.cells #[.slice A4 mm c4] 45)).alloc (.cells #[.slice none 0 0, .slice none 0 0, .int .i64 0, .int .i64 0, .slice none 0 0] 25) := ⟨_, rfl⟩
  have G8 : Below w.heap.size w w8 := by rw [hw8]; go_grown
  have z8 : w8.heap.size = w.heap.size + 3 := by rw [hw8]; simp
  have CP : Cl w.heap.size w8 [.slice A n c, .slice A2 n2 c2, .int .i64 Ac, .int .i64 Pe, .slice A3 m c3] := by rw [hw8]; exact ((Cl.new (w := w) rfl [.slice A n c, .slice A2 n2 c2, .int .i64 Ac, .int .i64 Pe, .slice A3 m c3] 25).below ((Below.refl _ _).alloc (Nat.le_refl _) _)).below ((Below.refl _ _).alloc (Nat.le_refl _) _)
  have CM : Cl (w.heap.size + 1) w8 [.slice A4 mm c4] := by rw [hw8]; exact (Cl.new (P := w.heap.size + 1) (by simp) [.slice A4 mm c4] 45).below ((Below.refl _ _).alloc (Nat.le_refl _) _)
  have CQ : Cl (w.heap.size + 1 + 1) w8 [.slice none 0 0, .slice none 0 0, .int .i64 0, .int .i64 0, .slice none 0 0] := by rw [hw8]; exact Cl.new (by simp) [.slice none 0 0, .slice none 0 0, .int .i64 0, .int .i64 0, .slice none 0 0] 25
  rw [← hw8]
  have HZ8 := Lib.hid z8
  clear hw8 z8
  have hown0 := World.ownsMap_made (H := Unit) w8 Try.prog 5 (plainElem Try.prog 3)
  go_upto_region 3 with (first | (refine insert_own _ rfl _ _ _ 78 rfl 5 3 (int_keyed Try.underlying5) Try.underlying78 (plainElem Try.prog 3) _ 0 _ rfl hown0 (by unfold maxLen; omega) _ _ _ rfl rfl (keyOf_int_mk Try.underlying5 (a := 1) rfl) _ [] (plainElem_int Try.underlying3 (a := 3) rfl) ?_; intro m1 hown1 hgr1) | (refine insert_own _ rfl _ _ _ 78 rfl 5 3 (int_keyed Try.underlying5) Try.underlying78 (plainElem Try.prog 3) _ 1 _ rfl hown1 (by unfold maxLen; omega) _ _ _ rfl rfl (keyOf_int_mk Try.underlying5 (a := 2) rfl) _ [] (plainElem_int Try.underlying3 (a := 11) rfl) ?_; intro m2 hown2 hgr2) | (refine insert_own _ rfl _ _ _ 78 rfl 5 3 (int_keyed Try.underlying5) Try.underlying78 (plainElem Try.prog 3) _ 2 _ rfl hown2 (by unfold maxLen; omega) _ _ _ rfl rfl (keyOf_int_mk Try.underlying5 (a := 3) rfl) _ [] (plainElem_int Try.underlying3 (a := 2) rfl) ?_; intro m3 hown3 hgr3) | (refine insert_own _ rfl _ _ _ 78 rfl 5 3 (int_keyed Try.underlying5) Try.underlying78 (plainElem Try.prog 3) _ 3 _ rfl hown3 (by unfold maxLen; omega) _ _ _ rfl rfl (keyOf_int_mk Try.underlying5 (a := 5) rfl) _ [] (plainElem_int Try.underlying3 (a := 2) rfl) ?_; intro m4 hown4 hgr4) | (refine insert_own _ rfl _ _ _ 78 rfl 5 3 (int_keyed Try.underlying5) Try.underlying78 (plainElem Try.prog 3) _ 4 _ rfl hown4 (by unfold maxLen; omega) _ _ _ rfl rfl (keyOf_int_mk Try.underlying5 (a := 6) rfl) _ [] (plainElem_int Try.underlying3 (a := 2) rfl) ?_; intro m5 hown5 hgr5))
  have g0 : Below w8.heap.size w8 (w8.alloc (.map #[] 0)) := (Below.refl _ _).alloc (Nat.le_refl _) _
  have hBg : ∀ k, some w8.heap.size = some k → w8.heap.size ≤ k := fun k e => by injection e with e; omega
  have g1 := g0.grown hgr1 g0.size hBg
  have g2 := g1.grown hgr2 g1.size hBg
  have g3 := g2.grown hgr3 g2.size hBg
  have g4 := g3.grown hgr4 g3.size hBg
  have g5 := g4.grown hgr5 g4.size hBg
  have s1 : m5.cell? ⟨b, o, none⟩ = some (.int .u8 4) := ((bcell (chain G8 g5)).1 b o hbl).trans h0
  have HP5 := Lib.hid (CP.below g5)
  have HM5 := Lib.hid (CM.below g5)
  have HQ5 := Lib.hid (CQ.below g5)
  have HG5 := Lib.hid (chain G8 g5)
  have hb5 : b < m5.heap.size := by have := g5.size; have := HZ8.out; omega
  clear hown0 hown1 hown2 hown3 hown4 hgr1 hgr2 hgr3 hgr4 hgr5 g0 g1 g2 g3 g4 g5 hBg CP CM CQ G8 h0
  go_upto_region 4 with (first | (at_lookup; refine wpList_lookup_own_ok_int _ rfl _ _ 78 rfl 5 3 .i64 (int_keyed Try.underlying5) Try.underlying78 Try.underlying3 (by kernel_rfl) _ 5 _ rfl hown5 _ _ rfl (keyOf_int_mk Try.underlying5 (a := 4) rfl) ?_; intro c0 hat hwc))
  rw [show Maps.has ((((((DataW.map [] : DataW Unit).put (.int .u8 1) (.lit (.int .i64 3))).put (.int .u8 2) (.lit (.int .i64 11))).put (.int .u8 3) (.lit (.int .i64 2))).put (.int .u8 5) (.lit (.int .i64 2))).put (.int .u8 6) (.lit (.int .i64 2))) (Lit.int .u8 4) = false from by kernel_rfl]
  clear hat hwc hown5
  have s4 : m5.cell? ⟨b, o + 3, none⟩ = some (.int .u8 (z : Int)) := ((bcell HG5.out).1 b _ hbl).trans h3
  clear h3
  go_wp2_with fail
  have hPP := HP5.out
  have hMM := HM5.out
  refine (fail51 A n c A2 n2 c2 Ac Pe A3 m c3 R W ch A4 mm c4 3 w.heap.size (w.heap.size + 1) m5 hPP hMM).mono ?_
  rintro r wF ⟨rfl, hbF⟩
  have HQF := Lib.hid (HQ5.out.below hbF)
  have HGF := Lib.hid (chain HG5.out hbF)
  clear hbF hPP hMM HP5 HM5 HQ5 HG5
  have q0 := HQF.out.c 0 rfl
  have q1 := HQF.out.c 1 rfl
  have q2 := HQF.out.c 2 rfl
  have q3 := HQF.out.c 3 rfl
  have q4 := HQF.out.c 4 rfl
  have f0 := HQF.out.f 0 rfl
  have f1 := HQF.out.f 1 rfl
  have f2 := HQF.out.f 2 rfl
  have f3 := HQF.out.f 3 rfl
  have f4 := HQF.out.f 4 rfl
  have zq := HQF.out.1
  go_wp2_with fail
  refine bodyPost_ret (v := .tuple #[.agg #[.slice A n c, .slice A2 n2 c2, .int .i64 Ac, .int .i64 Pe, .slice A3 m c3], .slice A4 mm c4, .slice none 0 0, .int .i64 3]) (by simp [results, Try.results41, go_sem, q0, f0, q1, f1, q2, f2, q3, f3, q4, f4, zq] <;> first | rfl | ((repeat' apply And.intro) <;> rfl)) rfl ⟨rfl, below_set5 HGF.out (by omega) _ _ _ _ _⟩
end Go.Proofs.Ytamajedopofcoaa
