/-
  The contract of command for the commands that run and stop a measure. No condition but the row's shape.
-/
import Derived.Test.YtamajedopofcoaaZCmS
import Derived.Test.YtamajedopofcoaaZF
set_option linter.unusedVariables false
set_option linter.unusedSimpArgs false
namespace Go.Proofs.Ytamajedopofcoaa
open Go.RowKit
theorem own_cvB {w w1 : World} {base n size cap g : Nat} {e : TypeId} {xs : List Value} (h : w.ownsRow base e size (.slice (some ⟨g, 0, none⟩) n cap) n xs) {B : Nat} (hg : g < B) (hb : Below B w w1) : Cv w1 (some ⟨g, 0, none⟩) xs := fun h0 => by
  obtain ⟨b, o, e, hl, hc⟩ := own_cv h h0
  injection e with e; injection e with e1 e2
  subst e1; subst e2
  exact ⟨g, 0, rfl, Nat.lt_of_lt_of_le hl hb.size, fun i v hv => ((below_cell hb).1 _ _ hg).trans (hc i v hv)⟩
theorem own_mb {w w1 : World} {base size n : Nat} {e : TypeId} {v : Value} {xs : List Value} (h : w.ownsRow base e size v n xs) (hb : Below w.heap.size w w1) {g : Nat} (hg : g < w.heap.size) : w1.ownsRow base e size v n xs := own_below h hb
theorem GB.drew {w w1 : World} {g : Option Nat} (h : w.grownBy w1 g) : w.grownBy w1.drew g := ⟨h.os, h.tape, h.output, h.size, h.block⟩
theorem map_set_m (l : List MV) (i : Nat) (y : MV) : (l.set i y).map MV.m = (l.map MV.m).set i y.m := by rw [List.map_set]
theorem Mo.put {S : List Nat} {w : World} {l : List MV} (h : Mo S w l) {i : Nat} {x y : MV} (hx : l[i]? = some x) (hB : y.B = x.B) (hc : y.c = x.c) (hC : y.m.Ce = x.m.Ce) : Mo S w (l.set i y) := fun z hz => by
  rcases List.mem_or_eq_of_mem_set hz with h1 | rfl
  · exact h z h1
  · have := h x (List.mem_of_getElem? hx)
    rw [hB, hc, hC]; exact this
/-- what 'run' and 'stop' leave -/
def runS (x : MS) (r : Bool) : MS := ⟨x.Ev, x.Ey, 0, x.Ce, r⟩
set_option maxRecDepth 100000 in
set_option maxHeartbeats 16000000 in
open Go.Maps in
theorem cmd41_range5 (A : Option Addr) (n c : Nat) (A2 : Option Addr) (n2 c2 : Nat) (Ac Pe : Int) (A3 : Option Addr) (m c3 : Nat) (R W : List Int) (ch : List (Int × Int)) (A4 : Option Addr) (mm c4 : Nat) (b o c5 : Nat) (x : Int) (w : World) (h0 : w.cell? ⟨b, o, none⟩ = some (.int .u8 5)) (hbl : b < w.heap.size) (hc5 : 2 ≤ c5) (h1 : w.cell? ⟨b, o + 1, none⟩ = some (.int .u8 x)) (x0 : 0 ≤ x) (x1 : x ≤ 255) (hx : (mm : Int) ≤ x) : Calls Try.prog 41 #[.agg #[.slice A n c, .slice A2 n2 c2, .int .i64 Ac, .int .i64 Pe, .slice A3 m c3], .slice A4 mm c4, .slice (some ⟨b, o, none⟩) 2 c5] w (fun r w' => r = .returned (.tuple #[.agg #[.slice A n c, .slice A2 n2 c2, .int .i64 Ac, .int .i64 Pe, .slice A3 m c3], .slice A4 mm c4, .slice none 0 0, .int .i64 2]) ∧ Below w.heap.size w w') := by
  have hmm := @run_makeMap Try.prog
  go_enter Try.func41, Try.ntmps41
  go_upto_region 2 with fail
  obtain ⟨w8, hw8⟩ : ∃ wx, wx = ((w.alloc (.cells #[.slice A n c, .slice A2 n2 c2, .int .i64 Ac, .int .i64 Pe, .slice A3 m c3] 25)).alloc (.cells #[.slice A4 mm c4] 45)).alloc (.cells #[.slice none 0 0, .slice none 0 0, .int .i64 0, .int .i64 0, .slice none 0 0] 25) := ⟨_, rfl⟩
  have G8 : Below w.heap.size w w8 := by rw [hw8]; go_grown
  have z8 : w8.heap.size = w.heap.size + 3 := by rw [hw8]; simp
  have CP : Cl w.heap.size w8 [.slice A n c, .slice A2 n2 c2, .int .i64 Ac, .int .i64 Pe, .slice A3 m c3] := by rw [hw8]; exact ((Cl.new (w := w) rfl [.slice A n c, .slice A2 n2 c2, .int .i64 Ac, .int .i64 Pe, .slice A3 m c3] 25).below ((Below.refl _ _).alloc (Nat.le_refl _) _)).below ((Below.refl _ _).alloc (Nat.le_refl _) _)
  have CM : Cl (w.heap.size + 1) w8 [.slice A4 mm c4] := by rw [hw8]; exact (Cl.new (P := w.heap.size + 1) (by simp) [.slice A4 mm c4] 45).below ((Below.refl _ _).alloc (Nat.le_refl _) _)
  have CQ : Cl (w.heap.size + 1 + 1) w8 [.slice none 0 0, .slice none 0 0, .int .i64 0, .int .i64 0, .slice none 0 0] := by rw [hw8]; exact Cl.new (by simp) [.slice none 0 0, .slice none 0 0, .int .i64 0, .int .i64 0, .slice none 0 0] 25
  rw [← hw8]
  have HZ8 := Lib.hid z8
  clear hw8 z8
  have hown0 := World.ownsMap_made (H := Unit) w8 Try.prog 5 (plainElem Try.prog 3)
  go_upto_region 3 with (first | (refine insert_own _ rfl _ _ _ 78 rfl 5 3 (int_keyed Try.underlying5) Try.underlying78 (plainElem Try.prog 3) _ 0 _ rfl hown0 (by unfold maxLen; omega) _ _ _ rfl rfl (keyOf_int_mk Try.underlying5 (a := 1) rfl) _ [] (plainElem_int Try.underlying3 (a := 3) rfl) ?_; intro m1 hown1 hgr1) | (refine insert_own _ rfl _ _ _ 78 rfl 5 3 (int_keyed Try.underlying5) Try.underlying78 (plainElem Try.prog 3) _ 1 _ rfl hown1 (by unfold maxLen; omega) _ _ _ rfl rfl (keyOf_int_mk Try.underlying5 (a := 2) rfl) _ [] (plainElem_int Try.underlying3 (a := 11) rfl) ?_; intro m2 hown2 hgr2) | (refine insert_own _ rfl _ _ _ 78 rfl 5 3 (int_keyed Try.underlying5) Try.underlying78 (plainElem Try.prog 3) _ 2 _ rfl hown2 (by unfold maxLen; omega) _ _ _ rfl rfl (keyOf_int_mk Try.underlying5 (a := 3) rfl) _ [] (plainElem_int Try.underlying3 (a := 2) rfl) ?_; intro m3 hown3 hgr3) | (refine insert_own _ rfl _ _ _ 78 rfl 5 3 (int_keyed Try.underlying5) Try.underlying78 (plainElem Try.prog 3) _ 3 _ rfl hown3 (by unfold maxLen; omega) _ _ _ rfl rfl (keyOf_int_mk Try.underlying5 (a := 5) rfl) _ [] (plainElem_int Try.underlying3 (a := 2) rfl) ?_; intro m4 hown4 hgr4) | (refine insert_own _ rfl _ _ _ 78 rfl 5 3 (int_keyed Try.underlying5) Try.underlying78 (plainElem Try.prog 3) _ 4 _ rfl hown4 (by unfold maxLen; omega) _ _ _ rfl rfl (keyOf_int_mk Try.underlying5 (a := 6) rfl) _ [] (plainElem_int Try.underlying3 (a := 2) rfl) ?_; intro m5 hown5 hgr5))
  have g0 : Below w8.heap.size w8 (w8.alloc (.map #[] 0)) := (Below.refl _ _).alloc (Nat.le_refl _) _
  have hBg : ∀ k, some w8.heap.size = some k → w8.heap.size ≤ k := fun k e => by injection e with e; omega
  have g1 := g0.grown hgr1 g0.size hBg
  have g2 := g1.grown hgr2 g1.size hBg
  have g3 := g2.grown hgr3 g2.size hBg
  have g4 := g3.grown hgr4 g3.size hBg
  have g5 := g4.grown hgr5 g4.size hBg
  have s1 : m5.cell? ⟨b, o, none⟩ = some (.int .u8 5) := ((bcell (chain G8 g5)).1 b o hbl).trans h0
  have HP5 := Lib.hid (CP.below g5)
  have HM5 := Lib.hid (CM.below g5)
  have HQ5 := Lib.hid (CQ.below g5)
  have HG5 := Lib.hid (chain G8 g5)
  have hb5 : b < m5.heap.size := by have := g5.size; have := HZ8.out; omega
  clear hown0 hown1 hown2 hown3 hown4 hgr1 hgr2 hgr3 hgr4 hgr5 g0 g1 g2 g3 g4 g5 hBg CP CM CQ G8 h0
  go_upto_region 4 with (first | (at_lookup; refine wpList_lookup_own_ok_int _ rfl _ _ 78 rfl 5 3 .i64 (int_keyed Try.underlying5) Try.underlying78 Try.underlying3 (by kernel_rfl) _ 5 _ rfl hown5 _ _ rfl (keyOf_int_mk Try.underlying5 (a := 5) rfl) ?_; intro c0 hat hwc))
  have hc03 : c0 = 2 := by
    have e : (DataW.lit (Lit.int .i64 2) : DataW Unit) = .lit (.int .i64 c0) := hat
    injection e with e; injection e with _ e; exact e.symm
  subst hc03
  rw [show Maps.has ((((((DataW.map [] : DataW Unit).put (.int .u8 1) (.lit (.int .i64 3))).put (.int .u8 2) (.lit (.int .i64 11))).put (.int .u8 3) (.lit (.int .i64 2))).put (.int .u8 5) (.lit (.int .i64 2))).put (.int .u8 6) (.lit (.int .i64 2))) (Lit.int .u8 5) = true from by kernel_rfl]
  clear hat hwc hown5
  have s2 : m5.cell? ⟨b, o + 1, none⟩ = some (.int .u8 x) := ((bcell HG5.out).1 b _ hbl).trans h1
  clear h1
  have d1 : decide ((mm : Int) ≤ x) = true := by simp [hx]
  have pm := HM5.out.c 0 rfl
  go_wp2_with fail
  clear pm
  have hPP := HP5.out
  have hMM := HM5.out
  refine (fail51 A n c A2 n2 c2 Ac Pe A3 m c3 R W ch A4 mm c4 2 w.heap.size (w.heap.size + 1) m5 hPP hMM).mono ?_
  rintro r wF ⟨rfl, hbF⟩
  have HQF := Lib.hid (HQ5.out.below hbF)
  have HGF := Lib.hid (chain HG5.out hbF)
  clear hbF hPP hMM HP5 HM5 HQ5 HG5
  have q0 := HQF.out.c 0 rfl
  have q1 := HQF.out.c 1 rfl
  have q2 := HQF.out.c 2 rfl
  have q3 := HQF.out.c 3 rfl
  have q4 := HQF.out.c 4 rfl
  have f0 := HQF.out.f 0 rfl
  have f1 := HQF.out.f 1 rfl
  have f2 := HQF.out.f 2 rfl
  have f3 := HQF.out.f 3 rfl
  have f4 := HQF.out.f 4 rfl
  have zq := HQF.out.1
  go_wp2_with fail
  refine bodyPost_ret (v := .tuple #[.agg #[.slice A n c, .slice A2 n2 c2, .int .i64 Ac, .int .i64 Pe, .slice A3 m c3], .slice A4 mm c4, .slice none 0 0, .int .i64 2]) (by simp [results, Try.results41, go_sem, q0, f0, q1, f1, q2, f2, q3, f3, q4, f4, zq] <;> first | rfl | ((repeat' apply And.intro) <;> rfl)) rfl ⟨rfl, below_set5 HGF.out (by omega) _ _ _ _ _⟩
set_option maxRecDepth 100000 in
set_option maxHeartbeats 16000000 in
open Go.Maps in
theorem cmd41_range6 (A : Option Addr) (n c : Nat) (A2 : Option Addr) (n2 c2 : Nat) (Ac Pe : Int) (A3 : Option Addr) (m c3 : Nat) (R W : List Int) (ch : List (Int × Int)) (A4 : Option Addr) (mm c4 : Nat) (b o c5 : Nat) (x : Int) (w : World) (h0 : w.cell? ⟨b, o, none⟩ = some (.int .u8 6)) (hbl : b < w.heap.size) (hc5 : 2 ≤ c5) (h1 : w.cell? ⟨b, o + 1, none⟩ = some (.int .u8 x)) (x0 : 0 ≤ x) (x1 : x ≤ 255) (hx : (mm : Int) ≤ x) : Calls Try.prog 41 #[.agg #[.slice A n c, .slice A2 n2 c2, .int .i64 Ac, .int .i64 Pe, .slice A3 m c3], .slice A4 mm c4, .slice (some ⟨b, o, none⟩) 2 c5] w (fun r w' => r = .returned (.tuple #[.agg #[.slice A n c, .slice A2 n2 c2, .int .i64 Ac, .int .i64 Pe, .slice A3 m c3], .slice A4 mm c4, .slice none 0 0, .int .i64 2]) ∧ Below w.heap.size w w') := by
  have hmm := @run_makeMap Try.prog
  go_enter Try.func41, Try.ntmps41
  go_upto_region 2 with fail
  obtain ⟨w8, hw8⟩ : ∃ wx, wx = ((w.alloc (.cells #[.slice A n c, .slice A2 n2 c2, .int .i64 Ac, .int .i64 Pe, .slice A3 m c3] 25)).alloc (.cells #[.slice A4 mm c4] 45)).alloc (.cells #[.slice none 0 0, .slice none 0 0, .int .i64 0, .int .i64 0, .slice none 0 0] 25) := ⟨_, rfl⟩
  have G8 : Below w.heap.size w w8 := by rw [hw8]; go_grown
  have z8 : w8.heap.size = w.heap.size + 3 := by rw [hw8]; simp
  have CP : Cl w.heap.size w8 [.slice A n c, .slice A2 n2 c2, .int .i64 Ac, .int .i64 Pe, .slice A3 m c3] := by rw [hw8]; exact ((Cl.new (w := w) rfl [.slice A n c, .slice A2 n2 c2, .int .i64 Ac, .int .i64 Pe, .slice A3 m c3] 25).below ((Below.refl _ _).alloc (Nat.le_refl _) _)).below ((Below.refl _ _).alloc (Nat.le_refl _) _)
  have CM : Cl (w.heap.size + 1) w8 [.slice A4 mm c4] := by rw [hw8]; exact (Cl.new (P := w.heap.size + 1) (by simp) [.slice A4 mm c4] 45).below ((Below.refl _ _).alloc (Nat.le_refl _) _)
  have CQ : Cl (w.heap.size + 1 + 1) w8 [.slice none 0 0, .slice none 0 0, .int .i64 0, .int .i64 0, .slice none 0 0] := by rw [hw8]; exact Cl.new (by simp) [.slice none 0 0, .slice none 0 0, .int .i64 0, .int .i64 0, .slice none 0 0] 25
  rw [← hw8]
  have HZ8 := Lib.hid z8
  clear hw8 z8
  have hown0 := World.ownsMap_made (H := Unit) w8 Try.prog 5 (plainElem Try.prog 3)
  go_upto_region 3 with (first | (refine insert_own _ rfl _ _ _ 78 rfl 5 3 (int_keyed Try.underlying5) Try.underlying78 (plainElem Try.prog 3) _ 0 _ rfl hown0 (by unfold maxLen; omega) _ _ _ rfl rfl (keyOf_int_mk Try.underlying5 (a := 1) rfl) _ [] (plainElem_int Try.underlying3 (a := 3) rfl) ?_; intro m1 hown1 hgr1) | (refine insert_own _ rfl _ _ _ 78 rfl 5 3 (int_keyed Try.underlying5) Try.underlying78 (plainElem Try.prog 3) _ 1 _ rfl hown1 (by unfold maxLen; omega) _ _ _ rfl rfl (keyOf_int_mk Try.underlying5 (a := 2) rfl) _ [] (plainElem_int Try.underlying3 (a := 11) rfl) ?_; intro m2 hown2 hgr2) | (refine insert_own _ rfl _ _ _ 78 rfl 5 3 (int_keyed Try.underlying5) Try.underlying78 (plainElem Try.prog 3) _ 2 _ rfl hown2 (by unfold maxLen; omega) _ _ _ rfl rfl (keyOf_int_mk Try.underlying5 (a := 3) rfl) _ [] (plainElem_int Try.underlying3 (a := 2) rfl) ?_; intro m3 hown3 hgr3) | (refine insert_own _ rfl _ _ _ 78 rfl 5 3 (int_keyed Try.underlying5) Try.underlying78 (plainElem Try.prog 3) _ 3 _ rfl hown3 (by unfold maxLen; omega) _ _ _ rfl rfl (keyOf_int_mk Try.underlying5 (a := 5) rfl) _ [] (plainElem_int Try.underlying3 (a := 2) rfl) ?_; intro m4 hown4 hgr4) | (refine insert_own _ rfl _ _ _ 78 rfl 5 3 (int_keyed Try.underlying5) Try.underlying78 (plainElem Try.prog 3) _ 4 _ rfl hown4 (by unfold maxLen; omega) _ _ _ rfl rfl (keyOf_int_mk Try.underlying5 (a := 6) rfl) _ [] (plainElem_int Try.underlying3 (a := 2) rfl) ?_; intro m5 hown5 hgr5))
  have g0 : Below w8.heap.size w8 (w8.alloc (.map #[] 0)) := (Below.refl _ _).alloc (Nat.le_refl _) _
  have hBg : ∀ k, some w8.heap.size = some k → w8.heap.size ≤ k := fun k e => by injection e with e; omega
  have g1 := g0.grown hgr1 g0.size hBg
  have g2 := g1.grown hgr2 g1.size hBg
  have g3 := g2.grown hgr3 g2.size hBg
  have g4 := g3.grown hgr4 g3.size hBg
  have g5 := g4.grown hgr5 g4.size hBg
  have s1 : m5.cell? ⟨b, o, none⟩ = some (.int .u8 6) := ((bcell (chain G8 g5)).1 b o hbl).trans h0
  have HP5 := Lib.hid (CP.below g5)
  have HM5 := Lib.hid (CM.below g5)
  have HQ5 := Lib.hid (CQ.below g5)
  have HG5 := Lib.hid (chain G8 g5)
  have hb5 : b < m5.heap.size := by have := g5.size; have := HZ8.out; omega
  clear hown0 hown1 hown2 hown3 hown4 hgr1 hgr2 hgr3 hgr4 hgr5 g0 g1 g2 g3 g4 g5 hBg CP CM CQ G8 h0
  go_upto_region 4 with (first | (at_lookup; refine wpList_lookup_own_ok_int _ rfl _ _ 78 rfl 5 3 .i64 (int_keyed Try.underlying5) Try.underlying78 Try.underlying3 (by kernel_rfl) _ 5 _ rfl hown5 _ _ rfl (keyOf_int_mk Try.underlying5 (a := 6) rfl) ?_; intro c0 hat hwc))
  have hc03 : c0 = 2 := by
    have e : (DataW.lit (Lit.int .i64 2) : DataW Unit) = .lit (.int .i64 c0) := hat
    injection e with e; injection e with _ e; exact e.symm
  subst hc03
  rw [show Maps.has ((((((DataW.map [] : DataW Unit).put (.int .u8 1) (.lit (.int .i64 3))).put (.int .u8 2) (.lit (.int .i64 11))).put (.int .u8 3) (.lit (.int .i64 2))).put (.int .u8 5) (.lit (.int .i64 2))).put (.int .u8 6) (.lit (.int .i64 2))) (Lit.int .u8 6) = true from by kernel_rfl]
  clear hat hwc hown5
  have s2 : m5.cell? ⟨b, o + 1, none⟩ = some (.int .u8 x) := ((bcell HG5.out).1 b _ hbl).trans h1
  clear h1
  have d1 : decide ((mm : Int) ≤ x) = true := by simp [hx]
  have pm := HM5.out.c 0 rfl
  go_wp2_with fail
  clear pm
  have hPP := HP5.out
  have hMM := HM5.out
  refine (fail51 A n c A2 n2 c2 Ac Pe A3 m c3 R W ch A4 mm c4 2 w.heap.size (w.heap.size + 1) m5 hPP hMM).mono ?_
  rintro r wF ⟨rfl, hbF⟩
  have HQF := Lib.hid (HQ5.out.below hbF)
  have HGF := Lib.hid (chain HG5.out hbF)
  clear hbF hPP hMM HP5 HM5 HQ5 HG5
  have q0 := HQF.out.c 0 rfl
  have q1 := HQF.out.c 1 rfl
  have q2 := HQF.out.c 2 rfl
  have q3 := HQF.out.c 3 rfl
  have q4 := HQF.out.c 4 rfl
  have f0 := HQF.out.f 0 rfl
  have f1 := HQF.out.f 1 rfl
  have f2 := HQF.out.f 2 rfl
  have f3 := HQF.out.f 3 rfl
  have f4 := HQF.out.f 4 rfl
  have zq := HQF.out.1
  go_wp2_with fail
  refine bodyPost_ret (v := .tuple #[.agg #[.slice A n c, .slice A2 n2 c2, .int .i64 Ac, .int .i64 Pe, .slice A3 m c3], .slice A4 mm c4, .slice none 0 0, .int .i64 2]) (by simp [results, Try.results41, go_sem, q0, f0, q1, f1, q2, f2, q3, f3, q4, f4, zq] <;> first | rfl | ((repeat' apply And.intro) <;> rfl)) rfl ⟨rfl, below_set5 HGF.out (by omega) _ _ _ _ _⟩
set_option maxRecDepth 100000 in
set_option maxHeartbeats 16000000 in
open Go.Maps in
theorem cmd41_run5 (A : Option Addr) (n c : Nat) (A2 : Option Addr) (n2 c2 : Nat) (Ac Pe : Int) (A3 : Option Addr) (m c3 : Nat) (R W : List Int) (ch : List (Int × Int)) (mm c4 : Nat) (b o c5 : Nat) (S : List Nat) (g B0 : Nat) (l : List MV) (a : Nat) (w : World) (h0 : w.cell? ⟨b, o, none⟩ = some (.int .u8 5)) (hbl : b < w.heap.size) (hc5 : 2 ≤ c5) (h1 : w.cell? ⟨b, o + 1, none⟩ = some (.int .u8 (a : Int))) (x1 : a ≤ 255) (hx : a < mm) (ho : w.ownsRow B0 66 5 (.slice (some ⟨g, 0, none⟩) mm c4) mm (flatM l)) (hgw : g < w.heap.size) (hlm : l.length = mm) (hmo : Mo (g :: S) w l) (hgS : g ∉ S) (hSw : ∀ s ∈ S, s < w.heap.size) (hbg : b ≠ g) : Calls Try.prog 41 #[.agg #[.slice A n c, .slice A2 n2 c2, .int .i64 Ac, .int .i64 Pe, .slice A3 m c3], .slice (some ⟨g, 0, none⟩) mm c4, .slice (some ⟨b, o, none⟩) 2 c5] w (fun r w' => ∃ A5 c5', r = .returned (.tuple #[.agg #[.slice A n c, .slice A2 n2 c2, .int .i64 Ac, .int .i64 Pe, .slice A3 m c3], .slice A5 ((l.map MV.m).set a (runS ((l.map MV.m).getD a ⟨0, 0, 0, [], false⟩) true)).length c5', .slice none 0 0, .int .i64 0]) ∧ LO S w' A5 ((l.map MV.m).set a (runS ((l.map MV.m).getD a ⟨0, 0, 0, [], false⟩) true)) c5' ∧ w.grownBy w' (some g)) := by
  obtain ⟨hla, xm, hxm⟩ : a < l.length ∧ ∃ xm, l[a]? = some xm := by
    have h : a < l.length := by omega
    exact ⟨h, _, List.getElem?_eq_getElem h⟩
  have hga : a * 5 + 4 < mm * 5 := by omega
  have CG := own_cl ho (by omega)
  obtain ⟨r4, e4⟩ := CG.2 (a * 5 + 4) _ ((flatM_get l a xm hxm 4 (by omega)).trans rfl)
  obtain ⟨r2, e2⟩ := CG.2 (a * 5 + 2) _ ((flatM_get l a xm hxm 2 (by omega)).trans rfl)
  have HR4 := Lib.hid r4
  have HE4 := Lib.hid e4
  have HR2 := Lib.hid r2
  have HE2 := Lib.hid e2
  have HO := Lib.hid ho
  have HXM := Lib.hid hxm
  have HMO := Lib.hid hmo
  have HSW := Lib.hid hSw
  have HLM := Lib.hid hlm
  clear CG r4 e4 r2 e2 ho hlm hmo hSw hxm
  have hmm := @run_makeMap Try.prog
  go_enter Try.func41, Try.ntmps41
  go_upto_region 2 with fail
  obtain ⟨w8, hw8⟩ : ∃ wx, wx = ((w.alloc (.cells #[.slice A n c, .slice A2 n2 c2, .int .i64 Ac, .int .i64 Pe, .slice A3 m c3] 25)).alloc (.cells #[.slice (some ⟨g, 0, none⟩) mm c4] 45)).alloc (.cells #[.slice none 0 0, .slice none 0 0, .int .i64 0, .int .i64 0, .slice none 0 0] 25) := ⟨_, rfl⟩
  have G8 : Below w.heap.size w w8 := by rw [hw8]; go_grown
  have z8 : w8.heap.size = w.heap.size + 3 := by rw [hw8]; simp
  have CP : Cl w.heap.size w8 [.slice A n c, .slice A2 n2 c2, .int .i64 Ac, .int .i64 Pe, .slice A3 m c3] := by rw [hw8]; exact ((Cl.new (w := w) rfl [.slice A n c, .slice A2 n2 c2, .int .i64 Ac, .int .i64 Pe, .slice A3 m c3] 25).below ((Below.refl _ _).alloc (Nat.le_refl _) _)).below ((Below.refl _ _).alloc (Nat.le_refl _) _)
  have CM : Cl (w.heap.size + 1) w8 [.slice (some ⟨g, 0, none⟩) mm c4] := by rw [hw8]; exact (Cl.new (P := w.heap.size + 1) (by simp) [.slice (some ⟨g, 0, none⟩) mm c4] 45).below ((Below.refl _ _).alloc (Nat.le_refl _) _)
  have CQ : Cl (w.heap.size + 1 + 1) w8 [.slice none 0 0, .slice none 0 0, .int .i64 0, .int .i64 0, .slice none 0 0] := by rw [hw8]; exact Cl.new (by simp) [.slice none 0 0, .slice none 0 0, .int .i64 0, .int .i64 0, .slice none 0 0] 25
  rw [← hw8]
  have HZ8 := Lib.hid z8
  clear hw8 z8
  have hown0 := World.ownsMap_made (H := Unit) w8 Try.prog 5 (plainElem Try.prog 3)
  go_upto_region 3 with (first | (refine insert_own _ rfl _ _ _ 78 rfl 5 3 (int_keyed Try.underlying5) Try.underlying78 (plainElem Try.prog 3) _ 0 _ rfl hown0 (by unfold maxLen; omega) _ _ _ rfl rfl (keyOf_int_mk Try.underlying5 (a := 1) rfl) _ [] (plainElem_int Try.underlying3 (a := 3) rfl) ?_; intro m1 hown1 hgr1) | (refine insert_own _ rfl _ _ _ 78 rfl 5 3 (int_keyed Try.underlying5) Try.underlying78 (plainElem Try.prog 3) _ 1 _ rfl hown1 (by unfold maxLen; omega) _ _ _ rfl rfl (keyOf_int_mk Try.underlying5 (a := 2) rfl) _ [] (plainElem_int Try.underlying3 (a := 11) rfl) ?_; intro m2 hown2 hgr2) | (refine insert_own _ rfl _ _ _ 78 rfl 5 3 (int_keyed Try.underlying5) Try.underlying78 (plainElem Try.prog 3) _ 2 _ rfl hown2 (by unfold maxLen; omega) _ _ _ rfl rfl (keyOf_int_mk Try.underlying5 (a := 3) rfl) _ [] (plainElem_int Try.underlying3 (a := 2) rfl) ?_; intro m3 hown3 hgr3) | (refine insert_own _ rfl _ _ _ 78 rfl 5 3 (int_keyed Try.underlying5) Try.underlying78 (plainElem Try.prog 3) _ 3 _ rfl hown3 (by unfold maxLen; omega) _ _ _ rfl rfl (keyOf_int_mk Try.underlying5 (a := 5) rfl) _ [] (plainElem_int Try.underlying3 (a := 2) rfl) ?_; intro m4 hown4 hgr4) | (refine insert_own _ rfl _ _ _ 78 rfl 5 3 (int_keyed Try.underlying5) Try.underlying78 (plainElem Try.prog 3) _ 4 _ rfl hown4 (by unfold maxLen; omega) _ _ _ rfl rfl (keyOf_int_mk Try.underlying5 (a := 6) rfl) _ [] (plainElem_int Try.underlying3 (a := 2) rfl) ?_; intro m5 hown5 hgr5))
  have g0 : Below w8.heap.size w8 (w8.alloc (.map #[] 0)) := (Below.refl _ _).alloc (Nat.le_refl _) _
  have hBg : ∀ k, some w8.heap.size = some k → w8.heap.size ≤ k := fun k e => by injection e with e; omega
  have g1 := g0.grown hgr1 g0.size hBg
  have g2 := g1.grown hgr2 g1.size hBg
  have g3 := g2.grown hgr3 g2.size hBg
  have g4 := g3.grown hgr4 g3.size hBg
  have g5 := g4.grown hgr5 g4.size hBg
  have s1 : m5.cell? ⟨b, o, none⟩ = some (.int .u8 5) := ((bcell (chain G8 g5)).1 b o hbl).trans h0
  have HP5 := Lib.hid (CP.below g5)
  have HM5 := Lib.hid (CM.below g5)
  have HQ5 := Lib.hid (CQ.below g5)
  have HG5 := Lib.hid (chain G8 g5)
  have hb5 : b < m5.heap.size := by have := g5.size; have := HZ8.out; omega
  clear hown0 hown1 hown2 hown3 hown4 hgr1 hgr2 hgr3 hgr4 hgr5 g0 g1 g2 g3 g4 g5 hBg CP CM CQ G8 h0
  go_upto_region 4 with (first | (at_lookup; refine wpList_lookup_own_ok_int _ rfl _ _ 78 rfl 5 3 .i64 (int_keyed Try.underlying5) Try.underlying78 Try.underlying3 (by kernel_rfl) _ 5 _ rfl hown5 _ _ rfl (keyOf_int_mk Try.underlying5 (a := 5) rfl) ?_; intro c0 hat hwc))
  have hc03 : c0 = 2 := by
    have e : (DataW.lit (Lit.int .i64 2) : DataW Unit) = .lit (.int .i64 c0) := hat
    injection e with e; injection e with _ e; exact e.symm
  subst hc03
  rw [show Maps.has ((((((DataW.map [] : DataW Unit).put (.int .u8 1) (.lit (.int .i64 3))).put (.int .u8 2) (.lit (.int .i64 11))).put (.int .u8 3) (.lit (.int .i64 2))).put (.int .u8 5) (.lit (.int .i64 2))).put (.int .u8 6) (.lit (.int .i64 2))) (Lit.int .u8 5) = true from by kernel_rfl]
  clear hat hwc hown5
  have s2 : m5.cell? ⟨b, o + 1, none⟩ = some (.int .u8 (a : Int)) := ((bcell HG5.out).1 b _ hbl).trans h1
  clear h1
  have hr4 : m5.cell? ⟨g, a * 5 + 4, none⟩ = _ := ((bcell HG5.out).1 g _ hgw).trans HR4.out
  have he4 : m5.frozen? ⟨g, a * 5 + 4, none⟩ = _ := ((bcell HG5.out).2 g _ hgw).trans HE4.out
  have hr2 : m5.cell? ⟨g, a * 5 + 2, none⟩ = _ := ((bcell HG5.out).1 g _ hgw).trans HR2.out
  have he2 : m5.frozen? ⟨g, a * 5 + 2, none⟩ = _ := ((bcell HG5.out).2 g _ hgw).trans HE2.out
  clear HR4 HE4 HR2 HE2
  have d1 : decide ((mm : Int) ≤ (a : Int)) = false := by simp; omega
  have pm := HM5.out.c 0 rfl
  go_upto_region 45 with fail
  have hMl : w.heap.size + 1 < m5.heap.size := HM5.out.1
  have nMg : w.heap.size + 1 ≠ g := by omega
  have hgm : g < m5.heap.size := by have := HG5.out.size; omega
  have ham : (a : Int) < (mm : Int) := by omega
  refine region_K (fun W' => (∀ b o, b < m5.heap.size → b ≠ g → W'.cell? ⟨b, o, none⟩ = m5.cell? ⟨b, o, none⟩) ∧ True) 13 (by kernel_rfl) (⟨fun b o _ _ => rfl, trivial⟩) (fun hHeld => ?_)
  refine K_take' (i := 1) (v := ?_) rfl (by kernel_rfl) (by kernel_rfl) (by kernel_rfl) (by kernel_rfl) (fun _ _ _ h => h) (Or.inl ⟨by kernel_rfl, ?_⟩) hHeld ?_
  rotate_left 1
  · intro W8 hSw
    clear hSw
    go_simp
    all_goals with_reducible rfl
  try simp only [Act.put, List.setIfInBounds_toArray, List.set_cons_zero, List.set_cons_succ]
  refine K_take' (i := 3) (v := ?_) rfl (by kernel_rfl) (by kernel_rfl) (by kernel_rfl) (by kernel_rfl) (fun _ _ _ h => h) (Or.inl ⟨by kernel_rfl, ?_⟩) hHeld ?_
  rotate_left 1
  · intro W8 hSw
    clear hSw
    go_simp
    all_goals with_reducible rfl
  try simp only [Act.put, List.setIfInBounds_toArray, List.set_cons_zero, List.set_cons_succ]
  refine K_take' (i := 4) (v := ?_) rfl (by kernel_rfl) (by kernel_rfl) (by kernel_rfl) (by kernel_rfl) (fun _ _ _ h => h) (Or.inl ⟨by kernel_rfl, ?_⟩) hHeld ?_
  rotate_left 1
  · intro W8 hSw
    clear hSw
    go_simp
    all_goals with_reducible rfl
  try simp only [Act.put, List.setIfInBounds_toArray, List.set_cons_zero, List.set_cons_succ]
  refine K_take (i := 0) (v := ?_) rfl (by kernel_rfl) (by kernel_rfl) (by kernel_rfl) (by kernel_rfl) (by kernel_rfl) (fun _ _ _ h => h) (Or.inl ⟨by kernel_rfl, ?_⟩) hHeld ?_
  rotate_left 1
  · intro W8 hSw
    (try dsimp only at hSw)
    go_simp
    all_goals with_reducible rfl
  try simp only [Act.put, List.setIfInBounds_toArray, List.set_cons_zero, List.set_cons_succ]
  refine K_take (i := 2) (v := ?_) rfl (by kernel_rfl) (by kernel_rfl) (by kernel_rfl) (by kernel_rfl) (by kernel_rfl) (fun _ _ _ h => h) (Or.inl ⟨by kernel_rfl, ?_⟩) hHeld ?_
  rotate_left 1
  · intro W8 hSw
    (try dsimp only at hSw)
    go_simp
    all_goals with_reducible rfl
  try simp only [Act.put, List.setIfInBounds_toArray, List.set_cons_zero, List.set_cons_succ]
  refine K_take' (i := 5) (v := ?_) rfl (by kernel_rfl) (by kernel_rfl) (by kernel_rfl) (by kernel_rfl) (fun _ _ _ h => h) (Or.inl ⟨by kernel_rfl, ?_⟩) hHeld ?_
  rotate_left 1
  · intro W8 hSw
    clear hSw
    go_simp
    all_goals with_reducible rfl
  try simp only [Act.put, List.setIfInBounds_toArray, List.set_cons_zero, List.set_cons_succ]
  refine K_take (i := 6) (v := ?_) rfl (by kernel_rfl) (by kernel_rfl) (by kernel_rfl) (by kernel_rfl) (by kernel_rfl) (fun _ _ _ h => h) (Or.inl ⟨by kernel_rfl, ?_⟩) hHeld ?_
  rotate_left 1
  · intro W8 hSw
    (try dsimp only at hSw)
    go_simp
    all_goals with_reducible rfl
  try simp only [Act.put, List.setIfInBounds_toArray, List.set_cons_zero, List.set_cons_succ]
  refine K_take' (i := 7) (v := ?_) rfl (by kernel_rfl) (by kernel_rfl) (by kernel_rfl) (by kernel_rfl) (fun _ _ _ h => h) (Or.inl ⟨by kernel_rfl, ?_⟩) hHeld ?_
  rotate_left 1
  · intro W8 hSw
    clear hSw
    go_simp
    all_goals with_reducible rfl
  try simp only [Act.put, List.setIfInBounds_toArray, List.set_cons_zero, List.set_cons_succ]
  refine K_take' (i := 8) (v := ?_) rfl (by kernel_rfl) (by kernel_rfl) (by kernel_rfl) (by kernel_rfl) (fun _ _ _ h => h) (Or.inl ⟨by kernel_rfl, ?_⟩) hHeld ?_
  rotate_left 1
  · intro W8 hSw
    clear hSw
    go_simp
    all_goals with_reducible rfl
  try simp only [Act.put, List.setIfInBounds_toArray, List.set_cons_zero, List.set_cons_succ]
  refine K_take' (i := 9) (v := ?_) rfl (by kernel_rfl) (by kernel_rfl) (by kernel_rfl) (by kernel_rfl) (fun _ _ _ h => h) (Or.inl ⟨by kernel_rfl, ?_⟩) hHeld ?_
  rotate_left 1
  · intro W8 hSw
    clear hSw
    go_simp
    all_goals with_reducible rfl
  try simp only [Act.put, List.setIfInBounds_toArray, List.set_cons_zero, List.set_cons_succ]
  refine K_step' (i := 10) (by kernel_rfl) rfl (fun K hK => ?_)
  go_simp
  refine hK.out _ _ ⟨fun b o hb hne => (drew_cell _ _).trans (World.cell?_setCell_far _ _ _ _ (Ne.symm hne)), trivial⟩ (fun hH2 => ?_)
  clear hK K
  try simp only [Act.put, List.setIfInBounds_toArray, List.set_cons_zero, List.set_cons_succ]
  obtain ⟨u, hu⟩ : ∃ u, u = m5.setCell ⟨g, a * 5 + 4, none⟩ (.bool true) := ⟨_, rfl⟩
  have hr2' : u.cell? ⟨g, a * 5 + 2, none⟩ = some (.int .i64 xm.m.Co) := by rw [hu]; exact (World.cell?_setCell_other _ _ _ _ (by intro q; injection q with _ q; omega)).trans hr2
  have he2' : u.frozen? ⟨g, a * 5 + 2, none⟩ = false := by rw [hu, World.frozen?_setCell]; exact he2
  have hou : u.ownsRow B0 66 5 (.slice (some ⟨g, 0, none⟩) mm c4) mm (flatM (l.set a ⟨⟨xm.m.Ev, xm.m.Ey, xm.m.Co, xm.m.Ce, true⟩, xm.B, xm.c⟩)) := by
    rw [hu, ← flatM_set l a xm ⟨⟨xm.m.Ev, xm.m.Ey, xm.m.Co, xm.m.Ce, true⟩, xm.B, xm.c⟩ 4 (.bool true) HXM.out (by omega) rfl]
    exact own_put (own_mb HO.out HG5.out hgw) (by omega) _
  have hgu : m5.grownBy u (some g) := by rw [hu]; exact GB.set (GB.refl _ _) _ _
  rw [← hu] at hH2
  rw [← hu]
  clear hu hr2 he2 hr4 he4
  refine K_take' (i := 11) (v := ?_) rfl (by kernel_rfl) (by kernel_rfl) (by kernel_rfl) (by kernel_rfl) (fun _ _ _ h => h) (Or.inl ⟨by kernel_rfl, ?_⟩) hH2 ?_
  rotate_left 1
  · intro W8 hSw
    clear hSw
    go_simp
    all_goals with_reducible rfl
  try simp only [Act.put, List.setIfInBounds_toArray, List.set_cons_zero, List.set_cons_succ]
  refine K_take' (i := 12) (v := ?_) rfl (by kernel_rfl) (by kernel_rfl) (by kernel_rfl) (by kernel_rfl) (fun _ _ _ h => h) (Or.inl ⟨by kernel_rfl, ?_⟩) hH2 ?_
  rotate_left 1
  · intro W8 hSw
    clear hSw
    go_simp
    all_goals with_reducible rfl
  try simp only [Act.put, List.setIfInBounds_toArray, List.set_cons_zero, List.set_cons_succ]
  refine K_step (by kernel_rfl) (by kernel_rfl) rfl (fun K hK => ?_)
  go_simp
  refine hK.out _ _ ?_
  clear hK K
  try simp only [Act.put, List.setIfInBounds_toArray, List.set_cons_zero, List.set_cons_succ]
  refine wpAny_done (by kernel_rfl) ?_ _
  obtain ⟨wc, hwc⟩ : ∃ wc, wc = (u.setCell ⟨g, a * 5 + 2, none⟩ (.int .i64 0)).drew := ⟨_, rfl⟩
  have GBc : m5.grownBy wc (some g) := by rw [hwc]; exact GB.drew (GB.set hgu _ _)
  have hoc : wc.ownsRow B0 66 5 (.slice (some ⟨g, 0, none⟩) mm c4) mm (flatM ((l.set a ⟨⟨xm.m.Ev, xm.m.Ey, xm.m.Co, xm.m.Ce, true⟩, xm.B, xm.c⟩).set a ⟨⟨xm.m.Ev, xm.m.Ey, 0, xm.m.Ce, true⟩, xm.B, xm.c⟩)) := by
    rw [hwc, ← flatM_set (l.set a ⟨⟨xm.m.Ev, xm.m.Ey, xm.m.Co, xm.m.Ce, true⟩, xm.B, xm.c⟩) a ⟨⟨xm.m.Ev, xm.m.Ey, xm.m.Co, xm.m.Ce, true⟩, xm.B, xm.c⟩ ⟨⟨xm.m.Ev, xm.m.Ey, 0, xm.m.Ce, true⟩, xm.B, xm.c⟩ 2 (.int .i64 0) (by simp [hla]) (by omega) rfl]
    exact own_below (own_put hou (by omega) _) ((Below.refl _ _).drew)
  rw [← hwc]
  have hgP : some w.heap.size ≠ some g := fun e => by injection e with e; omega
  have hgM : some (w.heap.size + 1) ≠ some g := fun e => by injection e with e; omega
  have hgQ : some (w.heap.size + 1 + 1) ≠ some g := fun e => by injection e with e; omega
  have HPN := Lib.hid (Cl.gb GBc HP5.out hgP)
  have HMN := Lib.hid (Cl.gb GBc HM5.out hgM)
  have HQN := Lib.hid (Cl.gb GBc HQ5.out hgQ)
  have HGN := Lib.hid (GB.trans (GB.of (g := some g) HG5.out) GBc)
  have HOC := Lib.hid hoc
  have hcap : mm ≤ c4 := by
    obtain ⟨_, _, hv, _, _, h, _⟩ := own_form hoc (by omega)
    injection hv with _ _ hv; omega
  clear hwc GBc hoc hou hgu hgP hgM hgQ HP5 HM5 HQ5 HG5 HO pm hr2' he2' hH2 hHeld d1 nMg ham
  go_upto_region 46 with fail
  obtain ⟨Q, hQ⟩ : ∃ Q, Q = w.heap.size + 1 + 1 := ⟨_, rfl⟩
  rw [← hQ] at HQN
  rw [← hQ]
  have hQw : w.heap.size ≤ Q := by omega
  have nPQ : w.heap.size ≠ Q := by omega
  have nMQ : w.heap.size + 1 ≠ Q := by omega
  clear hQ
  have t0 := HPN.out.c 0 rfl
  have t1 := HPN.out.c 1 rfl
  have t2 := HPN.out.c 2 rfl
  have t3 := HPN.out.c 3 rfl
  have t4 := HPN.out.c 4 rfl
  have pm := HMN.out.c 0 rfl
  have q0 := HQN.out.c 0 rfl
  have q1 := HQN.out.c 1 rfl
  have q2 := HQN.out.c 2 rfl
  have q3 := HQN.out.c 3 rfl
  have q4 := HQN.out.c 4 rfl
  have f0 := HQN.out.f 0 rfl
  have f1 := HQN.out.f 1 rfl
  have f2 := HQN.out.f 2 rfl
  have f3 := HQN.out.f 3 rfl
  have f4 := HQN.out.f 4 rfl
  have zt := HPN.out.1
  have zm := HMN.out.1
  have zq := HQN.out.1
  refine region_K (fun W' => (∀ b o, b < wc.heap.size → b ≠ Q → W'.cell? ⟨b, o, none⟩ = wc.cell? ⟨b, o, none⟩) ∧ True) 3 (by kernel_rfl) (⟨fun b o _ _ => rfl, trivial⟩) (fun hHeld => ?_)
  refine K_take (i := 0) (v := ?_) rfl (by kernel_rfl) (by kernel_rfl) (by kernel_rfl) (by kernel_rfl) (by kernel_rfl) (fun _ _ _ h => h) (Or.inl ⟨by kernel_rfl, ?_⟩) hHeld ?_
  rotate_left 1
  · intro W8 hSw
    (try dsimp only at hSw)
    go_simp
    all_goals with_reducible rfl
  try simp only [Act.put, List.setIfInBounds_toArray, List.set_cons_zero, List.set_cons_succ]
  refine K_take (i := 1) (v := ?_) rfl (by kernel_rfl) (by kernel_rfl) (by kernel_rfl) (by kernel_rfl) (by kernel_rfl) (fun _ _ _ h => h) (Or.inl ⟨by kernel_rfl, ?_⟩) hHeld ?_
  rotate_left 1
  · intro W8 hSw
    (try dsimp only at hSw)
    go_simp
    all_goals with_reducible rfl
  try simp only [Act.put, List.setIfInBounds_toArray, List.set_cons_zero, List.set_cons_succ]
  refine K_step' (i := 2) (by kernel_rfl) rfl (fun K hK => ?_)
  go_simp
  refine hK.out _ _ ⟨fun b o hb hne => cell_far5d (Ne.symm hne) _ _ _ _ _, trivial⟩ (fun hH3 => ?_)
  clear hK K
  try simp only [Act.put, List.setIfInBounds_toArray, List.set_cons_zero, List.set_cons_succ]
  refine K_step (by kernel_rfl) (by kernel_rfl) rfl (fun K hK => ?_)
  go_simp
  refine hK.out _ _ ?_
  clear hK K
  try simp only [Act.put, List.setIfInBounds_toArray, List.set_cons_zero, List.set_cons_succ]
  refine wpAny_ready (rs := [4]) (by kernel_rfl) (by simp) (AllReady.cons rfl (fun K hK => ?_) AllReady.nil)
  go_simp
  refine hK _ _ ?_
  clear hK K
  try simp only [Act.put, List.setIfInBounds_toArray, List.set_cons_zero, List.set_cons_succ]
  refine wpAny_ready (rs := [5]) (by kernel_rfl) (by simp) (AllReady.cons rfl (fun K hK => ?_) AllReady.nil)
  go_simp
  refine hK _ _ ?_
  clear hK K
  try simp only [Act.put, List.setIfInBounds_toArray, List.set_cons_zero, List.set_cons_succ]
  refine wpAny_done (by kernel_rfl) ?_ _
  clear t0 t1 t2 t3 t4 pm zt zm HMN HPN hHeld hH3
  go_wp2_with fail
  refine bodyPost_ret (v := .tuple #[.agg #[.slice A n c, .slice A2 n2 c2, .int .i64 Ac, .int .i64 Pe, .slice A3 m c3], .slice (some ⟨g, 0, none⟩) mm c4, .slice none 0 0, .int .i64 0]) (by simp [results, Try.results41, go_sem, q0, f0, q1, f1, q2, f2, q3, f3, q4, f4, zq] <;> first | rfl | ((repeat' apply And.intro) <;> rfl)) rfl ⟨some ⟨g, 0, none⟩, c4, (by rw [List.length_set, List.length_map, HLM.out]), ?_, ?_⟩
  · refine ⟨_, ?_, ?_, own_cvB HOC.out hgw (below_set5 (Below.refl w.heap.size wc) hQw _ _ _ _ _).drew, ?_, ?_⟩
    · rw [map_set_m, map_set_m, List.set_set]
      have hxx : (l.map MV.m).getD a ⟨0, 0, 0, [], false⟩ = xm.m := by simp [List.getD, HXM.out]
      rw [hxx]; rfl
    · rw [List.length_set, List.length_map, HLM.out]; exact hcap
    · intro _ b o e hb
      injection e with e; injection e with e _
      subst e; exact hgS hb
    · refine Mo.sub (S := g :: S) ?_ (fun s hs => List.mem_cons_of_mem _ hs)
      refine Mo.put (x := ⟨⟨xm.m.Ev, xm.m.Ey, xm.m.Co, xm.m.Ce, true⟩, xm.B, xm.c⟩) ?_ (List.getElem?_set_self hla) rfl rfl rfl
      refine Mo.put (x := xm) ?_ HXM.out rfl rfl rfl
      exact Mo.gb HMO.out List.mem_cons_self (GB.drew (GB.below HGN.out (below_set5 (Below.refl w.heap.size wc) hQw _ _ _ _ _)))
  · exact GB.drew (GB.below HGN.out (below_set5 (Below.refl w.heap.size wc) hQw _ _ _ _ _))
set_option maxRecDepth 100000 in
set_option maxHeartbeats 16000000 in
open Go.Maps in
theorem cmd41_run6 (A : Option Addr) (n c : Nat) (A2 : Option Addr) (n2 c2 : Nat) (Ac Pe : Int) (A3 : Option Addr) (m c3 : Nat) (R W : List Int) (ch : List (Int × Int)) (mm c4 : Nat) (b o c5 : Nat) (S : List Nat) (g B0 : Nat) (l : List MV) (a : Nat) (w : World) (h0 : w.cell? ⟨b, o, none⟩ = some (.int .u8 6)) (hbl : b < w.heap.size) (hc5 : 2 ≤ c5) (h1 : w.cell? ⟨b, o + 1, none⟩ = some (.int .u8 (a : Int))) (x1 : a ≤ 255) (hx : a < mm) (ho : w.ownsRow B0 66 5 (.slice (some ⟨g, 0, none⟩) mm c4) mm (flatM l)) (hgw : g < w.heap.size) (hlm : l.length = mm) (hmo : Mo (g :: S) w l) (hgS : g ∉ S) (hSw : ∀ s ∈ S, s < w.heap.size) (hbg : b ≠ g) : Calls Try.prog 41 #[.agg #[.slice A n c, .slice A2 n2 c2, .int .i64 Ac, .int .i64 Pe, .slice A3 m c3], .slice (some ⟨g, 0, none⟩) mm c4, .slice (some ⟨b, o, none⟩) 2 c5] w (fun r w' => ∃ A5 c5', r = .returned (.tuple #[.agg #[.slice A n c, .slice A2 n2 c2, .int .i64 Ac, .int .i64 Pe, .slice A3 m c3], .slice A5 ((l.map MV.m).set a (runS ((l.map MV.m).getD a ⟨0, 0, 0, [], false⟩) false)).length c5', .slice none 0 0, .int .i64 0]) ∧ LO S w' A5 ((l.map MV.m).set a (runS ((l.map MV.m).getD a ⟨0, 0, 0, [], false⟩) false)) c5' ∧ w.grownBy w' (some g)) := by
  obtain ⟨hla, xm, hxm⟩ : a < l.length ∧ ∃ xm, l[a]? = some xm := by
    have h : a < l.length := by omega
    exact ⟨h, _, List.getElem?_eq_getElem h⟩
  have hga : a * 5 + 4 < mm * 5 := by omega
  have CG := own_cl ho (by omega)
  obtain ⟨r4, e4⟩ := CG.2 (a * 5 + 4) _ ((flatM_get l a xm hxm 4 (by omega)).trans rfl)
  obtain ⟨r2, e2⟩ := CG.2 (a * 5 + 2) _ ((flatM_get l a xm hxm 2 (by omega)).trans rfl)
  have HR4 := Lib.hid r4
  have HE4 := Lib.hid e4
  have HR2 := Lib.hid r2
  have HE2 := Lib.hid e2
  have HO := Lib.hid ho
  have HXM := Lib.hid hxm
  have HMO := Lib.hid hmo
  have HSW := Lib.hid hSw
  have HLM := Lib.hid hlm
  clear CG r4 e4 r2 e2 ho hlm hmo hSw hxm
  have hmm := @run_makeMap Try.prog
  go_enter Try.func41, Try.ntmps41
  go_upto_region 2 with fail
  obtain ⟨w8, hw8⟩ : ∃ wx, wx = ((w.alloc (.cells #[.slice A n c, .slice A2 n2 c2, .int .i64 Ac, .int .i64 Pe, .slice A3 m c3] 25)).alloc (.cells #[.slice (some ⟨g, 0, none⟩) mm c4] 45)).alloc (.cells #[.slice none 0 0, .slice none 0 0, .int .i64 0, .int .i64 0, .slice none 0 0] 25) := ⟨_, rfl⟩
  have G8 : Below w.heap.size w w8 := by rw [hw8]; go_grown
  have z8 : w8.heap.size = w.heap.size + 3 := by rw [hw8]; simp
  have CP : Cl w.heap.size w8 [.slice A n c, .slice A2 n2 c2, .int .i64 Ac, .int .i64 Pe, .slice A3 m c3] := by rw [hw8]; exact ((Cl.new (w := w) rfl [.slice A n c, .slice A2 n2 c2, .int .i64 Ac, .int .i64 Pe, .slice A3 m c3] 25).below ((Below.refl _ _).alloc (Nat.le_refl _) _)).below ((Below.refl _ _).alloc (Nat.le_refl _) _)
  have CM : Cl (w.heap.size + 1) w8 [.slice (some ⟨g, 0, none⟩) mm c4] := by rw [hw8]; exact (Cl.new (P := w.heap.size + 1) (by simp) [.slice (some ⟨g, 0, none⟩) mm c4] 45).below ((Below.refl _ _).alloc (Nat.le_refl _) _)
  have CQ : Cl (w.heap.size + 1 + 1) w8 [.slice none 0 0, .slice none 0 0, .int .i64 0, .int .i64 0, .slice none 0 0] := by rw [hw8]; exact Cl.new (by simp) [.slice none 0 0, .slice none 0 0, .int .i64 0, .int .i64 0, .slice none 0 0] 25
  rw [← hw8]
  have HZ8 := Lib.hid z8
  clear hw8 z8
  have hown0 := World.ownsMap_made (H := Unit) w8 Try.prog 5 (plainElem Try.prog 3)
  go_upto_region 3 with (first | (refine insert_own _ rfl _ _ _ 78 rfl 5 3 (int_keyed Try.underlying5) Try.underlying78 (plainElem Try.prog 3) _ 0 _ rfl hown0 (by unfold maxLen; omega) _ _ _ rfl rfl (keyOf_int_mk Try.underlying5 (a := 1) rfl) _ [] (plainElem_int Try.underlying3 (a := 3) rfl) ?_; intro m1 hown1 hgr1) | (refine insert_own _ rfl _ _ _ 78 rfl 5 3 (int_keyed Try.underlying5) Try.underlying78 (plainElem Try.prog 3) _ 1 _ rfl hown1 (by unfold maxLen; omega) _ _ _ rfl rfl (keyOf_int_mk Try.underlying5 (a := 2) rfl) _ [] (plainElem_int Try.underlying3 (a := 11) rfl) ?_; intro m2 hown2 hgr2) | (refine insert_own _ rfl _ _ _ 78 rfl 5 3 (int_keyed Try.underlying5) Try.underlying78 (plainElem Try.prog 3) _ 2 _ rfl hown2 (by unfold maxLen; omega) _ _ _ rfl rfl (keyOf_int_mk Try.underlying5 (a := 3) rfl) _ [] (plainElem_int Try.underlying3 (a := 2) rfl) ?_; intro m3 hown3 hgr3) | (refine insert_own _ rfl _ _ _ 78 rfl 5 3 (int_keyed Try.underlying5) Try.underlying78 (plainElem Try.prog 3) _ 3 _ rfl hown3 (by unfold maxLen; omega) _ _ _ rfl rfl (keyOf_int_mk Try.underlying5 (a := 5) rfl) _ [] (plainElem_int Try.underlying3 (a := 2) rfl) ?_; intro m4 hown4 hgr4) | (refine insert_own _ rfl _ _ _ 78 rfl 5 3 (int_keyed Try.underlying5) Try.underlying78 (plainElem Try.prog 3) _ 4 _ rfl hown4 (by unfold maxLen; omega) _ _ _ rfl rfl (keyOf_int_mk Try.underlying5 (a := 6) rfl) _ [] (plainElem_int Try.underlying3 (a := 2) rfl) ?_; intro m5 hown5 hgr5))
  have g0 : Below w8.heap.size w8 (w8.alloc (.map #[] 0)) := (Below.refl _ _).alloc (Nat.le_refl _) _
  have hBg : ∀ k, some w8.heap.size = some k → w8.heap.size ≤ k := fun k e => by injection e with e; omega
  have g1 := g0.grown hgr1 g0.size hBg
  have g2 := g1.grown hgr2 g1.size hBg
  have g3 := g2.grown hgr3 g2.size hBg
  have g4 := g3.grown hgr4 g3.size hBg
  have g5 := g4.grown hgr5 g4.size hBg
  have s1 : m5.cell? ⟨b, o, none⟩ = some (.int .u8 6) := ((bcell (chain G8 g5)).1 b o hbl).trans h0
  have HP5 := Lib.hid (CP.below g5)
  have HM5 := Lib.hid (CM.below g5)
  have HQ5 := Lib.hid (CQ.below g5)
  have HG5 := Lib.hid (chain G8 g5)
  have hb5 : b < m5.heap.size := by have := g5.size; have := HZ8.out; omega
  clear hown0 hown1 hown2 hown3 hown4 hgr1 hgr2 hgr3 hgr4 hgr5 g0 g1 g2 g3 g4 g5 hBg CP CM CQ G8 h0
  go_upto_region 4 with (first | (at_lookup; refine wpList_lookup_own_ok_int _ rfl _ _ 78 rfl 5 3 .i64 (int_keyed Try.underlying5) Try.underlying78 Try.underlying3 (by kernel_rfl) _ 5 _ rfl hown5 _ _ rfl (keyOf_int_mk Try.underlying5 (a := 6) rfl) ?_; intro c0 hat hwc))
  have hc03 : c0 = 2 := by
    have e : (DataW.lit (Lit.int .i64 2) : DataW Unit) = .lit (.int .i64 c0) := hat
    injection e with e; injection e with _ e; exact e.symm
  subst hc03
  rw [show Maps.has ((((((DataW.map [] : DataW Unit).put (.int .u8 1) (.lit (.int .i64 3))).put (.int .u8 2) (.lit (.int .i64 11))).put (.int .u8 3) (.lit (.int .i64 2))).put (.int .u8 5) (.lit (.int .i64 2))).put (.int .u8 6) (.lit (.int .i64 2))) (Lit.int .u8 6) = true from by kernel_rfl]
  clear hat hwc hown5
  have s2 : m5.cell? ⟨b, o + 1, none⟩ = some (.int .u8 (a : Int)) := ((bcell HG5.out).1 b _ hbl).trans h1
  clear h1
  have hr4 : m5.cell? ⟨g, a * 5 + 4, none⟩ = _ := ((bcell HG5.out).1 g _ hgw).trans HR4.out
  have he4 : m5.frozen? ⟨g, a * 5 + 4, none⟩ = _ := ((bcell HG5.out).2 g _ hgw).trans HE4.out
  have hr2 : m5.cell? ⟨g, a * 5 + 2, none⟩ = _ := ((bcell HG5.out).1 g _ hgw).trans HR2.out
  have he2 : m5.frozen? ⟨g, a * 5 + 2, none⟩ = _ := ((bcell HG5.out).2 g _ hgw).trans HE2.out
  clear HR4 HE4 HR2 HE2
  have d1 : decide ((mm : Int) ≤ (a : Int)) = false := by simp; omega
  have pm := HM5.out.c 0 rfl
  go_upto_region 45 with fail
  have hMl : w.heap.size + 1 < m5.heap.size := HM5.out.1
  have nMg : w.heap.size + 1 ≠ g := by omega
  have hgm : g < m5.heap.size := by have := HG5.out.size; omega
  have ham : (a : Int) < (mm : Int) := by omega
  refine region_K (fun W' => (∀ b o, b < m5.heap.size → b ≠ g → W'.cell? ⟨b, o, none⟩ = m5.cell? ⟨b, o, none⟩) ∧ True) 13 (by kernel_rfl) (⟨fun b o _ _ => rfl, trivial⟩) (fun hHeld => ?_)
  refine K_take' (i := 1) (v := ?_) rfl (by kernel_rfl) (by kernel_rfl) (by kernel_rfl) (by kernel_rfl) (fun _ _ _ h => h) (Or.inl ⟨by kernel_rfl, ?_⟩) hHeld ?_
  rotate_left 1
  · intro W8 hSw
    clear hSw
    go_simp
    all_goals with_reducible rfl
  try simp only [Act.put, List.setIfInBounds_toArray, List.set_cons_zero, List.set_cons_succ]
  refine K_take' (i := 3) (v := ?_) rfl (by kernel_rfl) (by kernel_rfl) (by kernel_rfl) (by kernel_rfl) (fun _ _ _ h => h) (Or.inl ⟨by kernel_rfl, ?_⟩) hHeld ?_
  rotate_left 1
  · intro W8 hSw
    clear hSw
    go_simp
    all_goals with_reducible rfl
  try simp only [Act.put, List.setIfInBounds_toArray, List.set_cons_zero, List.set_cons_succ]
  refine K_take' (i := 4) (v := ?_) rfl (by kernel_rfl) (by kernel_rfl) (by kernel_rfl) (by kernel_rfl) (fun _ _ _ h => h) (Or.inl ⟨by kernel_rfl, ?_⟩) hHeld ?_
  rotate_left 1
  · intro W8 hSw
    clear hSw
    go_simp
    all_goals with_reducible rfl
  try simp only [Act.put, List.setIfInBounds_toArray, List.set_cons_zero, List.set_cons_succ]
  refine K_take (i := 0) (v := ?_) rfl (by kernel_rfl) (by kernel_rfl) (by kernel_rfl) (by kernel_rfl) (by kernel_rfl) (fun _ _ _ h => h) (Or.inl ⟨by kernel_rfl, ?_⟩) hHeld ?_
  rotate_left 1
  · intro W8 hSw
    (try dsimp only at hSw)
    go_simp
    all_goals with_reducible rfl
  try simp only [Act.put, List.setIfInBounds_toArray, List.set_cons_zero, List.set_cons_succ]
  refine K_take (i := 2) (v := ?_) rfl (by kernel_rfl) (by kernel_rfl) (by kernel_rfl) (by kernel_rfl) (by kernel_rfl) (fun _ _ _ h => h) (Or.inl ⟨by kernel_rfl, ?_⟩) hHeld ?_
  rotate_left 1
  · intro W8 hSw
    (try dsimp only at hSw)
    go_simp
    all_goals with_reducible rfl
  try simp only [Act.put, List.setIfInBounds_toArray, List.set_cons_zero, List.set_cons_succ]
  refine K_take' (i := 5) (v := ?_) rfl (by kernel_rfl) (by kernel_rfl) (by kernel_rfl) (by kernel_rfl) (fun _ _ _ h => h) (Or.inl ⟨by kernel_rfl, ?_⟩) hHeld ?_
  rotate_left 1
  · intro W8 hSw
    clear hSw
    go_simp
    all_goals with_reducible rfl
  try simp only [Act.put, List.setIfInBounds_toArray, List.set_cons_zero, List.set_cons_succ]
  refine K_take (i := 6) (v := ?_) rfl (by kernel_rfl) (by kernel_rfl) (by kernel_rfl) (by kernel_rfl) (by kernel_rfl) (fun _ _ _ h => h) (Or.inl ⟨by kernel_rfl, ?_⟩) hHeld ?_
  rotate_left 1
  · intro W8 hSw
    (try dsimp only at hSw)
    go_simp
    all_goals with_reducible rfl
  try simp only [Act.put, List.setIfInBounds_toArray, List.set_cons_zero, List.set_cons_succ]
  refine K_take' (i := 7) (v := ?_) rfl (by kernel_rfl) (by kernel_rfl) (by kernel_rfl) (by kernel_rfl) (fun _ _ _ h => h) (Or.inl ⟨by kernel_rfl, ?_⟩) hHeld ?_
  rotate_left 1
  · intro W8 hSw
    clear hSw
    go_simp
    all_goals with_reducible rfl
  try simp only [Act.put, List.setIfInBounds_toArray, List.set_cons_zero, List.set_cons_succ]
  refine K_take' (i := 8) (v := ?_) rfl (by kernel_rfl) (by kernel_rfl) (by kernel_rfl) (by kernel_rfl) (fun _ _ _ h => h) (Or.inl ⟨by kernel_rfl, ?_⟩) hHeld ?_
  rotate_left 1
  · intro W8 hSw
    clear hSw
    go_simp
    all_goals with_reducible rfl
  try simp only [Act.put, List.setIfInBounds_toArray, List.set_cons_zero, List.set_cons_succ]
  refine K_take' (i := 9) (v := ?_) rfl (by kernel_rfl) (by kernel_rfl) (by kernel_rfl) (by kernel_rfl) (fun _ _ _ h => h) (Or.inl ⟨by kernel_rfl, ?_⟩) hHeld ?_
  rotate_left 1
  · intro W8 hSw
    clear hSw
    go_simp
    all_goals with_reducible rfl
  try simp only [Act.put, List.setIfInBounds_toArray, List.set_cons_zero, List.set_cons_succ]
  refine K_step' (i := 10) (by kernel_rfl) rfl (fun K hK => ?_)
  go_simp
  refine hK.out _ _ ⟨fun b o hb hne => (drew_cell _ _).trans (World.cell?_setCell_far _ _ _ _ (Ne.symm hne)), trivial⟩ (fun hH2 => ?_)
  clear hK K
  try simp only [Act.put, List.setIfInBounds_toArray, List.set_cons_zero, List.set_cons_succ]
  obtain ⟨u, hu⟩ : ∃ u, u = m5.setCell ⟨g, a * 5 + 4, none⟩ (.bool false) := ⟨_, rfl⟩
  have hr2' : u.cell? ⟨g, a * 5 + 2, none⟩ = some (.int .i64 xm.m.Co) := by rw [hu]; exact (World.cell?_setCell_other _ _ _ _ (by intro q; injection q with _ q; omega)).trans hr2
  have he2' : u.frozen? ⟨g, a * 5 + 2, none⟩ = false := by rw [hu, World.frozen?_setCell]; exact he2
  have hou : u.ownsRow B0 66 5 (.slice (some ⟨g, 0, none⟩) mm c4) mm (flatM (l.set a ⟨⟨xm.m.Ev, xm.m.Ey, xm.m.Co, xm.m.Ce, false⟩, xm.B, xm.c⟩)) := by
    rw [hu, ← flatM_set l a xm ⟨⟨xm.m.Ev, xm.m.Ey, xm.m.Co, xm.m.Ce, false⟩, xm.B, xm.c⟩ 4 (.bool false) HXM.out (by omega) rfl]
    exact own_put (own_mb HO.out HG5.out hgw) (by omega) _
  have hgu : m5.grownBy u (some g) := by rw [hu]; exact GB.set (GB.refl _ _) _ _
  rw [← hu] at hH2
  rw [← hu]
  clear hu hr2 he2 hr4 he4
  refine K_take' (i := 11) (v := ?_) rfl (by kernel_rfl) (by kernel_rfl) (by kernel_rfl) (by kernel_rfl) (fun _ _ _ h => h) (Or.inl ⟨by kernel_rfl, ?_⟩) hH2 ?_
  rotate_left 1
  · intro W8 hSw
    clear hSw
    go_simp
    all_goals with_reducible rfl
  try simp only [Act.put, List.setIfInBounds_toArray, List.set_cons_zero, List.set_cons_succ]
  refine K_take' (i := 12) (v := ?_) rfl (by kernel_rfl) (by kernel_rfl) (by kernel_rfl) (by kernel_rfl) (fun _ _ _ h => h) (Or.inl ⟨by kernel_rfl, ?_⟩) hH2 ?_
  rotate_left 1
  · intro W8 hSw
    clear hSw
    go_simp
    all_goals with_reducible rfl
  try simp only [Act.put, List.setIfInBounds_toArray, List.set_cons_zero, List.set_cons_succ]
  refine K_step (by kernel_rfl) (by kernel_rfl) rfl (fun K hK => ?_)
  go_simp
  refine hK.out _ _ ?_
  clear hK K
  try simp only [Act.put, List.setIfInBounds_toArray, List.set_cons_zero, List.set_cons_succ]
  refine wpAny_done (by kernel_rfl) ?_ _
  obtain ⟨wc, hwc⟩ : ∃ wc, wc = (u.setCell ⟨g, a * 5 + 2, none⟩ (.int .i64 0)).drew := ⟨_, rfl⟩
  have GBc : m5.grownBy wc (some g) := by rw [hwc]; exact GB.drew (GB.set hgu _ _)
  have hoc : wc.ownsRow B0 66 5 (.slice (some ⟨g, 0, none⟩) mm c4) mm (flatM ((l.set a ⟨⟨xm.m.Ev, xm.m.Ey, xm.m.Co, xm.m.Ce, false⟩, xm.B, xm.c⟩).set a ⟨⟨xm.m.Ev, xm.m.Ey, 0, xm.m.Ce, false⟩, xm.B, xm.c⟩)) := by
    rw [hwc, ← flatM_set (l.set a ⟨⟨xm.m.Ev, xm.m.Ey, xm.m.Co, xm.m.Ce, false⟩, xm.B, xm.c⟩) a ⟨⟨xm.m.Ev, xm.m.Ey, xm.m.Co, xm.m.Ce, false⟩, xm.B, xm.c⟩ ⟨⟨xm.m.Ev, xm.m.Ey, 0, xm.m.Ce, false⟩, xm.B, xm.c⟩ 2 (.int .i64 0) (by simp [hla]) (by omega) rfl]
    exact own_below (own_put hou (by omega) _) ((Below.refl _ _).drew)
  rw [← hwc]
  have hgP : some w.heap.size ≠ some g := fun e => by injection e with e; omega
  have hgM : some (w.heap.size + 1) ≠ some g := fun e => by injection e with e; omega
  have hgQ : some (w.heap.size + 1 + 1) ≠ some g := fun e => by injection e with e; omega
  have HPN := Lib.hid (Cl.gb GBc HP5.out hgP)
  have HMN := Lib.hid (Cl.gb GBc HM5.out hgM)
  have HQN := Lib.hid (Cl.gb GBc HQ5.out hgQ)
  have HGN := Lib.hid (GB.trans (GB.of (g := some g) HG5.out) GBc)
  have HOC := Lib.hid hoc
  have hcap : mm ≤ c4 := by
    obtain ⟨_, _, hv, _, _, h, _⟩ := own_form hoc (by omega)
    injection hv with _ _ hv; omega
  clear hwc GBc hoc hou hgu hgP hgM hgQ HP5 HM5 HQ5 HG5 HO pm hr2' he2' hH2 hHeld d1 nMg ham
  go_upto_region 46 with fail
  obtain ⟨Q, hQ⟩ : ∃ Q, Q = w.heap.size + 1 + 1 := ⟨_, rfl⟩
  rw [← hQ] at HQN
  rw [← hQ]
  have hQw : w.heap.size ≤ Q := by omega
  have nPQ : w.heap.size ≠ Q := by omega
  have nMQ : w.heap.size + 1 ≠ Q := by omega
  clear hQ
  have t0 := HPN.out.c 0 rfl
  have t1 := HPN.out.c 1 rfl
  have t2 := HPN.out.c 2 rfl
  have t3 := HPN.out.c 3 rfl
  have t4 := HPN.out.c 4 rfl
  have pm := HMN.out.c 0 rfl
  have q0 := HQN.out.c 0 rfl
  have q1 := HQN.out.c 1 rfl
  have q2 := HQN.out.c 2 rfl
  have q3 := HQN.out.c 3 rfl
  have q4 := HQN.out.c 4 rfl
  have f0 := HQN.out.f 0 rfl
  have f1 := HQN.out.f 1 rfl
  have f2 := HQN.out.f 2 rfl
  have f3 := HQN.out.f 3 rfl
  have f4 := HQN.out.f 4 rfl
  have zt := HPN.out.1
  have zm := HMN.out.1
  have zq := HQN.out.1
  refine region_K (fun W' => (∀ b o, b < wc.heap.size → b ≠ Q → W'.cell? ⟨b, o, none⟩ = wc.cell? ⟨b, o, none⟩) ∧ True) 3 (by kernel_rfl) (⟨fun b o _ _ => rfl, trivial⟩) (fun hHeld => ?_)
  refine K_take (i := 0) (v := ?_) rfl (by kernel_rfl) (by kernel_rfl) (by kernel_rfl) (by kernel_rfl) (by kernel_rfl) (fun _ _ _ h => h) (Or.inl ⟨by kernel_rfl, ?_⟩) hHeld ?_
  rotate_left 1
  · intro W8 hSw
    (try dsimp only at hSw)
    go_simp
    all_goals with_reducible rfl
  try simp only [Act.put, List.setIfInBounds_toArray, List.set_cons_zero, List.set_cons_succ]
  refine K_take (i := 1) (v := ?_) rfl (by kernel_rfl) (by kernel_rfl) (by kernel_rfl) (by kernel_rfl) (by kernel_rfl) (fun _ _ _ h => h) (Or.inl ⟨by kernel_rfl, ?_⟩) hHeld ?_
  rotate_left 1
  · intro W8 hSw
    (try dsimp only at hSw)
    go_simp
    all_goals with_reducible rfl
  try simp only [Act.put, List.setIfInBounds_toArray, List.set_cons_zero, List.set_cons_succ]
  refine K_step' (i := 2) (by kernel_rfl) rfl (fun K hK => ?_)
  go_simp
  refine hK.out _ _ ⟨fun b o hb hne => cell_far5d (Ne.symm hne) _ _ _ _ _, trivial⟩ (fun hH3 => ?_)
  clear hK K
  try simp only [Act.put, List.setIfInBounds_toArray, List.set_cons_zero, List.set_cons_succ]
  refine K_step (by kernel_rfl) (by kernel_rfl) rfl (fun K hK => ?_)
  go_simp
  refine hK.out _ _ ?_
  clear hK K
  try simp only [Act.put, List.setIfInBounds_toArray, List.set_cons_zero, List.set_cons_succ]
  refine wpAny_ready (rs := [4]) (by kernel_rfl) (by simp) (AllReady.cons rfl (fun K hK => ?_) AllReady.nil)
  go_simp
  refine hK _ _ ?_
  clear hK K
  try simp only [Act.put, List.setIfInBounds_toArray, List.set_cons_zero, List.set_cons_succ]
  refine wpAny_ready (rs := [5]) (by kernel_rfl) (by simp) (AllReady.cons rfl (fun K hK => ?_) AllReady.nil)
  go_simp
  refine hK _ _ ?_
  clear hK K
  try simp only [Act.put, List.setIfInBounds_toArray, List.set_cons_zero, List.set_cons_succ]
  refine wpAny_done (by kernel_rfl) ?_ _
  clear t0 t1 t2 t3 t4 pm zt zm HMN HPN hHeld hH3
  go_wp2_with fail
  refine bodyPost_ret (v := .tuple #[.agg #[.slice A n c, .slice A2 n2 c2, .int .i64 Ac, .int .i64 Pe, .slice A3 m c3], .slice (some ⟨g, 0, none⟩) mm c4, .slice none 0 0, .int .i64 0]) (by simp [results, Try.results41, go_sem, q0, f0, q1, f1, q2, f2, q3, f3, q4, f4, zq] <;> first | rfl | ((repeat' apply And.intro) <;> rfl)) rfl ⟨some ⟨g, 0, none⟩, c4, (by rw [List.length_set, List.length_map, HLM.out]), ?_, ?_⟩
  · refine ⟨_, ?_, ?_, own_cvB HOC.out hgw (below_set5 (Below.refl w.heap.size wc) hQw _ _ _ _ _).drew, ?_, ?_⟩
    · rw [map_set_m, map_set_m, List.set_set]
      have hxx : (l.map MV.m).getD a ⟨0, 0, 0, [], false⟩ = xm.m := by simp [List.getD, HXM.out]
      rw [hxx]; rfl
    · rw [List.length_set, List.length_map, HLM.out]; exact hcap
    · intro _ b o e hb
      injection e with e; injection e with e _
      subst e; exact hgS hb
    · refine Mo.sub (S := g :: S) ?_ (fun s hs => List.mem_cons_of_mem _ hs)
      refine Mo.put (x := ⟨⟨xm.m.Ev, xm.m.Ey, xm.m.Co, xm.m.Ce, false⟩, xm.B, xm.c⟩) ?_ (List.getElem?_set_self hla) rfl rfl rfl
      refine Mo.put (x := xm) ?_ HXM.out rfl rfl rfl
      exact Mo.gb HMO.out List.mem_cons_self (GB.drew (GB.below HGN.out (below_set5 (Below.refl w.heap.size wc) hQw _ _ _ _ _)))
  · exact GB.drew (GB.below HGN.out (below_set5 (Below.refl w.heap.size wc) hQw _ _ _ _ _))
end Go.Proofs.Ytamajedopofcoaa
