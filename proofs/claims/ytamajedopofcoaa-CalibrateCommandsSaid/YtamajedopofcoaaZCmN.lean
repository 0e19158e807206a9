/-
  The contract of command for the command that sets a measure. No condition but the row's shape.
-/
import Derived.Test.YtamajedopofcoaaZCmM
import Derived.Test.YtamajedopofcoaaZRd
set_option linter.unusedVariables false
set_option linter.unusedSimpArgs false
namespace Go.Proofs.Ytamajedopofcoaa
open Go.RowKit
theorem own_put5 {w : World} {B g n cap : Nat} {l : List MV} (h : w.ownsRow B 66 5 (.slice (some ⟨g, 0, none⟩) n cap) n (flatM l)) {a : Nat} {x : MV} (hx : l[a]? = some x) (ha : a < n) (hl : a < l.length) (y : MV) (k : Nat) (hk : y.m.Ce.length = k) :
    (((((w.setCell ⟨g, a * 5, none⟩ (.int .i64 y.m.Ev)).setCell ⟨g, a * 5 + 1, none⟩ (.int .i64 y.m.Ey)).setCell ⟨g, a * 5 + 2, none⟩ (.int .i64 y.m.Co)).setCell ⟨g, a * 5 + 3, none⟩ (.slice y.B k y.c)).setCell ⟨g, a * 5 + 4, none⟩ (.bool y.m.Ru)).ownsRow B 66 5 (.slice (some ⟨g, 0, none⟩) n cap) n (flatM (l.set a y)) := by
  subst hk
  have h0 := own_put h (i := a * 5 + 0) (by omega) (.int .i64 y.m.Ev)
  rw [flatM_set l a x ⟨⟨y.m.Ev, x.m.Ey, x.m.Co, x.m.Ce, x.m.Ru⟩, x.B, x.c⟩ 0 _ hx (by omega) rfl] at h0
  have h1 := own_put h0 (i := a * 5 + 1) (by omega) (.int .i64 y.m.Ey)
  rw [flatM_set _ a ⟨⟨y.m.Ev, x.m.Ey, x.m.Co, x.m.Ce, x.m.Ru⟩, x.B, x.c⟩ ⟨⟨y.m.Ev, y.m.Ey, x.m.Co, x.m.Ce, x.m.Ru⟩, x.B, x.c⟩ 1 _ (List.getElem?_set_self hl) (by omega) rfl, List.set_set] at h1
  have h2 := own_put h1 (i := a * 5 + 2) (by omega) (.int .i64 y.m.Co)
  rw [flatM_set _ a ⟨⟨y.m.Ev, y.m.Ey, x.m.Co, x.m.Ce, x.m.Ru⟩, x.B, x.c⟩ ⟨⟨y.m.Ev, y.m.Ey, y.m.Co, x.m.Ce, x.m.Ru⟩, x.B, x.c⟩ 2 _ (List.getElem?_set_self hl) (by omega) rfl, List.set_set] at h2
  have h3 := own_put h2 (i := a * 5 + 3) (by omega) (.slice y.B y.m.Ce.length y.c)
  rw [flatM_set _ a ⟨⟨y.m.Ev, y.m.Ey, y.m.Co, x.m.Ce, x.m.Ru⟩, x.B, x.c⟩ ⟨⟨y.m.Ev, y.m.Ey, y.m.Co, y.m.Ce, x.m.Ru⟩, y.B, y.c⟩ 3 _ (List.getElem?_set_self hl) (by omega) rfl, List.set_set] at h3
  have h4 := own_put h3 (i := a * 5 + 4) (by omega) (.bool y.m.Ru)
  rw [flatM_set _ a ⟨⟨y.m.Ev, y.m.Ey, y.m.Co, y.m.Ce, x.m.Ru⟩, y.B, y.c⟩ y 4 _ (List.getElem?_set_self hl) (by omega) rfl, List.set_set] at h4
  exact h4
theorem GB.weak {w w1 : World} {r G : Option Nat} (h : w.grownBy w1 r) (hr : r = none ∨ r = G) : w.grownBy w1 G := by
  rcases hr with rfl | rfl
  · exact ⟨h.os, h.tape, h.output, h.size, fun i hi _ => h.block i hi (by simp)⟩
  · exact h
theorem Mo.gbo {S : List Nat} {w w1 : World} {G : Option Nat} {l : List MV} (h : Mo (G.toList ++ S) w l) (hb : w.grownBy w1 G) : Mo S w1 l := fun x hx =>
  ⟨(h x hx).1, (h x hx).2.1.gb hb (fun h0 b o e he => (h x hx).2.2 h0 b o e (List.mem_append_left _ (by rw [← he]; simp))), fun h0 b o e hs => (h x hx).2.2 h0 b o e (List.mem_append_right _ hs)⟩
theorem Cv.far5 {w : World} {A : Option Addr} {vs : List Value} (h : Cv w A vs) {P : Nat} (hne : ∀ b o, A = some ⟨b, o, none⟩ → P ≠ b) (v0 v1 v2 v3 v4 : Value) : Cv (((((w.setCell ⟨P, 0, none⟩ v0).setCell ⟨P, 1, none⟩ v1).setCell ⟨P, 2, none⟩ v2).setCell ⟨P, 3, none⟩ v3).setCell ⟨P, 4, none⟩ v4) A vs := fun h0 => by
  obtain ⟨b, o, e, hl, hc⟩ := h h0
  exact ⟨b, o, e, by simpa using hl, fun i v hv => (cell_far5 (hne b o e) _ _ _ _ _).trans (hc i v hv)⟩
/-- the cells that a command names -/
def celsM (bs : List Int) (z : Nat) : List Int := (List.range z).map fun i => bs.getD (6 + 2 * i) 0 * 256 + bs.getD (7 + 2 * i) 0
theorem celsM_len (bs : List Int) (z : Nat) : (celsM bs z).length = z := by simp [celsM]
theorem celsM_take {bs : List Int} {z k : Nat} (h : k < z) : (celsM bs z).take (k + 1) = (celsM bs z).take k ++ [bs.getD (6 + 2 * k) 0 * 256 + bs.getD (7 + 2 * k) 0] := by
  rw [List.take_add_one, List.getElem?_eq_getElem (by rw [celsM_len]; exact h)]
  simp [celsM]
/-- what a command that sets a measure answers -/
def meaM (ms : List MS) (k : Int) (x : MS) : List MS × Int :=
  if (ms.length : Int) < k ∨ 8 ≤ k then (ms, 2) else if mvB x = false then (ms, 1) else if k = (ms.length : Int) then (ms ++ [x], 0) else (ms.set k.toNat x, 0)
theorem byte_at {w : World} {b o : Nat} {bs : List Int} (hB : Ik .u8 w (some ⟨b, o, none⟩) bs) (hr : ∀ x ∈ bs, 0 ≤ x ∧ x ≤ 255) {i : Nat} (hi : i < bs.length) : w.cell? ⟨b, o + i, none⟩ = some (.int .u8 (bs.getD i 0)) ∧ 0 ≤ bs.getD i 0 ∧ bs.getD i 0 ≤ 255 := by
  have e : bs.getD i 0 = bs[i] := by simp [List.getD, List.getElem?_eq_getElem hi]
  refine ⟨(hB.at i hi).1, ?_⟩
  rw [e]; exact hr _ (List.getElem_mem hi)
/-- append of numbers in a drawn region: the row stays the call's own -/
theorem step_io {ops : Array Oper} {o : Oper} {a : Act} {K : Act → World → Prop} {Q : Exit → Act → World → Prop} {E : Prop} {w : World} (hgd : o.guard = none) (s x : Operand)
    (ho : o.op = .call { callee := .builtin .append, args := #[s, x], argTypes := #[22, 22] }) (base n : Nat) (v : Value) (l : List Int) (hs : a.eval s = v) (hown : w.ownsRow base 3 1 v n (l.map (Value.int .i64)))
    (b q m c : Nat) (l2 : List Int) (hx : a.eval x = .slice (some ⟨b, q, none⟩) m c) (hl2 : l2.length = m) (hb : Ik .i64 w (some ⟨b, q, none⟩) l2) (hm : 0 < m) (hsm : n + m ≤ 1000000) (hbase : base ≤ w.heap.size) (d : Nat) (hd : n + m = d)
    (h : ∀ g cap w', g < w'.heap.size → d ≤ cap → w'.ownsRow base 3 1 (.slice (some ⟨g, 0, none⟩) d cap) d ((l ++ l2).map (Value.int .i64)) → Below base w w' → K (a.put o.dst (.slice (some ⟨g, 0, none⟩) d cap)) w') :
    if Region.wanted o (yielded ops a.tmps) = true then Oper.wp Try.prog o a w K Q else E := by
  subst hd
  obtain ⟨i0, hi, hz0, hz1, hz2⟩ := info_parts info3
  refine step_append_lies w hgd s x 22 ho base 3 i0 (.int .i64 0) 1 8 Try.underlying22 hi hz0 hz1 hz2 rfl (by decide) v n (l.map (Value.int .i64)) hs hown ⟨b, q, none⟩ m c (l2.map (Value.int .i64)) hx (by simp [hl2]) hb.news (one_int _ _) hm (by unfold maxLen; omega) (by omega) hbase w.heap.size rfl ?_
  intro g cap w' h1 h2 _ h4
  rw [← List.map_append] at h1
  obtain ⟨A, c', hv, hc', _, _, _, _⟩ := own_it h1
  injection hv with hv1 _ hv2
  subst hv2
  exact h g cap w' h4 hc' h1 (grown_below hown h2 hbase)
theorem KpB.mk {B : Nat} {w8 W : World} (h : Below B w8 W) : (∀ b o, b < B → W.cell? ⟨b, o, none⟩ = w8.cell? ⟨b, o, none⟩) ∧ Below B w8 W := ⟨fun b o hb => h.cell (p := ⟨b, o, none⟩) hb, h⟩
theorem Ik.of_own {w : World} {B n : Nat} {e : TypeId} {A : Option Addr} {c : Nat} {l : List Int} (h : w.ownsRow B e 1 (.slice A n c) n (l.map (Value.int .i64))) : Ik .i64 w A l ∧ Fr B A := by
  obtain ⟨A', c', hv, _, _, hi, hf, _⟩ := own_it h
  injection hv with hv
  subst hv
  exact ⟨hi, hf⟩
set_option maxRecDepth 100000 in
set_option maxHeartbeats 16000000 in
open Go.Maps in
theorem cmd41_meas (A : Option Addr) (n c : Nat) (A2 : Option Addr) (n2 c2 : Nat) (Ac Pe : Int) (A3 : Option Addr) (m c3 : Nat) (R W : List Int) (ch : List (Int × Int)) (A4 : Option Addr) (mm c4 : Nat) (b o nb c5 : Nat) (S : List Nat) (G : Option Nat) (B0 : Nat) (l : List MV) (kk ev ey : Int) (z : Nat) (bs : List Int) (w : World) (hbs : bs.length = nb) (hB : Ik .u8 w (some ⟨b, o, none⟩) bs) (hr8 : ∀ x ∈ bs, 0 ≤ x ∧ x ≤ 255) (hbl : b < w.heap.size) (hc5 : nb ≤ c5) (e0 : bs.getD 0 0 = 4) (e1 : bs.getD 1 0 = kk) (e2 : bs.getD 2 0 = ev) (e3 : bs.getD 3 0 = (z : Int)) (e45 : bs.getD 4 0 * 256 + bs.getD 5 0 = ey) (hnz : nb = 6 + 2 * z) (hz : z ≤ 255) (ho : w.ownsRow B0 66 5 (.slice A4 mm c4) mm (flatM l)) (hA4 : ∀ b o, A4 = some ⟨b, o, none⟩ → some b = G) (hGw : ∀ g, G = some g → g < w.heap.size) (hlm : l.length = mm) (hmo : Mo (G.toList ++ S) w l) (hGS : ∀ g, G = some g → g ∉ S) (hSw : ∀ s ∈ S, s < w.heap.size) (hmm : mm ≤ 100) (hB0 : B0 ≤ w.heap.size) : Calls Try.prog 41 #[.agg #[.slice A n c, .slice A2 n2 c2, .int .i64 Ac, .int .i64 Pe, .slice A3 m c3], .slice A4 mm c4, .slice (some ⟨b, o, none⟩) nb c5] w (fun r w' => ((meaM (l.map MV.m) kk ⟨ev, ey, 0, celsM bs z, false⟩).2 ≠ 0 ∧ r = .returned (.tuple #[.agg #[.slice A n c, .slice A2 n2 c2, .int .i64 Ac, .int .i64 Pe, .slice A3 m c3], .slice A4 mm c4, .slice none 0 0, .int .i64 (meaM (l.map MV.m) kk ⟨ev, ey, 0, celsM bs z, false⟩).2]) ∧ w.grownBy w' G) ∨ ((meaM (l.map MV.m) kk ⟨ev, ey, 0, celsM bs z, false⟩).2 = 0 ∧ ∃ A5 c5', r = .returned (.tuple #[.agg #[.slice A n c, .slice A2 n2 c2, .int .i64 Ac, .int .i64 Pe, .slice A3 m c3], .slice A5 (meaM (l.map MV.m) kk ⟨ev, ey, 0, celsM bs z, false⟩).1.length c5', .slice none 0 0, .int .i64 0]) ∧ LO S w' A5 (meaM (l.map MV.m) kk ⟨ev, ey, 0, celsM bs z, false⟩).1 c5' ∧ w.grownBy w' G)) := by
  have hn6 : 6 ≤ nb := by omega
  have hpos : (0 : Int) < (nb : Int) := by omega
  obtain ⟨h0, _, _⟩ := byte_at hB hr8 (i := 0) (by omega)
  obtain ⟨h1, k0, k1⟩ := byte_at hB hr8 (i := 1) (by omega)
  obtain ⟨h2, v0, v1⟩ := byte_at hB hr8 (i := 2) (by omega)
  obtain ⟨h3, _, _⟩ := byte_at hB hr8 (i := 3) (by omega)
  obtain ⟨h4, y40, y41⟩ := byte_at hB hr8 (i := 4) (by omega)
  obtain ⟨h5, y50, y51⟩ := byte_at hB hr8 (i := 5) (by omega)
  rw [e0, Nat.add_zero] at h0
  rw [e1] at h1 k0 k1
  rw [e2] at h2 v0 v1
  rw [e3] at h3
  have KI4 := fun w h h' => index52 b (o + 4) (nb - 4) (c5 - 4) (bs.getD 4 0) (bs.getD 5 0) w (by omega) (by omega) h h' y40 y41 y50 y51
  rw [e45] at KI4
  replace KI4 := Lib.hid KI4
  have HH4 := Lib.hid h4
  have HH5 := Lib.hid h5
  have HBS := Lib.hid hbs
  have HBY := Lib.hid hB
  have HR8 := Lib.hid hr8
  have HNZ := Lib.hid hnz
  have hz1 : nb ≤ 6 + 2 * z := by omega
  have hz2 : 6 + 2 * z ≤ nb := by omega
  have HO := Lib.hid ho
  have HLM := Lib.hid hlm
  have HMO := Lib.hid hmo
  have HGS := Lib.hid hGS
  have HSW := Lib.hid hSw
  have HGW := Lib.hid hGw
  have HA4 := Lib.hid hA4
  have HWE := Lib.hid (show IntKind.i64.wrap ev = ev by rw [IntKind.wrap_i64]; omega)
  have d1 : decide ((nb : Int) < 6) = false := by simp; omega
  have d2 : decide ((nb : Int) = 6 + 2 * (z : Int)) = true := by simp; omega
  have d3 : ((nb : Int) == 6 + 2 * (z : Int)) = true := by simp; omega
  have d4 : ((nb : Int) != 6 + 2 * (z : Int)) = false := by simp; omega
  have d5 : (3 : Int) < (nb : Int) := by omega
  clear hbs hB hr8 e0 e1 e2 e3 e45 hnz ho hA4 hGw hlm hmo hGS hSw h4 h5 y40 y41 y50 y51
  have hmm := @run_makeMap Try.prog
  go_enter Try.func41, Try.ntmps41
  go_upto_region 2 with fail
  obtain ⟨w8, hw8⟩ : ∃ wx, wx = ((w.alloc (.cells #[.slice A n c, .slice A2 n2 c2, .int .i64 Ac, .int .i64 Pe, .slice A3 m c3] 25)).alloc (.cells #[.slice A4 mm c4] 45)).alloc (.cells #[.slice none 0 0, .slice none 0 0, .int .i64 0, .int .i64 0, .slice none 0 0] 25) := ⟨_, rfl⟩
  have G8 : Below w.heap.size w w8 := by rw [hw8]; go_grown
  have z8 : w8.heap.size = w.heap.size + 3 := by rw [hw8]; simp
  have CP : Cl w.heap.size w8 [.slice A n c, .slice A2 n2 c2, .int .i64 Ac, .int .i64 Pe, .slice A3 m c3] := by rw [hw8]; exact ((Cl.new (w := w) rfl [.slice A n c, .slice A2 n2 c2, .int .i64 Ac, .int .i64 Pe, .slice A3 m c3] 25).below ((Below.refl _ _).alloc (Nat.le_refl _) _)).below ((Below.refl _ _).alloc (Nat.le_refl _) _)
  have CM : Cl (w.heap.size + 1) w8 [.slice A4 mm c4] := by rw [hw8]; exact (Cl.new (P := w.heap.size + 1) (by simp) [.slice A4 mm c4] 45).below ((Below.refl _ _).alloc (Nat.le_refl _) _)
  have CQ : Cl (w.heap.size + 1 + 1) w8 [.slice none 0 0, .slice none 0 0, .int .i64 0, .int .i64 0, .slice none 0 0] := by rw [hw8]; exact Cl.new (by simp) [.slice none 0 0, .slice none 0 0, .int .i64 0, .int .i64 0, .slice none 0 0] 25
  rw [← hw8]
  have HZ8 := Lib.hid z8
  clear hw8 z8
  have hown0 := World.ownsMap_made (H := Unit) w8 Try.prog 5 (plainElem Try.prog 3)
  go_upto_region 3 with (first | (refine insert_own _ rfl _ _ _ 78 rfl 5 3 (int_keyed Try.underlying5) Try.underlying78 (plainElem Try.prog 3) _ 0 _ rfl hown0 (by unfold maxLen; omega) _ _ _ rfl rfl (keyOf_int_mk Try.underlying5 (a := 1) rfl) _ [] (plainElem_int Try.underlying3 (a := 3) rfl) ?_; intro m1 hown1 hgr1) | (refine insert_own _ rfl _ _ _ 78 rfl 5 3 (int_keyed Try.underlying5) Try.underlying78 (plainElem Try.prog 3) _ 1 _ rfl hown1 (by unfold maxLen; omega) _ _ _ rfl rfl (keyOf_int_mk Try.underlying5 (a := 2) rfl) _ [] (plainElem_int Try.underlying3 (a := 11) rfl) ?_; intro m2 hown2 hgr2) | (refine insert_own _ rfl _ _ _ 78 rfl 5 3 (int_keyed Try.underlying5) Try.underlying78 (plainElem Try.prog 3) _ 2 _ rfl hown2 (by unfold maxLen; omega) _ _ _ rfl rfl (keyOf_int_mk Try.underlying5 (a := 3) rfl) _ [] (plainElem_int Try.underlying3 (a := 2) rfl) ?_; intro m3 hown3 hgr3) | (refine insert_own _ rfl _ _ _ 78 rfl 5 3 (int_keyed Try.underlying5) Try.underlying78 (plainElem Try.prog 3) _ 3 _ rfl hown3 (by unfold maxLen; omega) _ _ _ rfl rfl (keyOf_int_mk Try.underlying5 (a := 5) rfl) _ [] (plainElem_int Try.underlying3 (a := 2) rfl) ?_; intro m4 hown4 hgr4) | (refine insert_own _ rfl _ _ _ 78 rfl 5 3 (int_keyed Try.underlying5) Try.underlying78 (plainElem Try.prog 3) _ 4 _ rfl hown4 (by unfold maxLen; omega) _ _ _ rfl rfl (keyOf_int_mk Try.underlying5 (a := 6) rfl) _ [] (plainElem_int Try.underlying3 (a := 2) rfl) ?_; intro m5 hown5 hgr5))
  have g0 : Below w8.heap.size w8 (w8.alloc (.map #[] 0)) := (Below.refl _ _).alloc (Nat.le_refl _) _
  have hBg : ∀ k, some w8.heap.size = some k → w8.heap.size ≤ k := fun k e => by injection e with e; omega
  have g1 := g0.grown hgr1 g0.size hBg
  have g2 := g1.grown hgr2 g1.size hBg
  have g3 := g2.grown hgr3 g2.size hBg
  have g4 := g3.grown hgr4 g3.size hBg
  have g5 := g4.grown hgr5 g4.size hBg
  have s1 : m5.cell? ⟨b, o, none⟩ = some (.int .u8 4) := ((bcell (chain G8 g5)).1 b o hbl).trans h0
  have HP5 := Lib.hid (CP.below g5)
  have HM5 := Lib.hid (CM.below g5)
  have HQ5 := Lib.hid (CQ.below g5)
  have HG5 := Lib.hid (chain G8 g5)
  have hb5 : b < m5.heap.size := by have := g5.size; have := HZ8.out; omega
  clear hown0 hown1 hown2 hown3 hown4 hgr1 hgr2 hgr3 hgr4 hgr5 g0 g1 g2 g3 g4 g5 hBg CP CM CQ G8 h0
  go_upto_region 4 with (first | (at_lookup; refine wpList_lookup_own_ok_int _ rfl _ _ 78 rfl 5 3 .i64 (int_keyed Try.underlying5) Try.underlying78 Try.underlying3 (by kernel_rfl) _ 5 _ rfl hown5 _ _ rfl (keyOf_int_mk Try.underlying5 (a := 4) rfl) ?_; intro c0 hat hwc))
  rw [show Maps.has ((((((DataW.map [] : DataW Unit).put (.int .u8 1) (.lit (.int .i64 3))).put (.int .u8 2) (.lit (.int .i64 11))).put (.int .u8 3) (.lit (.int .i64 2))).put (.int .u8 5) (.lit (.int .i64 2))).put (.int .u8 6) (.lit (.int .i64 2))) (Lit.int .u8 4) = false from by kernel_rfl]
  clear hat hwc hown5
  have s2 : m5.cell? ⟨b, o + 1, none⟩ = some (.int .u8 kk) := ((bcell HG5.out).1 b _ hbl).trans h1
  have s3 : m5.cell? ⟨b, o + 2, none⟩ = some (.int .u8 ev) := ((bcell HG5.out).1 b _ hbl).trans h2
  have s4 : m5.cell? ⟨b, o + 3, none⟩ = some (.int .u8 (z : Int)) := ((bcell HG5.out).1 b _ hbl).trans h3
  have HS5 := Lib.hid (((bcell HG5.out).1 b _ hbl).trans HH4.out)
  have HS6 := Lib.hid (((bcell HG5.out).1 b _ hbl).trans HH5.out)
  clear h1 h2 h3 HH4 HH5
  go_upto_region 26 with fail
  have hm3 : w.heap.size + 3 ≤ m5.heap.size := HQ5.out.1
  have f1' : (2 : Int) < (nb : Int) := by omega
  have f2' : (4 : Int) ≤ (nb : Int) := by omega
  have f3' : (4 : Int) ≤ (c5 : Int) := by omega
  have f4' : ¬ (c5 = 4) := by omega
  go_cut [21] from 146 to 153 (fun v21 wc => ∃ T : Nat, v21 = .pointer (some ⟨T, 0, none⟩) ∧ m5.heap.size ≤ T ∧ Cl T wc [.int .i64 ev, .int .i64 ey, .int .i64 0, .slice none 0 0, .bool false] ∧ Below m5.heap.size m5 wc)
  case first =>
    refine region_K (fun W' => (∀ b o, b < m5.heap.size → W'.cell? ⟨b, o, none⟩ = m5.cell? ⟨b, o, none⟩) ∧ Below m5.heap.size m5 W') 9 (by kernel_rfl) (Kp.mk (Below.refl _ _).drew) (fun hHeld => ?_)
    refine K_take' (i := 0) (v := ?_) rfl (by kernel_rfl) (by kernel_rfl) (by kernel_rfl) (by kernel_rfl) (fun _ _ _ h => h) (Or.inl ⟨by kernel_rfl, ?_⟩) hHeld ?_
    rotate_left 1
    · intro W8 hSw
      clear hSw
      go_simp
      all_goals with_reducible rfl
    try simp only [Act.put, List.setIfInBounds_toArray, List.set_cons_zero, List.set_cons_succ]
    refine K_take' (i := 4) (v := ?_) rfl (by kernel_rfl) (by kernel_rfl) (by kernel_rfl) (by kernel_rfl) (fun _ _ _ h => h) (Or.inl ⟨by kernel_rfl, ?_⟩) hHeld ?_
    rotate_left 1
    · intro W8 hSw
      clear hSw
      go_simp
      all_goals with_reducible rfl
    try simp only [Act.put, List.setIfInBounds_toArray, List.set_cons_zero, List.set_cons_succ]
    refine K_take' (i := 1) (v := ?_) rfl (by kernel_rfl) (by kernel_rfl) (by kernel_rfl) (by kernel_rfl) (fun _ _ _ h => h) (Or.inl ⟨by kernel_rfl, ?_⟩) hHeld ?_
    rotate_left 1
    · intro W8 hSw
      clear hSw
      go_simp
      all_goals with_reducible rfl
    try simp only [Act.put, List.setIfInBounds_toArray, List.set_cons_zero, List.set_cons_succ]
    refine K_take (i := 2) (v := ?_) rfl (by kernel_rfl) (by kernel_rfl) (by kernel_rfl) (by kernel_rfl) (by kernel_rfl) (fun _ _ _ h => h) (Or.inl ⟨by kernel_rfl, ?_⟩) hHeld ?_
    rotate_left 1
    · intro W8 hSw
      (try dsimp only at hSw)
      go_simp
      all_goals with_reducible rfl
    try simp only [Act.put, List.setIfInBounds_toArray, List.set_cons_zero, List.set_cons_succ]
    refine K_take' (i := 3) (v := ?_) rfl (by kernel_rfl) (by kernel_rfl) (by kernel_rfl) (by kernel_rfl) (fun _ _ _ h => h) (Or.inl ⟨by kernel_rfl, ?_⟩) hHeld ?_
    rotate_left 1
    · intro W8 hSw
      clear hSw
      go_simp
      all_goals with_reducible rfl
    try simp only [Act.put, List.setIfInBounds_toArray, List.set_cons_zero, List.set_cons_succ]
    refine K_take' (i := 5) (v := ?_) rfl (by kernel_rfl) (by kernel_rfl) (by kernel_rfl) (by kernel_rfl) (fun _ _ _ h => h) (Or.inl ⟨by kernel_rfl, ?_⟩) hHeld ?_
    rotate_left 1
    · intro W8 hSw
      clear hSw
      go_simp
      all_goals with_reducible rfl
    try simp only [Act.put, List.setIfInBounds_toArray, List.set_cons_zero, List.set_cons_succ]
    refine K_both (i := 6) (j := 8) (by kernel_rfl) rfl rfl (fun K hK => ?_) (fun K hK => ?_)
    · go_simp
      refine (KI4.out _ ((hHeld.1 b _ hb5).trans HS5.out) ((hHeld.1 b _ hb5).trans HS6.out)).mono ?_
      rintro r w9 ⟨rfl, hbw9⟩
      have hkw9 := Kp.next hHeld hbw9
      refine hK.out _ _ hkw9 (fun hHn => ?_)
      clear hK K hHn
      try simp only [Act.put, List.setIfInBounds_toArray, List.set_cons_zero, List.set_cons_succ]
      refine K_take' (i := 7) (v := ?_) rfl (by kernel_rfl) (by kernel_rfl) (by kernel_rfl) (by kernel_rfl) (fun _ _ _ h => h) (Or.inl ⟨by kernel_rfl, ?_⟩) hkw9 ?_
      rotate_left 1
      · intro W8 hSw
        clear hSw
        go_simp
        all_goals with_reducible rfl
      try simp only [Act.put, List.setIfInBounds_toArray, List.set_cons_zero, List.set_cons_succ]
      refine K_step' (i := 8) (by kernel_rfl) rfl (fun K hK => ?_)
      go_simp
      refine hK.out _ _ (Kp.next hkw9 ((Below.refl _ _).alloc (Nat.le_refl _) (.cells #[.int .i64 0, .int .i64 0, .int .i64 0, .slice none 0 0, .bool false] 66))) (fun hHn => ?_)
      clear hK K hHn
      try simp only [Act.put, List.setIfInBounds_toArray, List.set_cons_zero, List.set_cons_succ]
      refine K_step (by kernel_rfl) (by kernel_rfl) rfl (fun K hK => ?_)
      go_simp
      refine hK.out _ _ ?_
      clear hK K
      try simp only [Act.put, List.setIfInBounds_toArray, List.set_cons_zero, List.set_cons_succ]
      refine wpAny_done (by kernel_rfl) ?_ _
      have hz9 := hkw9.2.size
      have HK9 := Lib.hid hkw9.2
      clear hkw9 hbw9 hHeld
      try rw [HWE.out]
      go_wp2_with fail
      go_meet
      case rel => exact ⟨w9.heap.size, rfl, hz9, Cl.new rfl [.int .i64 ev, .int .i64 ey, .int .i64 0, .slice none 0 0, .bool false] 66, HK9.out.alloc hz9 _⟩
    · go_simp
      refine hK.out _ _ (Kp.mk (show Below m5.heap.size m5 _ from ((Below.refl _ _).alloc (Nat.le_refl _) _).drew)) (fun hHeld2 => ?_)
      clear hK K
      try simp only [Act.put, List.setIfInBounds_toArray, List.set_cons_zero, List.set_cons_succ]
      refine K_step' (i := 6) (by kernel_rfl) rfl (fun K hK => ?_)
      go_simp
      refine (KI4.out _ ((hHeld2.1 b _ hb5).trans HS5.out) ((hHeld2.1 b _ hb5).trans HS6.out)).mono ?_
      rintro r w9 ⟨rfl, hbw9⟩
      have hkw9 := Kp.next hHeld2 hbw9
      have CT : Cl m5.heap.size w9 [.int .i64 0, .int .i64 0, .int .i64 0, .slice none 0 0, .bool false] := ((Cl.new (w := m5) rfl [.int .i64 0, .int .i64 0, .int .i64 0, .slice none 0 0, .bool false] 66).below ((Below.refl _ _).drew)).below hbw9
      have t0 := CT.c 0 rfl
      have t1 := CT.c 1 rfl
      have t2 := CT.c 2 rfl
      have t3 := CT.c 3 rfl
      have t4 := CT.c 4 rfl
      have q0 := CT.f 0 rfl
      have q1 := CT.f 1 rfl
      have q2 := CT.f 2 rfl
      have q3 := CT.f 3 rfl
      have q4 := CT.f 4 rfl
      have zt := CT.1
      have HCT := Lib.hid CT
      clear CT
      refine hK.out _ _ hkw9 (fun hHn => ?_)
      clear hK K hHn
      try simp only [Act.put, List.setIfInBounds_toArray, List.set_cons_zero, List.set_cons_succ]
      refine K_take' (i := 7) (v := ?_) rfl (by kernel_rfl) (by kernel_rfl) (by kernel_rfl) (by kernel_rfl) (fun _ _ _ h => h) (Or.inl ⟨by kernel_rfl, ?_⟩) hkw9 ?_
      rotate_left 1
      · intro W8 hSw
        clear hSw
        go_simp
        all_goals with_reducible rfl
      try simp only [Act.put, List.setIfInBounds_toArray, List.set_cons_zero, List.set_cons_succ]
      refine K_step (by kernel_rfl) (by kernel_rfl) rfl (fun K hK => ?_)
      go_simp
      refine hK.out _ _ ?_
      clear hK K
      try simp only [Act.put, List.setIfInBounds_toArray, List.set_cons_zero, List.set_cons_succ]
      refine wpAny_done (by kernel_rfl) ?_ _
      have HK9 := Lib.hid hkw9.2
      clear hkw9 hbw9 hHeld hHeld2 t0 t1 t2 t3 t4 q0 q1 q2 q3 q4 zt
      try rw [HWE.out]
      go_wp2_with fail
      go_meet
      case rel => exact ⟨m5.heap.size, rfl, Nat.le_refl _, HCT.out.set5 _ _ _ _ _, below_set5 HK9.out (Nat.le_refl _) _ _ _ _ _⟩
  case rest =>
    obtain ⟨T, rfl, hT, hC, hB5⟩ := hcut
    have s4' : wc.cell? ⟨b, o + 3, none⟩ = some (.int .u8 (z : Int)) := ((bcell hB5).1 b _ hb5).trans s4
    have HC0 := Lib.hid hC
    have HB50 := Lib.hid hB5
    clear hC hB5 s1 s2 s3 s4 KI4 HS5 HS6 d1 d2 d3 d4 f2' f3' f4' HWE
    go_upto_region 28 with fail
    clear s4' d5 f1'
    go_loopg [158] z (fun gk v wr => ∃ (k : Nat) (X : Option Addr) (cx : Nat), k ≤ z ∧ z - k ≤ gk ∧ v = .int .i64 k ∧ k ≤ cx ∧ Cl T wr [.int .i64 ev, .int .i64 ey, .int .i64 0, .slice X k cx, .bool false] ∧ wr.ownsRow (T + 1) 3 1 (.slice X k cx) k (((celsM bs z).take k).map (Value.int .i64)) ∧ Below m5.heap.size m5 wr)
    case atStart => exact ⟨0, none, 0, by omega, by omega, rfl, Nat.le_refl _, HC0.out, World.ownsRow_nil _ _ _ _, HB50.out⟩
    case round =>
      clear HC0 HB50
      obtain ⟨k, X, cx, hk, hgk, rfl, hkc, hC, hX, hB5⟩ := hrel
      have HC := Lib.hid hC
      have HX := Lib.hid hX
      have HB5 := Lib.hid hB5
      have hTw : T < wr.heap.size := hC.1
      have hbw : b < wr.heap.size := by have := hB5.size; omega
      clear hC hX hB5
      by_cases hlt : k < z
      · obtain ⟨j, hj⟩ : ∃ j, j = 6 + 2 * k := ⟨_, rfl⟩
        obtain ⟨q0, y0, y1⟩ := byte_at (HBY.out.below (chain HG5.out HB5.out)) HR8.out (i := j) (by rw [HBS.out]; omega)
        obtain ⟨q1, y2, y3⟩ := byte_at (HBY.out.below (chain HG5.out HB5.out)) HR8.out (i := j + 1) (by rw [HBS.out]; omega)
        have hval := celsM_take (bs := bs) hlt
        rw [← hj, show 7 + 2 * k = j + 1 by omega] at hval
        obtain ⟨val, hv⟩ : ∃ val, val = bs.getD j 0 * 256 + bs.getD (j + 1) 0 := ⟨_, rfl⟩
        rw [← hv] at hval
        have KI := fun w h h' => index52 b (o + j) (nb - j) (c5 - j) (bs.getD j 0) (bs.getD (j + 1) 0) w (by omega) (by omega) h h' y0 y1 y2 y3
        rw [← hv] at KI
        replace KI := Lib.hid KI
        have HV := Lib.hid hval
        have w1' : IntKind.i64.wrap (2 * (k : Int)) = 2 * (k : Int) := by rw [IntKind.wrap_i64]; omega
        have w2' : IntKind.i64.wrap (6 + 2 * (k : Int)) = 6 + 2 * (k : Int) := by rw [IntKind.wrap_i64]; omega
        have t1 : (6 + 2 * (k : Int)).toNat = j := by omega
        have t2 : (0 : Int) ≤ 6 + 2 * (k : Int) := by omega
        have t3 : 6 + 2 * (k : Int) ≤ (nb : Int) := by omega
        have t4 : ¬ (c5 = j) := by omega
        rw [← Nat.add_assoc] at q1
        have HQ0 := Lib.hid q0
        have HQ1 := Lib.hid q1
        clear q0 q1 y0 y1 y2 y3 hval hv hj
        go_upto_region 30 with fail
        have p0 := HC.out.c 0 rfl
        have p1 := HC.out.c 1 rfl
        have p2 := HC.out.c 2 rfl
        have p3 := HC.out.c 3 rfl
        have p4 := HC.out.c 4 rfl
        have zp := HC.out.1
        refine region_K (fun W' => (∀ b o, b < T + 1 → W'.cell? ⟨b, o, none⟩ = wr.cell? ⟨b, o, none⟩) ∧ Below (T + 1) wr W') 11 (by kernel_rfl) (KpB.mk (Below.refl _ _).drew) (fun hHeld => ?_)
        refine K_take' (i := 0) (v := ?_) rfl (by kernel_rfl) (by kernel_rfl) (by kernel_rfl) (by kernel_rfl) (fun _ _ _ h => h) (Or.inl ⟨by kernel_rfl, ?_⟩) hHeld ?_
        rotate_left 1
        · intro W8 hSw
          clear hSw
          go_simp
          all_goals with_reducible rfl
        try simp only [Act.put, List.setIfInBounds_toArray, List.set_cons_zero, List.set_cons_succ]
        refine K_take (i := 1) (v := ?_) rfl (by kernel_rfl) (by kernel_rfl) (by kernel_rfl) (by kernel_rfl) (by kernel_rfl) (fun _ _ _ h => h) (Or.inl ⟨by kernel_rfl, ?_⟩) hHeld ?_
        rotate_left 1
        · intro W8 hSw
          (try dsimp only at hSw)
          go_simp
          all_goals with_reducible rfl
        try simp only [Act.put, List.setIfInBounds_toArray, List.set_cons_zero, List.set_cons_succ]
        refine K_take' (i := 2) (v := ?_) rfl (by kernel_rfl) (by kernel_rfl) (by kernel_rfl) (by kernel_rfl) (fun _ _ _ h => h) (Or.inl ⟨by kernel_rfl, ?_⟩) hHeld ?_
        rotate_left 1
        · intro W8 hSw
          clear hSw
          go_simp
          all_goals with_reducible rfl
        try simp only [Act.put, List.setIfInBounds_toArray, List.set_cons_zero, List.set_cons_succ]
        refine K_take' (i := 3) (v := ?_) rfl (by kernel_rfl) (by kernel_rfl) (by kernel_rfl) (by kernel_rfl) (fun _ _ _ h => h) (Or.inl ⟨by kernel_rfl, ?_⟩) hHeld ?_
        rotate_left 1
        · intro W8 hSw
          clear hSw
          go_simp
          all_goals with_reducible rfl
        try simp only [Act.put, List.setIfInBounds_toArray, List.set_cons_zero, List.set_cons_succ]
        refine K_take' (i := 4) (v := ?_) rfl (by kernel_rfl) (by kernel_rfl) (by kernel_rfl) (by kernel_rfl) (fun _ _ _ h => h) (Or.inl ⟨by kernel_rfl, ?_⟩) hHeld ?_
        rotate_left 1
        · intro W8 hSw
          clear hSw
          go_simp
          all_goals with_reducible rfl
        try simp only [Act.put, List.setIfInBounds_toArray, List.set_cons_zero, List.set_cons_succ]
        refine K_take' (i := 5) (v := ?_) rfl (by kernel_rfl) (by kernel_rfl) (by kernel_rfl) (by kernel_rfl) (fun _ _ _ h => h) (Or.inl ⟨by kernel_rfl, ?_⟩) hHeld ?_
        rotate_left 1
        · intro W8 hSw
          clear hSw
          go_simp
          all_goals with_reducible rfl
        try simp only [Act.put, List.setIfInBounds_toArray, List.set_cons_zero, List.set_cons_succ]
        refine K_take' (i := 6) (v := ?_) rfl (by kernel_rfl) (by kernel_rfl) (by kernel_rfl) (by kernel_rfl) (fun _ _ _ h => h) (Or.inl ⟨by kernel_rfl, ?_⟩) hHeld ?_
        rotate_left 1
        · intro W8 hSw
          clear hSw
          go_simp
          all_goals with_reducible rfl
        try simp only [Act.put, List.setIfInBounds_toArray, List.set_cons_zero, List.set_cons_succ]
        refine K_step' (i := 7) (by kernel_rfl) rfl (fun K hK => ?_)
        go_simp
        refine (KI.out wr.drew ((drew_cell _ _).trans HQ0.out) ((drew_cell _ _).trans HQ1.out)).mono ?_
        rintro r w9 ⟨rfl, hb9⟩
        have hb9' : Below wr.heap.size wr w9 := (Below.refl _ _).drew.trans hb9
        have HB9 := Lib.hid hb9'
        have hz9 := hb9'.size
        refine hK.out _ _ (KpB.mk (hb9'.mono hTw)) (fun hHn => ?_)
        clear hK K hHn hb9 hb9'
        try simp only [Act.put, List.setIfInBounds_toArray, List.set_cons_zero, List.set_cons_succ]
        refine K_step' (i := 8) (by kernel_rfl) rfl (fun K hK => ?_)
        go_simp
        have al : Below w9.heap.size w9 (w9.alloc (.cells #[.int .i64 val] 3)) := (Below.refl _ _).alloc (Nat.le_refl _) _
        have HB10 := Lib.hid (chain HB9.out al)
        refine hK.out _ _ (KpB.mk (HB10.out.mono hTw)) (fun hHn => ?_)
        clear hK K hHn
        try simp only [Act.put, List.setIfInBounds_toArray, List.set_cons_zero, List.set_cons_succ]
        have HX10 := Lib.hid (own_below HX.out HB10.out)
        have HN10 := Lib.hid (Ik.of_block (k := .i64) (l := [val]) (new_at (W := w9) rfl (.cells #[.int .i64 val] 3)))
        have hsz : T + 1 ≤ (w9.alloc (.cells #[.int .i64 val] 3)).heap.size := by simp; omega
        clear al
        refine K_step' (i := 9) (by kernel_rfl) rfl (fun K hK => ?_)
        refine step_io (by rfl) (.tmp 162) (.tmp 169) (by rfl) (T + 1) k _ ((celsM bs z).take k) (by simp [Act.eval, Act.put] <;> rfl) HX10.out w9.heap.size 0 1 1 [val] (by simp [Act.eval, Act.put] <;> rfl) rfl HN10.out (by omega) (by omega) hsz (k + 1) rfl ?_
        intro g9 c9 w10 hg9 hc9 ho10 hb10
        rw [← HV.out] at ho10
        have HO10 := Lib.hid ho10
        have HB11 := Lib.hid ((HB10.out.mono hTw).trans hb10)
        refine hK.out _ _ (KpB.mk HB11.out) (fun hHn => ?_)
        clear hK K hHn hb10 ho10 HX10 HN10 hsz
        try simp only [Act.put, List.setIfInBounds_toArray, List.set_cons_zero, List.set_cons_succ]
        have HCT := Lib.hid (HC.out.belowB (Nat.lt_succ_self T) HB11.out)
        have t0 := HCT.out.c 0 rfl
        have t1 := HCT.out.c 1 rfl
        have t2 := HCT.out.c 2 rfl
        have t3 := HCT.out.c 3 rfl
        have t4 := HCT.out.c 4 rfl
        have u0 := HCT.out.f 0 rfl
        have u1 := HCT.out.f 1 rfl
        have u2 := HCT.out.f 2 rfl
        have u3 := HCT.out.f 3 rfl
        have u4 := HCT.out.f 4 rfl
        have zt := HCT.out.1
        have hkL := KpB.mk HB11.out
        refine K_take' (i := 10) (v := ?_) rfl (by kernel_rfl) (by kernel_rfl) (by kernel_rfl) (by kernel_rfl) (fun _ _ _ h => h) (Or.inl ⟨by kernel_rfl, ?_⟩) hkL ?_
        rotate_left 1
        · intro W8 hSw
          clear hSw
          go_simp
          all_goals with_reducible rfl
        try simp only [Act.put, List.setIfInBounds_toArray, List.set_cons_zero, List.set_cons_succ]
        clear hkL hHeld
        refine K_step (by kernel_rfl) (by kernel_rfl) rfl (fun K hK => ?_)
        go_simp
        refine hK.out _ _ ?_
        clear hK K
        try simp only [Act.put, List.setIfInBounds_toArray, List.set_cons_zero, List.set_cons_succ]
        refine wpAny_done (by kernel_rfl) ?_ _
        go_wp2_with fail
        go_roundg (z - (k + 1))
        case measure => omega
        case rel =>
          have hC2 : Cl T (w10.setCell ⟨T, 3, none⟩ (.slice (some ⟨g9, 0, none⟩) (k + 1) c9)) [.int .i64 ev, .int .i64 ey, .int .i64 0, .slice (some ⟨g9, 0, none⟩) (k + 1) c9, .bool false] := HCT.out.set 3 (.slice (some ⟨g9, 0, none⟩) (k + 1) c9)
          have hB2 : Below m5.heap.size m5 (w10.setCell ⟨T, 3, none⟩ (.slice (some ⟨g9, 0, none⟩) (k + 1) c9)) := (HB5.out.trans (HB11.out.mono (by omega))).setCell (p := ⟨T, 3, none⟩) hT _
          exact ⟨k + 1, some ⟨g9, 0, none⟩, c9, by omega, by omega, by go_num, hc9, hC2, ownsRow_setCell_below HO10.out (Nat.lt_succ_self T) _, hB2⟩
      · obtain rfl : k = z := by omega
        have hXr := HX.out
        rw [show (celsM bs k).take k = celsM bs k by rw [List.take_of_length_le (by rw [celsM_len]; exact Nat.le_refl _)]] at hXr
        obtain ⟨hXi, hXf⟩ := Ik.of_own hXr
        have HXI := Lib.hid hXi
        have HXF := Lib.hid hXf
        have HPL := Lib.hid (HP5.out.below HB5.out)
        have HML := Lib.hid (HM5.out.below HB5.out)
        have HQL := Lib.hid (HQ5.out.below HB5.out)
        have HGL := Lib.hid (chain HG5.out HB5.out)
        have hlm' : ((l.map MV.m).length : Int) = (mm : Int) := by rw [List.length_map, HLM.out]
        have hGn : ∀ q, w.heap.size ≤ q → some q ≠ G := fun q hq e => by have := HGW.out q e.symm; omega
        clear hXr hXi hXf HX HP5 HM5 HQ5 HG5 HBY HR8 HBS HNZ
        by_cases hrg : (mm : Int) < kk ∨ 8 ≤ kk
        · have HMM : Hid (meaM (l.map MV.m) kk ⟨ev, ey, 0, celsM bs k, false⟩ = (l.map MV.m, 2)) := Lib.hid (by unfold meaM; rw [hlm', if_pos hrg])
          have pm := HML.out.c 0 rfl
          clear hlm'
          by_cases hr1 : (mm : Int) < kk
          · have d1 : decide ((mm : Int) < kk) = true := by simp [hr1]
            clear hrg hr1
            go_wp2_with fail
            have hPP := HPL.out
            have hMM := HML.out
            refine (fail51 A n c A2 n2 c2 Ac Pe A3 m c3 R W ch A4 mm c4 2 w.heap.size (w.heap.size + 1) wr hPP hMM).mono ?_
            rintro r wF ⟨rfl, hbF⟩
            have HQF := Lib.hid (HQL.out.below hbF)
            have HGF := Lib.hid (chain HGL.out hbF)
            clear hbF hPP hMM HPL HML HQL HGL
            have q0 := HQF.out.c 0 rfl
            have q1 := HQF.out.c 1 rfl
            have q2 := HQF.out.c 2 rfl
            have q3 := HQF.out.c 3 rfl
            have q4 := HQF.out.c 4 rfl
            have f0 := HQF.out.f 0 rfl
            have f1 := HQF.out.f 1 rfl
            have f2 := HQF.out.f 2 rfl
            have f3 := HQF.out.f 3 rfl
            have f4 := HQF.out.f 4 rfl
            have zq := HQF.out.1
            go_wp2_with fail
            refine bodyPost_ret (v := .tuple #[.agg #[.slice A n c, .slice A2 n2 c2, .int .i64 Ac, .int .i64 Pe, .slice A3 m c3], .slice A4 mm c4, .slice none 0 0, .int .i64 2]) (by simp [results, Try.results41, go_sem, q0, f0, q1, f1, q2, f2, q3, f3, q4, f4, zq] <;> first | rfl | ((repeat' apply And.intro) <;> rfl)) rfl (Or.inl ⟨?_, ?_, GB.of (below_set5 HGF.out (by omega) _ _ _ _ _)⟩)
            · rw [HMM.out]; simp
            · rw [HMM.out]
          · have d1 : decide ((mm : Int) < kk) = false := by simp; omega
            have d2 : decide (8 ≤ kk) = true := by simp; omega
            clear hrg hr1
            go_wp2_with fail
            have hPP := HPL.out
            have hMM := HML.out
            refine (fail51 A n c A2 n2 c2 Ac Pe A3 m c3 R W ch A4 mm c4 2 w.heap.size (w.heap.size + 1) wr hPP hMM).mono ?_
            rintro r wF ⟨rfl, hbF⟩
            have HQF := Lib.hid (HQL.out.below hbF)
            have HGF := Lib.hid (chain HGL.out hbF)
            clear hbF hPP hMM HPL HML HQL HGL
            have q0 := HQF.out.c 0 rfl
            have q1 := HQF.out.c 1 rfl
            have q2 := HQF.out.c 2 rfl
            have q3 := HQF.out.c 3 rfl
            have q4 := HQF.out.c 4 rfl
            have f0 := HQF.out.f 0 rfl
            have f1 := HQF.out.f 1 rfl
            have f2 := HQF.out.f 2 rfl
            have f3 := HQF.out.f 3 rfl
            have f4 := HQF.out.f 4 rfl
            have zq := HQF.out.1
            go_wp2_with fail
            refine bodyPost_ret (v := .tuple #[.agg #[.slice A n c, .slice A2 n2 c2, .int .i64 Ac, .int .i64 Pe, .slice A3 m c3], .slice A4 mm c4, .slice none 0 0, .int .i64 2]) (by simp [results, Try.results41, go_sem, q0, f0, q1, f1, q2, f2, q3, f3, q4, f4, zq] <;> first | rfl | ((repeat' apply And.intro) <;> rfl)) rfl (Or.inl ⟨?_, ?_, GB.of (below_set5 HGF.out (by omega) _ _ _ _ _)⟩)
            · rw [HMM.out]; simp
            · rw [HMM.out]
        · have hk8 : ¬ ((mm : Int) < kk) := fun h => hrg (Or.inl h)
          have hk9 : ¬ (8 ≤ kk) := fun h => hrg (Or.inr h)
          have d1 : decide ((mm : Int) < kk) = false := by simp; omega
          have d2 : decide (8 ≤ kk) = false := by simp; omega
          have K50 := fun w h => mvalid50 ev ey 0 X k cx false (celsM bs k) w (celsM_len _ _) hkc h
          have hm1 : meaM (l.map MV.m) kk ⟨ev, ey, 0, celsM bs k, false⟩ = if mvB ⟨ev, ey, 0, celsM bs k, false⟩ = false then (l.map MV.m, 1) else if kk = ((l.map MV.m).length : Int) then (l.map MV.m ++ [⟨ev, ey, 0, celsM bs k, false⟩], 0) else ((l.map MV.m).set kk.toNat ⟨ev, ey, 0, celsM bs k, false⟩, 0) := by
            unfold meaM; rw [hlm', if_neg hrg]
          cases hmv : mvB ⟨ev, ey, 0, celsM bs k, false⟩
          · rw [hmv] at K50 hm1
            rw [if_pos rfl] at hm1
            have HMM := Lib.hid hm1
            replace K50 := Lib.hid K50
            have pm := HML.out.c 0 rfl
            clear hm1 hlm' hrg hmv
            have t0 := HC.out.c 0 rfl
            have t1 := HC.out.c 1 rfl
            have t2 := HC.out.c 2 rfl
            have t3 := HC.out.c 3 rfl
            have t4 := HC.out.c 4 rfl
            have zt := HC.out.1
            go_wp2_with fail
            refine (K50.out _ HXI.out).mono ?_
            rintro r w50 ⟨rfl, hb50⟩
            replace HPL := Lib.hid (HPL.out.below hb50)
            replace HML := Lib.hid (HML.out.below hb50)
            replace HQL := Lib.hid (HQL.out.below hb50)
            replace HGL := Lib.hid (chain HGL.out hb50)
            clear hb50 t0 t1 t2 t3 t4 zt pm
            go_wp2_with fail
            have hPP := HPL.out
            have hMM := HML.out
            refine (fail51 A n c A2 n2 c2 Ac Pe A3 m c3 R W ch A4 mm c4 1 w.heap.size (w.heap.size + 1) w50 hPP hMM).mono ?_
            rintro r wF ⟨rfl, hbF⟩
            have HQF := Lib.hid (HQL.out.below hbF)
            have HGF := Lib.hid (chain HGL.out hbF)
            clear hbF hPP hMM HPL HML HQL HGL
            have q0 := HQF.out.c 0 rfl
            have q1 := HQF.out.c 1 rfl
            have q2 := HQF.out.c 2 rfl
            have q3 := HQF.out.c 3 rfl
            have q4 := HQF.out.c 4 rfl
            have f0 := HQF.out.f 0 rfl
            have f1 := HQF.out.f 1 rfl
            have f2 := HQF.out.f 2 rfl
            have f3 := HQF.out.f 3 rfl
            have f4 := HQF.out.f 4 rfl
            have zq := HQF.out.1
            go_wp2_with fail
            refine bodyPost_ret (v := .tuple #[.agg #[.slice A n c, .slice A2 n2 c2, .int .i64 Ac, .int .i64 Pe, .slice A3 m c3], .slice A4 mm c4, .slice none 0 0, .int .i64 1]) (by simp [results, Try.results41, go_sem, q0, f0, q1, f1, q2, f2, q3, f3, q4, f4, zq] <;> first | rfl | ((repeat' apply And.intro) <;> rfl)) rfl (Or.inl ⟨?_, ?_, GB.of (below_set5 HGF.out (by omega) _ _ _ _ _)⟩)
            · rw [HMM.out]; simp
            · rw [HMM.out]
          · rw [hmv] at K50 hm1
            rw [if_neg (by simp)] at hm1
            replace K50 := Lib.hid K50
            by_cases hkm : kk = (mm : Int)
            · have HMM : Hid (meaM (l.map MV.m) kk ⟨ev, ey, 0, celsM bs k, false⟩ = (l.map MV.m ++ [⟨ev, ey, 0, celsM bs k, false⟩], 0)) := Lib.hid (by rw [hm1, hlm', if_pos hkm])
              have d3 : decide (kk = (mm : Int)) = true := by simp [hkm]
              have d4 : (kk == (mm : Int)) = true := by simp [hkm]
              clear hm1 hlm' hrg hmv hkm
              have pm := HML.out.c 0 rfl
              have t0 := HC.out.c 0 rfl
              have t1 := HC.out.c 1 rfl
              have t2 := HC.out.c 2 rfl
              have t3 := HC.out.c 3 rfl
              have t4 := HC.out.c 4 rfl
              have zt := HC.out.1
              go_wp2_with fail
              refine (K50.out _ HXI.out).mono ?_
              rintro r w50 ⟨rfl, hb50⟩
              replace HPL := Lib.hid (HPL.out.below hb50)
              replace HML := Lib.hid (HML.out.below hb50)
              replace HQL := Lib.hid (HQL.out.below hb50)
              replace HGL := Lib.hid (chain HGL.out hb50)
              have HC50 := Lib.hid (HC.out.below hb50)
              have HXI50 := Lib.hid (HXI.out.below hb50)
              clear hb50 t0 t1 t2 t3 t4 zt pm HXI HC
              have pm := HML.out.c 0 rfl
              go_upto_region 37 with fail
              have HOB := Lib.hid (show ∀ b, some b ≠ G → some b ≠ (Value.slice A4 mm c4).ownBlock from fun b hb e => by
                cases A4 with
                | none => cases e
                | some a =>
                  have e' : some b = some a.block := e
                  obtain ⟨ab, ao, asp⟩ := a
                  obtain ⟨A', c', hv, hA, _, _⟩ := own_slice HO.out
                  injection hv with hv
                  rcases HO.out.2 with ⟨hv2, _⟩ | ⟨g2, cap2, cur2, hv2, _⟩
                  · cases hv2
                  · injection hv2 with hv2
                    injection hv2 with hv2
                    injection hv2 with h1 h2 h3
                    subst h1; subst h2; subst h3
                    exact hb (e'.trans (HA4.out _ _ rfl)))
              have hsz50 : w.heap.size ≤ w50.heap.size := HGL.out.size
              have nPG := hGn w.heap.size (Nat.le_refl _)
              have nMG := hGn (w.heap.size + 1) (by omega)
              have nQG := hGn (w.heap.size + 1 + 1) (by omega)
              have nTG := hGn T (by omega)
              have hQ50 : w.heap.size + 1 + 1 < w50.heap.size := HQL.out.1
              have t0 := HC50.out.c 0 rfl
              have t1 := HC50.out.c 1 rfl
              have t2 := HC50.out.c 2 rfl
              have t3 := HC50.out.c 3 rfl
              have t4 := HC50.out.c 4 rfl
              have p0 := HPL.out.c 0 rfl
              have p1 := HPL.out.c 1 rfl
              have p2 := HPL.out.c 2 rfl
              have p3 := HPL.out.c 3 rfl
              have p4 := HPL.out.c 4 rfl
              have q0 := HQL.out.c 0 rfl
              have q1 := HQL.out.c 1 rfl
              have q2 := HQL.out.c 2 rfl
              have q3 := HQL.out.c 3 rfl
              have q4 := HQL.out.c 4 rfl
              have pm := HML.out.c 0 rfl
              have zt := HC50.out.1
              have zp := HPL.out.1
              have zm := HML.out.1
              refine region_K (fun W' => (∀ b o, b < w50.heap.size → some b ≠ G → W'.cell? ⟨b, o, none⟩ = w50.cell? ⟨b, o, none⟩) ∧ True) 5 (by kernel_rfl) (⟨fun b o _ _ => rfl, trivial⟩) (fun hHeld => ?_)
              refine K_take (i := 0) (v := ?_) rfl (by kernel_rfl) (by kernel_rfl) (by kernel_rfl) (by kernel_rfl) (by kernel_rfl) (fun _ _ _ h => h) (Or.inl ⟨by kernel_rfl, ?_⟩) hHeld ?_
              rotate_left 1
              · intro W8 hSw
                (try dsimp only at hSw)
                go_simp
                all_goals with_reducible rfl
              try simp only [Act.put, List.setIfInBounds_toArray, List.set_cons_zero, List.set_cons_succ]
              refine K_take (i := 1) (v := ?_) rfl (by kernel_rfl) (by kernel_rfl) (by kernel_rfl) (by kernel_rfl) (by kernel_rfl) (fun _ _ _ h => h) (Or.inl ⟨by kernel_rfl, ?_⟩) hHeld ?_
              rotate_left 1
              · intro W8 hSw
                (try dsimp only at hSw)
                go_simp
                all_goals with_reducible rfl
              try simp only [Act.put, List.setIfInBounds_toArray, List.set_cons_zero, List.set_cons_succ]
              refine K_take (i := 2) (v := ?_) rfl (by kernel_rfl) (by kernel_rfl) (by kernel_rfl) (by kernel_rfl) (by kernel_rfl) (fun _ _ _ h => h) (Or.inl ⟨by kernel_rfl, ?_⟩) hHeld ?_
              rotate_left 1
              · intro W8 hSw
                (try dsimp only at hSw)
                go_simp
                all_goals with_reducible rfl
              try simp only [Act.put, List.setIfInBounds_toArray, List.set_cons_zero, List.set_cons_succ]
              refine K_step' (i := 3) (by kernel_rfl) rfl (fun K hK => ?_)
              go_simp
              refine hK.out _ _ ⟨fun b o hb hne => (drew_cell _ _).trans (World.cell?_alloc_lt _ _ _ hb), trivial⟩ (fun hHn => ?_)
              clear hK K hHn
              try simp only [Act.put, List.setIfInBounds_toArray, List.set_cons_zero, List.set_cons_succ]
              have BUA : Below w50.heap.size w50 ((w50.alloc (.cells #[.int .i64 ev, .int .i64 ey, .int .i64 0, .slice X k cx, .bool false] 66)).drew) := ((Below.refl _ _).alloc (Nat.le_refl _) _).drew
              have HOU := Lib.hid (own_below (own_below HO.out HGL.out) BUA)
              have hn : ∀ j u, ([.int .i64 ev, .int .i64 ey, .int .i64 0, .slice X k cx, .bool false] : List Value)[j]? = some u → ((w50.alloc (.cells #[.int .i64 ev, .int .i64 ey, .int .i64 0, .slice X k cx, .bool false] 66)).drew).cell? ((⟨w50.heap.size, 0, none⟩ : Addr).add j) = some u := fun j u hj => (drew_cell _ _).trans (cells_new rfl _ 66 j u hj)
              have HN := Lib.hid hn
              have hszU : w50.heap.size < ((w50.alloc (.cells #[.int .i64 ev, .int .i64 ey, .int .i64 0, .slice X k cx, .bool false] 66)).drew).heap.size := by simp
              have HBU := Lib.hid BUA
              clear hn BUA p0 p1 p2 p3 p4 t0 t1 t2 t3 t4 zp zt zm pm
              obtain ⟨i66, hi66, hz66, hz66', hz66''⟩ := info_parts info66
              refine K_step' (i := 4) (by kernel_rfl) rfl (fun K hK => ?_)
              refine step_append_lies _ (by rfl) (.tmp 204) (.tmp 206) 45 (by rfl) B0 66 i66 (.agg #[.int .i64 0, .int .i64 0, .int .i64 0, .slice none 0 0, .bool false]) 5 56 Try.underlying45 hi66 hz66 hz66' hz66'' rfl (by decide) _ mm (flatM l) (by simp [Act.eval, Act.put] <;> rfl) HOU.out ⟨w50.heap.size, 0, none⟩ 1 1 [.int .i64 ev, .int .i64 ey, .int .i64 0, .slice X k cx, .bool false] (by simp [Act.eval, Act.put] <;> rfl) rfl HN.out (by intro u hu; simp only [List.mem_cons, List.not_mem_nil, or_false] at hu; rcases hu with rfl | rfl | rfl | rfl | rfl <;> rfl) (by omega) (by unfold maxLen; omega) (by omega) (by omega) _ rfl ?_
              intro g' cap' w12 ho12 hgr12 hlie hgl12
              have HLIE := Lib.hid hlie
              have HGR := Lib.hid (show ((w50.alloc (.cells #[.int .i64 ev, .int .i64 ey, .int .i64 0, .slice X k cx, .bool false] 66)).drew).grownBy w12 G from GB.weak hgr12 (by
                rcases hOBe : (Value.slice A4 mm c4).ownBlock with _ | q
                · exact Or.inl rfl
                · right
                  rcases Classical.em (some q = G) with h | h
                  · exact h
                  · exact absurd hOBe.symm (by rw [hOBe]; exact fun _ => HOB.out q h (by rw [hOBe]))))
              refine hK.out _ _ ⟨fun b o hb hne => (GB.cell HGR.out (by omega) hne o).1.trans ((drew_cell _ _).trans (World.cell?_alloc_lt _ _ _ hb)), trivial⟩ (fun hHn => ?_)
              clear hK K hHn hlie hgr12 HN hHeld
              try simp only [Act.put, List.setIfInBounds_toArray, List.set_cons_zero, List.set_cons_succ]
              have HQ12 := Lib.hid (Cl.gb HGR.out (HQL.out.below HBU.out) nQG)
              clear q0 q1 q2 q3 q4
              have q0 := HQ12.out.c 0 rfl
              have q1 := HQ12.out.c 1 rfl
              have q2 := HQ12.out.c 2 rfl
              have q3 := HQ12.out.c 3 rfl
              have q4 := HQ12.out.c 4 rfl
              have f0 := HQ12.out.f 0 rfl
              have f1 := HQ12.out.f 1 rfl
              have f2 := HQ12.out.f 2 rfl
              have f3 := HQ12.out.f 3 rfl
              have f4 := HQ12.out.f 4 rfl
              have zq := HQ12.out.1
              refine K_step (by kernel_rfl) (by kernel_rfl) rfl (fun K hK => ?_)
              go_simp
              refine hK.out _ _ ?_
              clear hK K
              try simp only [Act.put, List.setIfInBounds_toArray, List.set_cons_zero, List.set_cons_succ]
              refine wpAny_ready (rs := [6]) (by kernel_rfl) (by simp) (AllReady.cons rfl (fun K hK => ?_) AllReady.nil)
              go_simp
              refine hK _ _ ?_
              clear hK K
              try simp only [Act.put, List.setIfInBounds_toArray, List.set_cons_zero, List.set_cons_succ]
              refine wpAny_ready (rs := [7]) (by kernel_rfl) (by simp) (AllReady.cons rfl (fun K hK => ?_) AllReady.nil)
              go_simp
              refine hK _ _ ?_
              clear hK K
              try simp only [Act.put, List.setIfInBounds_toArray, List.set_cons_zero, List.set_cons_succ]
              refine wpAny_ready (rs := [8]) (by kernel_rfl) (by simp) (AllReady.cons rfl (fun K hK => ?_) AllReady.nil)
              go_simp
              refine hK _ _ ?_
              clear hK K
              try simp only [Act.put, List.setIfInBounds_toArray, List.set_cons_zero, List.set_cons_succ]
              refine wpAny_done (by kernel_rfl) ?_ _
              obtain ⟨Q, hQ⟩ : ∃ Q, Q = w.heap.size + 1 + 1 := ⟨_, rfl⟩
              rw [← hQ] at HQ12 q0 q1 q2 q3 q4 f0 f1 f2 f3 f4 zq hQ50
              rw [← hQ]
              have hQw : w.heap.size ≤ Q := by omega
              have hQ3 : Q < T + 1 := by omega
              have GW12 : w.grownBy w12 G := GB.trans (GB.of (g := G) (chain HGL.out HBU.out)) HGR.out
              have HGW12 := Lib.hid GW12
              have HO12 := Lib.hid ho12
              have hXT := HXF.out
              have HX12 := Lib.hid (Ik.gb HGR.out (HXI50.out.below HBU.out) (fun _ b o e he => by have := hXT b o e; have := hGn b (by omega); exact this he))
              have hgQ : g' ≠ Q ∧ g' ∉ S := by
                rcases HLIE.out with h | h
                · have hg' : some g' = G := by
                    rcases Classical.em (some g' = G) with h' | h'
                    · exact h'
                    · exact absurd h.symm (HOB.out g' h')
                  have h1 := HGW.out g' hg'.symm
                  exact ⟨by omega, HGS.out g' hg'.symm⟩
                · rw [h]
                  exact ⟨by omega, fun hs => by have := HSW.out _ hs; omega⟩
              obtain ⟨hgQ1, hgQ2⟩ := hgQ
              have HGQ2 := Lib.hid hgQ2
              have hSX : ∀ s ∈ S, ∀ b o, X = some ⟨b, o, none⟩ → b ≠ s := fun s hs b o e => by have := HSW.out s hs; have := hXT b o e; omega
              have HSX := Lib.hid hSX
              clear hQ GW12 ho12 hXT hgQ2 hSX hQ50 HQ12 HOU HBU HGR HLIE HPL HML HQL HGL HC50 HXI50 K50 HA4 HO HOB hGn nPG nMG nQG nTG hTw hbw hgl12 HB5 hm3 hT
              go_wp2_with fail
              refine bodyPost_ret (v := .tuple #[.agg #[.slice A n c, .slice A2 n2 c2, .int .i64 Ac, .int .i64 Pe, .slice A3 m c3], .slice (some ⟨g', 0, none⟩) (mm + 1) cap', .slice none 0 0, .int .i64 0]) (by simp [results, Try.results41, go_sem, q0, f0, q1, f1, q2, f2, q3, f3, q4, f4, zq] <;> first | rfl | ((repeat' apply And.intro) <;> rfl)) rfl (Or.inr ⟨?_, some ⟨g', 0, none⟩, cap', ?_, ?_, GB.below HGW12.out (below_set5 (Below.refl w.heap.size w12) hQw _ _ _ _ _)⟩)
              · rw [HMM.out]
              · rw [HMM.out]; simp [HLM.out]
              · rw [HMM.out]
                refine ⟨l ++ [⟨⟨ev, ey, 0, celsM bs k, false⟩, X, cx⟩], by simp, ?_, ?_, ?_, ?_⟩
                · obtain ⟨_, _, hv, _, _, h, _⟩ := own_form HO12.out (by omega)
                  injection hv with _ _ hv
                  simp only [List.length_append, List.length_map, HLM.out, List.length_cons, List.length_nil]; omega
                · have hfm : flatM (l ++ [⟨⟨ev, ey, 0, celsM bs k, false⟩, X, cx⟩]) = flatM l ++ [.int .i64 ev, .int .i64 ey, .int .i64 0, .slice X k cx, .bool false] := by
                    rw [flatM_append, flatM_one]
                    simp only [MV.vals, celsM_len]
                  rw [hfm]
                  exact (own_cv HO12.out).far5 (fun b o e => by injection e with e; injection e with e _; omega) _ _ _ _ _
                · intro _ b o e
                  injection e with e; injection e with e _
                  subst e; exact HGQ2.out
                · intro x hx
                  rcases List.mem_append.1 hx with h | h
                  · exact Mo.gbo HMO.out (GB.below HGW12.out (below_set5 (Below.refl w.heap.size w12) hQw _ _ _ _ _)) x h
                  · obtain rfl : x = ⟨⟨ev, ey, 0, celsM bs k, false⟩, X, cx⟩ := by simpa using h
                    refine ⟨by rw [celsM_len]; exact hkc, HX12.out.fr5 HXF.out hQ3 _ _ _ _ _, fun _ b o e hs => HSX.out b hs b o e rfl⟩
            · obtain ⟨a, rfl⟩ : ∃ a : Nat, kk = a := ⟨kk.toNat, by omega⟩
              have ha : a < mm := by omega
              have HMM : Hid (meaM (l.map MV.m) (a : Int) ⟨ev, ey, 0, celsM bs k, false⟩ = ((l.map MV.m).set a ⟨ev, ey, 0, celsM bs k, false⟩, 0)) := Lib.hid (by rw [hm1, hlm', if_neg hkm, Int.toNat_natCast])
              have d3 : decide ((a : Int) = (mm : Int)) = false := by simp [hkm]
              have d4 : ((a : Int) == (mm : Int)) = false := by simp [hkm]
              obtain ⟨g, cap, hv, _, hgl, hcap, _, _⟩ := own_form HO.out (by omega)
              injection hv with hv _ hcc
              subst hv
              subst hcc
              have hgG : G = some g := (HA4.out g 0 rfl).symm
              subst hgG
              have hla : a < l.length := by rw [HLM.out]; exact ha
              obtain ⟨xm, hxm⟩ : ∃ xm, l[a]? = some xm := ⟨_, List.getElem?_eq_getElem hla⟩
              have HXM := Lib.hid hxm
              have CG := Lib.hid (own_cl HO.out (by omega))
              have hgw : g < w.heap.size := HGW.out g rfl
              clear hm1 hlm' hrg hmv hkm
              have pm := HML.out.c 0 rfl
              have t0 := HC.out.c 0 rfl
              have t1 := HC.out.c 1 rfl
              have t2 := HC.out.c 2 rfl
              have t3 := HC.out.c 3 rfl
              have t4 := HC.out.c 4 rfl
              have zt := HC.out.1
              go_wp2_with fail
              refine (K50.out _ HXI.out).mono ?_
              rintro r w50 ⟨rfl, hb50⟩
              replace HPL := Lib.hid (HPL.out.below hb50)
              replace HML := Lib.hid (HML.out.below hb50)
              replace HQL := Lib.hid (HQL.out.below hb50)
              replace HGL := Lib.hid (chain HGL.out hb50)
              have HC50 := Lib.hid (HC.out.below hb50)
              have HXI50 := Lib.hid (HXI.out.below hb50)
              clear hb50 t0 t1 t2 t3 t4 zt pm HXI HC
              have pm := HML.out.c 0 rfl
              obtain ⟨r0, e0⟩ := (CG.out.below HGL.out).2 (a * 5) _ ((flatM_get l a xm HXM.out 0 (by omega)).trans rfl)
              obtain ⟨r1, e1⟩ := (CG.out.below HGL.out).2 (a * 5 + 1) _ ((flatM_get l a xm HXM.out 1 (by omega)).trans rfl)
              obtain ⟨r2, e2⟩ := (CG.out.below HGL.out).2 (a * 5 + 2) _ ((flatM_get l a xm HXM.out 2 (by omega)).trans rfl)
              obtain ⟨r3, e3⟩ := (CG.out.below HGL.out).2 (a * 5 + 3) _ ((flatM_get l a xm HXM.out 3 (by omega)).trans rfl)
              obtain ⟨r4, e4⟩ := (CG.out.below HGL.out).2 (a * 5 + 4) _ ((flatM_get l a xm HXM.out 4 (by omega)).trans rfl)
              have ham : (a : Int) < (mm : Int) := by omega
              have hg50 : g < w50.heap.size := by have := HGL.out.size; omega
              have t0 := HC50.out.c 0 rfl
              have t1 := HC50.out.c 1 rfl
              have t2 := HC50.out.c 2 rfl
              have t3 := HC50.out.c 3 rfl
              have t4 := HC50.out.c 4 rfl
              have p0 := HPL.out.c 0 rfl
              have p1 := HPL.out.c 1 rfl
              have p2 := HPL.out.c 2 rfl
              have p3 := HPL.out.c 3 rfl
              have p4 := HPL.out.c 4 rfl
              have q0 := HQL.out.c 0 rfl
              have q1 := HQL.out.c 1 rfl
              have q2 := HQL.out.c 2 rfl
              have q3 := HQL.out.c 3 rfl
              have q4 := HQL.out.c 4 rfl
              have zt := HC50.out.1
              have zp := HPL.out.1
              have zm := HML.out.1
              go_upto_region 39 with fail
              clear r0 r1 r2 r3 r4 e0 e1 e2 e3 e4 zt zp zm pm ham p0 p1 p2 p3 p4 q0 q1 q2 q3 q4 t0 t1 t2 t3 t4
              obtain ⟨wc, hwc⟩ : ∃ wc, wc = (((((w50.setCell ⟨g, a * 5, none⟩ (.int .i64 ev)).setCell ⟨g, a * 5 + 1, none⟩ (.int .i64 ey)).setCell ⟨g, a * 5 + 2, none⟩ (.int .i64 0)).setCell ⟨g, a * 5 + 3, none⟩ (.slice X k cx)).setCell ⟨g, a * 5 + 4, none⟩ (.bool false)) := ⟨_, rfl⟩
              have GBc : w50.grownBy wc (some g) := by rw [hwc]; exact GB.set (GB.set (GB.set (GB.set (GB.set (GB.refl _ _) _ _) _ _) _ _) _ _) _ _
              have hoc : wc.ownsRow B0 66 5 (.slice (some ⟨g, 0, none⟩) mm c4) mm (flatM (l.set a ⟨⟨ev, ey, 0, celsM bs k, false⟩, X, cx⟩)) := by
                rw [hwc]
                exact own_put5 (own_below HO.out HGL.out) HXM.out ha hla ⟨⟨ev, ey, 0, celsM bs k, false⟩, X, cx⟩ k (celsM_len _ _)
              rw [← hwc]
              have HPN := Lib.hid (Cl.gb GBc HPL.out (hGn _ (Nat.le_refl _)))
              have HMN := Lib.hid (Cl.gb GBc HML.out (hGn _ (by omega)))
              have HQN := Lib.hid (Cl.gb GBc HQL.out (hGn _ (by omega)))
              have HGN := Lib.hid (GB.trans (GB.of (g := some g) HGL.out) GBc)
              have HOC := Lib.hid hoc
              have hXT := HXF.out
              have HXc := Lib.hid (Ik.gb GBc HXI50.out (fun _ b o e he => by have := hXT b o e; exact hGn b (by omega) he))
              have HSX : Hid (∀ s ∈ S, ∀ b o, X = some ⟨b, o, none⟩ → b ≠ s) := Lib.hid (fun s hs b o e => by have := HSW.out s hs; have := hXT b o e; omega)
              have hQT : w.heap.size + 1 + 1 < T + 1 := by omega
              have HQT := Lib.hid hQT
              clear hwc GBc hoc hXT HPL HML HQL HGL HC50 HXI50 K50 HO CG hGn hTw hbw HB5 hm3 hT hQT d1 d2 d3 d4
              go_upto_region 39 with fail
              obtain ⟨Q, hQ⟩ : ∃ Q, Q = w.heap.size + 1 + 1 := ⟨_, rfl⟩
              rw [← hQ] at HQN
              rw [← hQ]
              have hQw : w.heap.size ≤ Q := by omega
              have nPQ : w.heap.size ≠ Q := by omega
              have nMQ : w.heap.size + 1 ≠ Q := by omega
              have hQT' : Q < T + 1 := by have := HQT.out; omega
              clear hQ
              have t0 := HPN.out.c 0 rfl
              have t1 := HPN.out.c 1 rfl
              have t2 := HPN.out.c 2 rfl
              have t3 := HPN.out.c 3 rfl
              have t4 := HPN.out.c 4 rfl
              have pm := HMN.out.c 0 rfl
              have q0 := HQN.out.c 0 rfl
              have q1 := HQN.out.c 1 rfl
              have q2 := HQN.out.c 2 rfl
              have q3 := HQN.out.c 3 rfl
              have q4 := HQN.out.c 4 rfl
              have f0 := HQN.out.f 0 rfl
              have f1 := HQN.out.f 1 rfl
              have f2 := HQN.out.f 2 rfl
              have f3 := HQN.out.f 3 rfl
              have f4 := HQN.out.f 4 rfl
              have zt := HPN.out.1
              have zm := HMN.out.1
              have zq := HQN.out.1
              refine region_K (fun W' => (∀ b o, b < wc.heap.size → b ≠ Q → W'.cell? ⟨b, o, none⟩ = wc.cell? ⟨b, o, none⟩) ∧ True) 3 (by kernel_rfl) (⟨fun b o _ _ => rfl, trivial⟩) (fun hHeld => ?_)
              refine K_take (i := 0) (v := ?_) rfl (by kernel_rfl) (by kernel_rfl) (by kernel_rfl) (by kernel_rfl) (by kernel_rfl) (fun _ _ _ h => h) (Or.inl ⟨by kernel_rfl, ?_⟩) hHeld ?_
              rotate_left 1
              · intro W8 hSw
                (try dsimp only at hSw)
                go_simp
                all_goals with_reducible rfl
              try simp only [Act.put, List.setIfInBounds_toArray, List.set_cons_zero, List.set_cons_succ]
              refine K_take (i := 1) (v := ?_) rfl (by kernel_rfl) (by kernel_rfl) (by kernel_rfl) (by kernel_rfl) (by kernel_rfl) (fun _ _ _ h => h) (Or.inl ⟨by kernel_rfl, ?_⟩) hHeld ?_
              rotate_left 1
              · intro W8 hSw
                (try dsimp only at hSw)
                go_simp
                all_goals with_reducible rfl
              try simp only [Act.put, List.setIfInBounds_toArray, List.set_cons_zero, List.set_cons_succ]
              refine K_step' (i := 2) (by kernel_rfl) rfl (fun K hK => ?_)
              go_simp
              refine hK.out _ _ ⟨fun b o hb hne => cell_far5d (Ne.symm hne) _ _ _ _ _, trivial⟩ (fun hH3 => ?_)
              clear hK K
              try simp only [Act.put, List.setIfInBounds_toArray, List.set_cons_zero, List.set_cons_succ]
              refine K_step (by kernel_rfl) (by kernel_rfl) rfl (fun K hK => ?_)
              go_simp
              refine hK.out _ _ ?_
              clear hK K
              try simp only [Act.put, List.setIfInBounds_toArray, List.set_cons_zero, List.set_cons_succ]
              refine wpAny_ready (rs := [4]) (by kernel_rfl) (by simp) (AllReady.cons rfl (fun K hK => ?_) AllReady.nil)
              go_simp
              refine hK _ _ ?_
              clear hK K
              try simp only [Act.put, List.setIfInBounds_toArray, List.set_cons_zero, List.set_cons_succ]
              refine wpAny_ready (rs := [5]) (by kernel_rfl) (by simp) (AllReady.cons rfl (fun K hK => ?_) AllReady.nil)
              go_simp
              refine hK _ _ ?_
              clear hK K
              try simp only [Act.put, List.setIfInBounds_toArray, List.set_cons_zero, List.set_cons_succ]
              refine wpAny_done (by kernel_rfl) ?_ _
              clear t0 t1 t2 t3 t4 pm zt zm HMN HPN hHeld hH3
              go_wp2_with fail
              refine bodyPost_ret (v := .tuple #[.agg #[.slice A n c, .slice A2 n2 c2, .int .i64 Ac, .int .i64 Pe, .slice A3 m c3], .slice (some ⟨g, 0, none⟩) mm c4, .slice none 0 0, .int .i64 0]) (by simp [results, Try.results41, go_sem, q0, f0, q1, f1, q2, f2, q3, f3, q4, f4, zq] <;> first | rfl | ((repeat' apply And.intro) <;> rfl)) rfl (Or.inr ⟨?_, some ⟨g, 0, none⟩, c4, ?_, ?_, GB.drew (GB.below HGN.out (below_set5 (Below.refl w.heap.size wc) hQw _ _ _ _ _))⟩)
              · rw [HMM.out]
              · rw [HMM.out]; simp [HLM.out]
              · rw [HMM.out]
                refine ⟨_, ?_, ?_, own_cvB HOC.out hgw (below_set5 (Below.refl w.heap.size wc) hQw _ _ _ _ _).drew, ?_, ?_⟩
                · rw [map_set_m]
                · simp only [List.length_set, List.length_map, HLM.out]; exact hcap
                · intro _ b o e
                  injection e with e; injection e with e _
                  subst e; exact HGS.out _ rfl
                · intro z hz
                  rcases List.mem_or_eq_of_mem_set hz with h1 | rfl
                  · exact Mo.gbo HMO.out (GB.drew (GB.below HGN.out (below_set5 (Below.refl w.heap.size wc) hQw _ _ _ _ _))) z h1
                  · refine ⟨by rw [celsM_len]; exact hkc, (HXc.out.fr5 HXF.out hQT' _ _ _ _ _).below ((Below.refl _ _).drew), fun _ b o e hs => HSX.out b hs b o e rfl⟩
end Go.Proofs.Ytamajedopofcoaa
