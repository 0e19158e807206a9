/-
  The reference's Receive of a frame that makes the receiver fail. No condition but the slices' shape.
-/
import Derived.Test.YtfjeediecmhedaaRecv3
import Derived.Test.YtfjeediecmhedaaRSend
import Derived.Test.YtfjeediecmhedaaApp
import Derived.Test.YtfjeediecmhedaaRefKind
set_option linter.unusedVariables false
set_option linter.unusedSimpArgs false
namespace Go.Proofs.Ytfjeediecmhedaa
open Go.RowKit
set_option maxRecDepth 100000 in
set_option maxHeartbeats 4000000 in
theorem rrecv25_fail (A : Option Addr) (n c : Nat) (Le Nu Bl Gt : Int) (Dl : Int) (l : List Int) (F : Option Addr) (cF : Nat) (f : List Int) (t : Int) (w : World) (hl : l.length = n) (hb : Bt w A l) (hc : n ≤ c) (hfb : Bt w F f) (hfB : Byt f) (hfc : 8 ≤ cF) (hv : vR n Le Nu Bl Gt true false Dl false = true) (ht : timeB t = true) (hk : kindM f = 2) (hx : Dl < t ∨ f.getD 0 0 % 16 ≠ Nu) :
    Calls Try.prog 25 #[.agg #[.slice A n c, .int .i64 Le, .int .i64 Nu, .int .i64 Bl, .int .i64 Gt, .bool true, .bool false, .int .i64 Dl, .bool false], .slice F 8 cF, .int .i64 t] w (RP ⟨[], 0, 0, Bl, 0, false, false, 0, true⟩ [] 0 w) := by
  obtain ⟨_, _, L0, L1, n0, n1, N0, N1, G0, G1, hBG, D0, D1⟩ := vR_busy hv
  have hfl := kind_len (f := f) (by omega)
  obtain ⟨g00, g01⟩ := hfB.at 0
  obtain ⟨g10, g11⟩ := hfB.at 1
  obtain ⟨f0, hf0⟩ : ∃ x, x = f.getD 0 0 := ⟨_, rfl⟩
  obtain ⟨f1, hf1⟩ : ∃ x, x = f.getD 1 0 := ⟨_, rfl⟩
  rw [← hf0] at g00 g01
  rw [← hf1] at g10 g11
  have HF0 := Lib.hid (And.intro hf0 hf1)
  obtain ⟨ll, hll⟩ : ∃ ll : Nat, f0 % 16 = ll := ⟨(f0 % 16).toNat, by omega⟩
  have hll16 : ll < 16 := by omega
  have hrem : f0.tmod 16 = (ll : Int) := by rw [Int.tmod_eq_emod_of_nonneg g00]; exact hll
  have wf0 : IntKind.i64.wrap f0 = f0 := IntWalk.i64_in _ (by omega)
  have wf1 : IntKind.i64.wrap f1 = f1 := IntWalk.i64_in _ (by omega)
  have wll : IntKind.i64.wrap (ll : Int) = (ll : Int) := IntWalk.i64_in _ (by omega)
  have hcF1 : ¬ cF = 1 := by omega
  have hcF2 : ¬ cF = 2 := by omega
  try rw [← hf0]
  try rw [← hf1]
  try rw [hll]
  try rw [Int.toNat_natCast]
  clear hf0 hf1
  obtain ⟨hn, b0, b1⟩ := vR_len hv
  obtain ⟨t0, t1⟩ := inB_t (show inB t 0 1099511627776 = true from ht)
  have u1 := u8_of b0 b1
  have K := fun w h => kind45 F 8 cF f w hfl h hfB hfc
  simp only [hk] at K
  replace K := Lib.hid K
  have HL := Lib.hid hl
  have HB := Lib.hid hb
  have HV := Lib.hid hv
  have HFL := Lib.hid hfl
  have HY := Lib.hid hfB
  have HFB := Lib.hid hfb
  have HKK := Lib.hid hk
  clear hl hb hv ht hfl hfb hfB hk
  go_enter Try.func25, Try.ntmps25
  go_wp2_with fail
  refine (frame40 ⟨w.heap.size + 2, 0, none⟩ 2 2 [48, Bl] _ rfl (Bt.of_block (new_at (by simp) _)) (by omega)).mono ?_
  rintro r w1 ⟨v1, rfl, hv1, hb1⟩
  obtain ⟨KA, kc, rfl, hkc, _, hkb, hkf0, _⟩ := hv1.bt
  rw [pad_len (by simp)] at hkc ⊢
  have hg1 := chain (w := w) (by go_grown) hb1
  have P1 := (((Cl.new (w := w) rfl [.slice A n c, .int .i64 Le, .int .i64 Nu, .int .i64 Bl, .int .i64 Gt, .bool true, .bool false, .int .i64 Dl, .bool false] 30).below ((Below.refl _ _).alloc (Nat.le_refl _) _)).below ((Below.refl _ _).alloc (Nat.le_refl _) _)).below hb1
  have Q1 := ((Cl.new (P := w.heap.size + 1) (by simp) [.slice none 0 0, .int .i64 0, .int .i64 0, .int .i64 0, .int .i64 0, .bool false, .bool false, .int .i64 0, .bool false] 30).below ((Below.refl _ _).alloc (Nat.le_refl _) _)).below hb1
  have z1 := hb1.size
  simp at z1
  have XK : Fr (w.heap.size + 2) KA := fun b o e => by have h := hkf0 b o e; simp at h; omega
  have HXK := Lib.hid XK
  have HKB1 := Lib.hid hkb
  have HP := Lib.hid P1
  have HQ := Lib.hid Q1
  have HG1 := Lib.hid hg1
  obtain ⟨p0, p1, p2, p3, p4, p5, p6, p7, p8⟩ := P1.cells9
  have e0 := P1.f 0 rfl
  have zp := P1.1
  have hmade := made_at (W := w1) (g := w1.heap.size) rfl (Nat.le_refl _)
  clear P1 Q1 hb1 XK hkb hkf0 hv1 hg1
  go_wp2_with (at_builtin; go_loud (refine app_bt rfl _ _ rfl w1.heap.size 0 _ [] rfl hmade A n c l rfl HL.out ?c1 ?c2 ?c3 ?_))
  case c1 => exact (HB.out.below HG1.out).below ((Below.refl _ _).alloc (Nat.le_refl _) _)
  case c2 => omega
  case c3 => simp
  intro v2 w2 hown2 hb2
  have HB2 : Below w1.heap.size w1 w2 := ((Below.refl _ _).alloc (Nat.le_refl _) _).trans hb2
  have hown : w2.ownsRow w1.heap.size 5 1 v2 n (l.map (Value.int .u8)) := by simpa using hown2
  obtain ⟨A1, c1, rfl, hc1, hm1, hbt, hfr, hlt⟩ := Own.bt (show Own w2 w1.heap.size v2 l by unfold Own; rw [HL.out]; exact hown)
  rw [HL.out] at hc1 hown ⊢
  have hg2 := chain HG1.out HB2
  have P2 := HP.out.below HB2
  have Q2 := HQ.out.below HB2
  have K2 := HKB1.out.below HB2
  have s2 := HB2.size
  clear p0 p1 p2 p3 p4 p5 p6 p7 p8 e0 zp hmade hown2 hb2
  obtain ⟨p0, p1, p2, p3, p4, p5, p6, p7, p8⟩ := P2.cells9
  have e0 := P2.f 0 rfl
  have zp := P2.1
  go_upto_region 3 with fail
  obtain ⟨w5, hw5⟩ : ∃ w5, w5 = w2.setCell ⟨w.heap.size, 0, none⟩ (.slice A1 n c1) := ⟨_, rfl⟩
  have P5 : Cl w.heap.size w5 [.slice A1 n c1, .int .i64 Le, .int .i64 Nu, .int .i64 Bl, .int .i64 Gt, .bool true, .bool false, .int .i64 Dl, .bool false] := by rw [hw5]; exact P2.set 0 _
  have Q5 : Cl (w.heap.size + 1) w5 [.slice none 0 0, .int .i64 0, .int .i64 0, .int .i64 0, .int .i64 0, .bool false, .bool false, .int .i64 0, .bool false] := by rw [hw5]; exact Q2.far (by omega) _ _
  have B5 : Bt w5 A1 l := by
    rw [hw5]
    exact hbt.set _ (fun b o e => by have := hfr b o e; omega) _ _
  have K5 : Bt w5 KA (pad [48, Bl]) := by
    rw [hw5]
    exact K2.set _ (fun b o e => by have := HXK.out b o e; omega) _ _
  have F5 : Bt w5 F f := by
    rw [hw5]
    intro h0
    obtain ⟨bF', oF', e', hbl⟩ := HFB.out.addr h0
    exact (((HFB.out.below hg2)).set _ (fun b o e => by
      rw [e] at e'; injection e' with e'; injection e' with e1 e2
      omega) _ _) h0
  have O5 : w5.ownsRow w1.heap.size 5 1 (.slice A1 n c1) n (l.map (Value.int .u8)) := by
    rw [hw5]
    exact ownsRow_setCell_below hown (by show w.heap.size < w1.heap.size; omega) _
  have G5 : Below w.heap.size w w5 := by rw [hw5]; exact hg2.setCell (Nat.le_refl _) _
  have X5 : Fr (w.heap.size + 2) A1 := fun b o e => by have := hfr b o e; omega
  have s5 : w1.heap.size ≤ w5.heap.size := by rw [hw5]; simpa using s2
  rw [← hw5]
  clear hw5 P2 Q2 K2 hbt hfr hlt hown hg2 p0 p1 p2 p3 p4 p5 p6 p7 p8 e0 zp HP HQ HB HFB HG1 HKB1 HB2 s2
  have HB5 := Lib.hid B5
  have HO5 := Lib.hid O5
  have HG5 := Lib.hid G5
  have HX5 := Lib.hid X5
  have HK5 := Lib.hid K5
  have HQ5 := Lib.hid Q5
  have HP5 := Lib.hid P5
  obtain ⟨p0, p1, p2, p3, p4, p5, p6, p7, p8⟩ := P5.cells9
  have zp := P5.1
  have zq := Q5.1
  obtain ⟨bF, oF, rfl, hbF⟩ := F5.addr (by rw [HFL.out]; omega)
  have c0 : w5.cell? ⟨bF, oF, none⟩ = some (.int .u8 (f.getD 0 0)) := (F5.at 0 (by rw [HFL.out]; omega)).1
  have c1' := (F5.at 1 (by rw [HFL.out]; omega)).1
  rw [← HF0.out.1] at c0
  rw [← HF0.out.2] at c1'
  have HF5 := Lib.hid F5
  clear P5 Q5 B5 O5 G5 X5 K5 F5
  have hx' : Dl < t ∨ (t ≤ Dl ∧ (ll : Int) ≠ Nu) := by
    rw [← HF0.out.1, hll] at hx
    omega
  have HX := Lib.hid hx'
  clear hx hx'
  have Q6 := HQ5.out
  obtain ⟨q0, q1, q2, q3, q4, q5, q6, q7, q8⟩ := Q6.cells9
  obtain ⟨f0', f1', f2', f3', f4', f5', f6', f7', f8'⟩ := Q6.free9
  have zq6 := Q6.1
  clear Q6 c1'
  rcases HX.out with h1 | ⟨h1, h2⟩
  · have h1' : decide (Dl < t) = true := by simp [h1]
    go_upto_region 13 with (go_at_call 45; refine (K.out _ HF5.out).mono ?_; rintro r w6 ⟨rfl, rfl⟩)
    go_quiet (fail)
    go_wp2_with fail
    refine bodyPost_ret (v := .tuple #[.agg #[.slice none 0 0, .int .i64 0, .int .i64 0, .int .i64 Bl, .int .i64 0, .bool false, .bool false, .int .i64 0, .bool true], .slice none 0 0, .int .i64 0]) (by simp [results, Try.results25, go_sem, q0, q1, q2, q3, q4, q5, q6, q7, q8, zq6] <;> first | rfl | ((repeat' apply And.intro) <;> rfl)) rfl ⟨none, 0, 0, none, 0, 0, rfl, rfl, by omega, Bt.nil _ _, Fr.none _, rfl, by omega, Bt.nil _ _, Fr.none _, below_set9 (chain HG5.out (below_drewN _ _)) (by omega) _ _ _ _ _ _ _ _ _⟩
  · have h1' : decide (Dl < t) = false := by simp; omega
    have h2' : ((ll : Int) != Nu) = true := by simp [h2]
    go_upto_region 13 with (go_at_call 45; refine (K.out _ HF5.out).mono ?_; rintro r w6 ⟨rfl, rfl⟩)
    go_quiet (fail)
    go_wp2_with fail
    refine bodyPost_ret (v := .tuple #[.agg #[.slice none 0 0, .int .i64 0, .int .i64 0, .int .i64 Bl, .int .i64 0, .bool false, .bool false, .int .i64 0, .bool true], .slice none 0 0, .int .i64 0]) (by simp [results, Try.results25, go_sem, q0, q1, q2, q3, q4, q5, q6, q7, q8, zq6] <;> first | rfl | ((repeat' apply And.intro) <;> rfl)) rfl ⟨none, 0, 0, none, 0, 0, rfl, rfl, by omega, Bt.nil _ _, Fr.none _, rfl, by omega, Bt.nil _ _, Fr.none _, below_set9 (chain HG5.out (below_drewN _ _)) (by omega) _ _ _ _ _ _ _ _ _⟩
end Go.Proofs.Ytfjeediecmhedaa
