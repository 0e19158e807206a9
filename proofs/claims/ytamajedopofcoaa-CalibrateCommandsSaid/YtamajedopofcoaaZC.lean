/-
  The contracts of Read and of its reference. No condition but the slices' shape.
  Changes made to a working page, in plain terms and in memory. No condition.
  A map literal that a call makes: an insert, a look-up. No condition.
  The bytes of a number. No condition.
  The contracts of index and of its reference. No condition but the slice's length.
-/
import Derived.Test.YtamajedopofcoaaZB
import Derived.Maps.Own
import Derived.Maps.OwnOps
set_option linter.unusedVariables false
set_option linter.unusedSimpArgs false
namespace Go.Proofs.Ytamajedopofcoaa
open Go.RowKit
/-- what Read answers -/
def readM (p : PG) (i : Int) : Int × Int :=
  if p.ok = false then (0, 1) else if i < 0 ∨ (p.R.length : Int) ≤ i then (0, 2) else if p.Ac = 0 then (p.R.getD i.toNat 0, 0) else (p.W.getD i.toNat 0, 0)
set_option maxRecDepth 100000 in
set_option maxHeartbeats 16000000 in
theorem read13 (A : Option Addr) (n c : Nat) (A2 : Option Addr) (n2 c2 : Nat) (Ac Pe : Int) (A3 : Option Addr) (m c3 : Nat) (R W : List Int) (ch : List (Int × Int)) (i : Int) (w : World) (hl : R.length = n) (hb : Ik .i64 w A R) (hc : n ≤ c) (hl2 : W.length = n2) (hb2 : Ik .i64 w A2 W) (hc2 : n2 ≤ c2) (hl3 : ch.length = m) (hb3 : Ik .i64 w A3 (flat ch)) (hc3 : m ≤ c3) (hs : n ≤ 5000) (hs2 : n2 ≤ 5000) (hs3 : m ≤ 5000) : Calls Try.prog 13 #[.agg #[.slice A n c, .slice A2 n2 c2, .int .i64 Ac, .int .i64 Pe, .slice A3 m c3], .int .i64 i] w fun r w' => r = .returned (.tuple #[.int .i64 (readM ⟨R, W, Ac, Pe, ch⟩ i).1, .int .i64 (readM ⟨R, W, Ac, Pe, ch⟩ i).2]) ∧ Below w.heap.size w w' := by
  cases hv : vP R W Ac Pe ch
  · rw [show readM ⟨R, W, Ac, Pe, ch⟩ i = (0, 1) from by unfold readM; rw [if_pos (show PG.ok ⟨R, W, Ac, Pe, ch⟩ = false from hv)]]
    have KV := fun w h h2 h3 => valid11 A n c A2 n2 c2 Ac Pe A3 m c3 R W ch w hl h hc hl2 h2 hc2 hl3 h3 hc3 hs hs2 hs3
    rw [hv] at KV
    replace KV := Lib.hid KV
    have C1 := Cl.new (w := w) rfl [.slice A n c, .slice A2 n2 c2, .int .i64 Ac, .int .i64 Pe, .slice A3 m c3] 25
    have G8 : Below w.heap.size w (w.alloc (.cells #[.slice A n c, .slice A2 n2 c2, .int .i64 Ac, .int .i64 Pe, .slice A3 m c3] 25)) := by go_grown
    have HB1 := Lib.hid (hb.below G8)
    have HB2 := Lib.hid (hb2.below G8)
    have HB3 := Lib.hid (hb3.below G8)
    have HG8 := Lib.hid G8
    have HC := Lib.hid C1
    clear C1 G8
    clear hl hl2 hl3 hb hb2 hb3 hv 
    go_enter Try.func13, Try.ntmps13
    go_wp2_with fail
    refine (KV.out _ HB1.out HB2.out HB3.out).mono ?_
    rintro r w1 ⟨rfl, hb1⟩
    have C1 := HC.out.below hb1
    have HG := Lib.hid (chain HG8.out hb1)
    have HI1 := Lib.hid (HB1.out.below hb1)
    have HI2 := Lib.hid (HB2.out.below hb1)
    have HP := Lib.hid C1
    clear C1 hb1 HB1 HB2 HB3 HG8 HC
    have p0 := HP.out.c 0 rfl
    have p1 := HP.out.c 1 rfl
    have p2 := HP.out.c 2 rfl
    have p3 := HP.out.c 3 rfl
    have p4 := HP.out.c 4 rfl
    have zp := HP.out.1
    go_wp2_with fail
    refine bodyPost_ret (v := .tuple #[.int .i64 0, .int .i64 1]) (by simp [results, Try.results13, go_sem] <;> first | rfl | ((repeat' apply And.intro) <;> rfl)) rfl ⟨rfl, HG.out⟩
  have hok : ¬ PG.ok ⟨R, W, Ac, Pe, ch⟩ = false := by unfold PG.ok; simp [hv]
  have hnn : n2 = n := by rw [← hl, ← hl2]; exact (vP_t hv).2.2.1
  by_cases h0 : i < 0
  · rw [show readM ⟨R, W, Ac, Pe, ch⟩ i = (0, 2) from by unfold readM; rw [if_neg hok, if_pos (.inl h0)]]
    have d0 : decide (i < 0) = true := by simp; omega
    have KV := fun w h h2 h3 => valid11 A n c A2 n2 c2 Ac Pe A3 m c3 R W ch w hl h hc hl2 h2 hc2 hl3 h3 hc3 hs hs2 hs3
    rw [hv] at KV
    replace KV := Lib.hid KV
    have C1 := Cl.new (w := w) rfl [.slice A n c, .slice A2 n2 c2, .int .i64 Ac, .int .i64 Pe, .slice A3 m c3] 25
    have G8 : Below w.heap.size w (w.alloc (.cells #[.slice A n c, .slice A2 n2 c2, .int .i64 Ac, .int .i64 Pe, .slice A3 m c3] 25)) := by go_grown
    have HB1 := Lib.hid (hb.below G8)
    have HB2 := Lib.hid (hb2.below G8)
    have HB3 := Lib.hid (hb3.below G8)
    have HG8 := Lib.hid G8
    have HC := Lib.hid C1
    clear C1 G8
    clear hl hl2 hl3 hb hb2 hb3 hv h0 hok hnn
    go_enter Try.func13, Try.ntmps13
    go_wp2_with fail
    refine (KV.out _ HB1.out HB2.out HB3.out).mono ?_
    rintro r w1 ⟨rfl, hb1⟩
    have C1 := HC.out.below hb1
    have HG := Lib.hid (chain HG8.out hb1)
    have HI1 := Lib.hid (HB1.out.below hb1)
    have HI2 := Lib.hid (HB2.out.below hb1)
    have HP := Lib.hid C1
    clear C1 hb1 HB1 HB2 HB3 HG8 HC
    have p0 := HP.out.c 0 rfl
    have p1 := HP.out.c 1 rfl
    have p2 := HP.out.c 2 rfl
    have p3 := HP.out.c 3 rfl
    have p4 := HP.out.c 4 rfl
    have zp := HP.out.1
    go_wp2_with fail
    refine bodyPost_ret (v := .tuple #[.int .i64 0, .int .i64 2]) (by simp [results, Try.results13, go_sem] <;> first | rfl | ((repeat' apply And.intro) <;> rfl)) rfl ⟨rfl, HG.out⟩
  by_cases h1 : (n : Int) ≤ i
  · rw [show readM ⟨R, W, Ac, Pe, ch⟩ i = (0, 2) from by unfold readM; rw [if_neg hok, if_pos (.inr (by show (R.length : Int) ≤ i; rw [hl]; exact h1))]]
    have d0 : decide (i < 0) = false := by simp; omega
    have d1 : decide ((n : Int) ≤ i) = true := by simp; omega
    have KV := fun w h h2 h3 => valid11 A n c A2 n2 c2 Ac Pe A3 m c3 R W ch w hl h hc hl2 h2 hc2 hl3 h3 hc3 hs hs2 hs3
    rw [hv] at KV
    replace KV := Lib.hid KV
    have C1 := Cl.new (w := w) rfl [.slice A n c, .slice A2 n2 c2, .int .i64 Ac, .int .i64 Pe, .slice A3 m c3] 25
    have G8 : Below w.heap.size w (w.alloc (.cells #[.slice A n c, .slice A2 n2 c2, .int .i64 Ac, .int .i64 Pe, .slice A3 m c3] 25)) := by go_grown
    have HB1 := Lib.hid (hb.below G8)
    have HB2 := Lib.hid (hb2.below G8)
    have HB3 := Lib.hid (hb3.below G8)
    have HG8 := Lib.hid G8
    have HC := Lib.hid C1
    clear C1 G8
    clear hl hl2 hl3 hb hb2 hb3 hv h0 h1 hok hnn
    go_enter Try.func13, Try.ntmps13
    go_wp2_with fail
    refine (KV.out _ HB1.out HB2.out HB3.out).mono ?_
    rintro r w1 ⟨rfl, hb1⟩
    have C1 := HC.out.below hb1
    have HG := Lib.hid (chain HG8.out hb1)
    have HI1 := Lib.hid (HB1.out.below hb1)
    have HI2 := Lib.hid (HB2.out.below hb1)
    have HP := Lib.hid C1
    clear C1 hb1 HB1 HB2 HB3 HG8 HC
    have p0 := HP.out.c 0 rfl
    have p1 := HP.out.c 1 rfl
    have p2 := HP.out.c 2 rfl
    have p3 := HP.out.c 3 rfl
    have p4 := HP.out.c 4 rfl
    have zp := HP.out.1
    go_wp2_with fail
    refine bodyPost_ret (v := .tuple #[.int .i64 0, .int .i64 2]) (by simp [results, Try.results13, go_sem] <;> first | rfl | ((repeat' apply And.intro) <;> rfl)) rfl ⟨rfl, HG.out⟩
  obtain ⟨k, rfl⟩ : ∃ k : Nat, i = k := ⟨i.toNat, by omega⟩
  have hkn : k < n := by omega
  have hno : ¬ ((k : Int) < 0 ∨ (R.length : Int) ≤ k) := by rw [hl]; omega
  obtain ⟨b, o, rfl, hbl⟩ := hb.addr (by omega)
  obtain ⟨b2, o2, rfl, hbl2⟩ := hb2.addr (by omega)
  have HL := Lib.hid hl
  have HL2 := Lib.hid hl2
  by_cases ha : Ac = 0
  · rw [show readM ⟨R, W, Ac, Pe, ch⟩ k = (R.getD k 0, 0) from by unfold readM; rw [if_neg hok, if_neg hno, if_pos ha]; rfl]
    obtain ⟨y, hy⟩ : ∃ y, y = R.getD k 0 := ⟨_, rfl⟩
    rw [← hy]
    have HY := Lib.hid hy
    clear hy
    have hk2 : (k : Int) < (n : Int) := by omega
    have hk3 : (k : Int) < (n2 : Int) := by omega
    have hk4 : k < n2 := by omega
    have d0 : decide ((k : Int) < 0) = false := decide_eq_false (by omega)
    have d1 : decide ((n : Int) ≤ (k : Int)) = false := by simp; omega
    have d2 : (Ac == 0) = true := by simp [ha]
    have d3 : decide (Ac = 0) = true := by simp [ha]
    have KV := fun w h h2 h3 => valid11 (some ⟨b, o, none⟩) n c (some ⟨b2, o2, none⟩) n2 c2 Ac Pe A3 m c3 R W ch w hl h hc hl2 h2 hc2 hl3 h3 hc3 hs hs2 hs3
    rw [hv] at KV
    replace KV := Lib.hid KV
    have C1 := Cl.new (w := w) rfl [.slice (some ⟨b, o, none⟩) n c, .slice (some ⟨b2, o2, none⟩) n2 c2, .int .i64 Ac, .int .i64 Pe, .slice A3 m c3] 25
    have G8 : Below w.heap.size w (w.alloc (.cells #[.slice (some ⟨b, o, none⟩) n c, .slice (some ⟨b2, o2, none⟩) n2 c2, .int .i64 Ac, .int .i64 Pe, .slice A3 m c3] 25)) := by go_grown
    have HB1 := Lib.hid (hb.below G8)
    have HB2 := Lib.hid (hb2.below G8)
    have HB3 := Lib.hid (hb3.below G8)
    have HG8 := Lib.hid G8
    have HC := Lib.hid C1
    clear C1 G8
    clear hl hl2 hl3 hb hb2 hb3 hv h0 h1 hok hno ha hnn
    go_enter Try.func13, Try.ntmps13
    go_wp2_with fail
    refine (KV.out _ HB1.out HB2.out HB3.out).mono ?_
    rintro r w1 ⟨rfl, hb1⟩
    have C1 := HC.out.below hb1
    have HG := Lib.hid (chain HG8.out hb1)
    have HI1 := Lib.hid (HB1.out.below hb1)
    have HI2 := Lib.hid (HB2.out.below hb1)
    have HP := Lib.hid C1
    clear C1 hb1 HB1 HB2 HB3 HG8 HC
    have p0 := HP.out.c 0 rfl
    have p1 := HP.out.c 1 rfl
    have p2 := HP.out.c 2 rfl
    have p3 := HP.out.c 3 rfl
    have p4 := HP.out.c 4 rfl
    have zp := HP.out.1
    have q1 := (HI1.out.at k (by rw [HL.out]; omega)).1
    rw [← HY.out] at q1
    go_wp2_with fail
    refine bodyPost_ret (v := .tuple #[.int .i64 y, .int .i64 0]) (by simp [results, Try.results13, go_sem] <;> first | rfl | ((repeat' apply And.intro) <;> rfl)) rfl ⟨rfl, HG.out⟩
  · rw [show readM ⟨R, W, Ac, Pe, ch⟩ k = (W.getD k 0, 0) from by unfold readM; rw [if_neg hok, if_neg hno, if_neg ha]; rfl]
    obtain ⟨y, hy⟩ : ∃ y, y = W.getD k 0 := ⟨_, rfl⟩
    rw [← hy]
    have HY := Lib.hid hy
    clear hy
    have hk2 : (k : Int) < (n : Int) := by omega
    have hk3 : (k : Int) < (n2 : Int) := by omega
    have hk4 : k < n2 := by omega
    have d0 : decide ((k : Int) < 0) = false := decide_eq_false (by omega)
    have d1 : decide ((n : Int) ≤ (k : Int)) = false := by simp; omega
    have d2 : (Ac == 0) = false := by simp [ha]
    have d3 : decide (Ac = 0) = false := by simp [ha]
    have KV := fun w h h2 h3 => valid11 (some ⟨b, o, none⟩) n c (some ⟨b2, o2, none⟩) n2 c2 Ac Pe A3 m c3 R W ch w hl h hc hl2 h2 hc2 hl3 h3 hc3 hs hs2 hs3
    rw [hv] at KV
    replace KV := Lib.hid KV
    have C1 := Cl.new (w := w) rfl [.slice (some ⟨b, o, none⟩) n c, .slice (some ⟨b2, o2, none⟩) n2 c2, .int .i64 Ac, .int .i64 Pe, .slice A3 m c3] 25
    have G8 : Below w.heap.size w (w.alloc (.cells #[.slice (some ⟨b, o, none⟩) n c, .slice (some ⟨b2, o2, none⟩) n2 c2, .int .i64 Ac, .int .i64 Pe, .slice A3 m c3] 25)) := by go_grown
    have HB1 := Lib.hid (hb.below G8)
    have HB2 := Lib.hid (hb2.below G8)
    have HB3 := Lib.hid (hb3.below G8)
    have HG8 := Lib.hid G8
    have HC := Lib.hid C1
    clear C1 G8
    clear hl hl2 hl3 hb hb2 hb3 hv h0 h1 hok hno ha hnn
    go_enter Try.func13, Try.ntmps13
    go_wp2_with fail
    refine (KV.out _ HB1.out HB2.out HB3.out).mono ?_
    rintro r w1 ⟨rfl, hb1⟩
    have C1 := HC.out.below hb1
    have HG := Lib.hid (chain HG8.out hb1)
    have HI1 := Lib.hid (HB1.out.below hb1)
    have HI2 := Lib.hid (HB2.out.below hb1)
    have HP := Lib.hid C1
    clear C1 hb1 HB1 HB2 HB3 HG8 HC
    have p0 := HP.out.c 0 rfl
    have p1 := HP.out.c 1 rfl
    have p2 := HP.out.c 2 rfl
    have p3 := HP.out.c 3 rfl
    have p4 := HP.out.c 4 rfl
    have zp := HP.out.1
    have q1 := (HI2.out.at k (by rw [HL2.out]; omega)).1
    rw [← HY.out] at q1
    go_wp2_with fail
    refine bodyPost_ret (v := .tuple #[.int .i64 y, .int .i64 0]) (by simp [results, Try.results13, go_sem] <;> first | rfl | ((repeat' apply And.intro) <;> rfl)) rfl ⟨rfl, HG.out⟩
set_option maxRecDepth 100000 in
set_option maxHeartbeats 16000000 in
theorem rread14 (A : Option Addr) (n c : Nat) (A2 : Option Addr) (n2 c2 : Nat) (Ac Pe : Int) (A3 : Option Addr) (m c3 : Nat) (R W : List Int) (ch : List (Int × Int)) (i : Int) (w : World) (hl : R.length = n) (hb : Ik .i64 w A R) (hc : n ≤ c) (hl2 : W.length = n2) (hb2 : Ik .i64 w A2 W) (hc2 : n2 ≤ c2) (hl3 : ch.length = m) (hb3 : Ik .i64 w A3 (flat ch)) (hc3 : m ≤ c3) (hs : n ≤ 5000) (hs2 : n2 ≤ 5000) (hs3 : m ≤ 5000) : Calls Try.prog 14 #[.agg #[.slice A n c, .slice A2 n2 c2, .int .i64 Ac, .int .i64 Pe, .slice A3 m c3], .int .i64 i] w fun r w' => r = .returned (.tuple #[.int .i64 (readM ⟨R, W, Ac, Pe, ch⟩ i).1, .int .i64 (readM ⟨R, W, Ac, Pe, ch⟩ i).2]) ∧ Below w.heap.size w w' := by
  cases hv : vP R W Ac Pe ch
  · rw [show readM ⟨R, W, Ac, Pe, ch⟩ i = (0, 1) from by unfold readM; rw [if_pos (show PG.ok ⟨R, W, Ac, Pe, ch⟩ = false from hv)]]
    have KV := fun w h h2 h3 => rvalid12 A n c A2 n2 c2 Ac Pe A3 m c3 R W ch w hl h hc hl2 h2 hc2 hl3 h3 hc3 hs hs2 hs3
    rw [hv] at KV
    replace KV := Lib.hid KV
    have C1 := Cl.new (w := w) rfl [.slice A n c, .slice A2 n2 c2, .int .i64 Ac, .int .i64 Pe, .slice A3 m c3] 25
    have G8 : Below w.heap.size w (w.alloc (.cells #[.slice A n c, .slice A2 n2 c2, .int .i64 Ac, .int .i64 Pe, .slice A3 m c3] 25)) := by go_grown
    have HB1 := Lib.hid (hb.below G8)
    have HB2 := Lib.hid (hb2.below G8)
    have HB3 := Lib.hid (hb3.below G8)
    have HG8 := Lib.hid G8
    have HC := Lib.hid C1
    clear C1 G8
    clear hl hl2 hl3 hb hb2 hb3 hv 
    go_enter Try.func14, Try.ntmps14
    go_wp2_with fail
    refine (KV.out _ HB1.out HB2.out HB3.out).mono ?_
    rintro r w1 ⟨rfl, hb1⟩
    have C1 := HC.out.below hb1
    have HG := Lib.hid (chain HG8.out hb1)
    have HI1 := Lib.hid (HB1.out.below hb1)
    have HI2 := Lib.hid (HB2.out.below hb1)
    have HP := Lib.hid C1
    clear C1 hb1 HB1 HB2 HB3 HG8 HC
    have p0 := HP.out.c 0 rfl
    have p1 := HP.out.c 1 rfl
    have p2 := HP.out.c 2 rfl
    have p3 := HP.out.c 3 rfl
    have p4 := HP.out.c 4 rfl
    have zp := HP.out.1
    go_wp2_with fail
    refine bodyPost_ret (v := .tuple #[.int .i64 0, .int .i64 1]) (by simp [results, Try.results14, go_sem] <;> first | rfl | ((repeat' apply And.intro) <;> rfl)) rfl ⟨rfl, HG.out⟩
  have hok : ¬ PG.ok ⟨R, W, Ac, Pe, ch⟩ = false := by unfold PG.ok; simp [hv]
  have hnn : n2 = n := by rw [← hl, ← hl2]; exact (vP_t hv).2.2.1
  by_cases h0 : i < 0
  · rw [show readM ⟨R, W, Ac, Pe, ch⟩ i = (0, 2) from by unfold readM; rw [if_neg hok, if_pos (.inl h0)]]
    have d0 : decide (i < 0) = true := by simp; omega
    have KV := fun w h h2 h3 => rvalid12 A n c A2 n2 c2 Ac Pe A3 m c3 R W ch w hl h hc hl2 h2 hc2 hl3 h3 hc3 hs hs2 hs3
    rw [hv] at KV
    replace KV := Lib.hid KV
    have C1 := Cl.new (w := w) rfl [.slice A n c, .slice A2 n2 c2, .int .i64 Ac, .int .i64 Pe, .slice A3 m c3] 25
    have G8 : Below w.heap.size w (w.alloc (.cells #[.slice A n c, .slice A2 n2 c2, .int .i64 Ac, .int .i64 Pe, .slice A3 m c3] 25)) := by go_grown
    have HB1 := Lib.hid (hb.below G8)
    have HB2 := Lib.hid (hb2.below G8)
    have HB3 := Lib.hid (hb3.below G8)
    have HG8 := Lib.hid G8
    have HC := Lib.hid C1
    clear C1 G8
    clear hl hl2 hl3 hb hb2 hb3 hv h0 hok hnn
    go_enter Try.func14, Try.ntmps14
    go_wp2_with fail
    refine (KV.out _ HB1.out HB2.out HB3.out).mono ?_
    rintro r w1 ⟨rfl, hb1⟩
    have C1 := HC.out.below hb1
    have HG := Lib.hid (chain HG8.out hb1)
    have HI1 := Lib.hid (HB1.out.below hb1)
    have HI2 := Lib.hid (HB2.out.below hb1)
    have HP := Lib.hid C1
    clear C1 hb1 HB1 HB2 HB3 HG8 HC
    have p0 := HP.out.c 0 rfl
    have p1 := HP.out.c 1 rfl
    have p2 := HP.out.c 2 rfl
    have p3 := HP.out.c 3 rfl
    have p4 := HP.out.c 4 rfl
    have zp := HP.out.1
    go_wp2_with fail
    refine bodyPost_ret (v := .tuple #[.int .i64 0, .int .i64 2]) (by simp [results, Try.results14, go_sem] <;> first | rfl | ((repeat' apply And.intro) <;> rfl)) rfl ⟨rfl, HG.out⟩
  by_cases h1 : (n : Int) ≤ i
  · rw [show readM ⟨R, W, Ac, Pe, ch⟩ i = (0, 2) from by unfold readM; rw [if_neg hok, if_pos (.inr (by show (R.length : Int) ≤ i; rw [hl]; exact h1))]]
    have d0 : decide (i < 0) = false := by simp; omega
    have d1 : decide ((n2 : Int) ≤ i) = true := by simp; omega
    have KV := fun w h h2 h3 => rvalid12 A n c A2 n2 c2 Ac Pe A3 m c3 R W ch w hl h hc hl2 h2 hc2 hl3 h3 hc3 hs hs2 hs3
    rw [hv] at KV
    replace KV := Lib.hid KV
    have C1 := Cl.new (w := w) rfl [.slice A n c, .slice A2 n2 c2, .int .i64 Ac, .int .i64 Pe, .slice A3 m c3] 25
    have G8 : Below w.heap.size w (w.alloc (.cells #[.slice A n c, .slice A2 n2 c2, .int .i64 Ac, .int .i64 Pe, .slice A3 m c3] 25)) := by go_grown
    have HB1 := Lib.hid (hb.below G8)
    have HB2 := Lib.hid (hb2.below G8)
    have HB3 := Lib.hid (hb3.below G8)
    have HG8 := Lib.hid G8
    have HC := Lib.hid C1
    clear C1 G8
    clear hl hl2 hl3 hb hb2 hb3 hv h0 h1 hok hnn
    go_enter Try.func14, Try.ntmps14
    go_wp2_with fail
    refine (KV.out _ HB1.out HB2.out HB3.out).mono ?_
    rintro r w1 ⟨rfl, hb1⟩
    have C1 := HC.out.below hb1
    have HG := Lib.hid (chain HG8.out hb1)
    have HI1 := Lib.hid (HB1.out.below hb1)
    have HI2 := Lib.hid (HB2.out.below hb1)
    have HP := Lib.hid C1
    clear C1 hb1 HB1 HB2 HB3 HG8 HC
    have p0 := HP.out.c 0 rfl
    have p1 := HP.out.c 1 rfl
    have p2 := HP.out.c 2 rfl
    have p3 := HP.out.c 3 rfl
    have p4 := HP.out.c 4 rfl
    have zp := HP.out.1
    go_wp2_with fail
    refine bodyPost_ret (v := .tuple #[.int .i64 0, .int .i64 2]) (by simp [results, Try.results14, go_sem] <;> first | rfl | ((repeat' apply And.intro) <;> rfl)) rfl ⟨rfl, HG.out⟩
  obtain ⟨k, rfl⟩ : ∃ k : Nat, i = k := ⟨i.toNat, by omega⟩
  have hkn : k < n := by omega
  have hno : ¬ ((k : Int) < 0 ∨ (R.length : Int) ≤ k) := by rw [hl]; omega
  obtain ⟨b, o, rfl, hbl⟩ := hb.addr (by omega)
  obtain ⟨b2, o2, rfl, hbl2⟩ := hb2.addr (by omega)
  have HL := Lib.hid hl
  have HL2 := Lib.hid hl2
  by_cases ha : Ac = 0
  · rw [show readM ⟨R, W, Ac, Pe, ch⟩ k = (R.getD k 0, 0) from by unfold readM; rw [if_neg hok, if_neg hno, if_pos ha]; rfl]
    obtain ⟨y, hy⟩ : ∃ y, y = R.getD k 0 := ⟨_, rfl⟩
    rw [← hy]
    have HY := Lib.hid hy
    clear hy
    have hk2 : (k : Int) < (n : Int) := by omega
    have hk3 : (k : Int) < (n2 : Int) := by omega
    have hk4 : k < n2 := by omega
    have d0 : decide ((k : Int) < 0) = false := decide_eq_false (by omega)
    have d1 : decide ((n2 : Int) ≤ (k : Int)) = false := by simp; omega
    have d2 : (Ac == 0) = true := by simp [ha]
    have d3 : decide (Ac = 0) = true := by simp [ha]
    have KV := fun w h h2 h3 => rvalid12 (some ⟨b, o, none⟩) n c (some ⟨b2, o2, none⟩) n2 c2 Ac Pe A3 m c3 R W ch w hl h hc hl2 h2 hc2 hl3 h3 hc3 hs hs2 hs3
    rw [hv] at KV
    replace KV := Lib.hid KV
    have C1 := Cl.new (w := w) rfl [.slice (some ⟨b, o, none⟩) n c, .slice (some ⟨b2, o2, none⟩) n2 c2, .int .i64 Ac, .int .i64 Pe, .slice A3 m c3] 25
    have G8 : Below w.heap.size w (w.alloc (.cells #[.slice (some ⟨b, o, none⟩) n c, .slice (some ⟨b2, o2, none⟩) n2 c2, .int .i64 Ac, .int .i64 Pe, .slice A3 m c3] 25)) := by go_grown
    have HB1 := Lib.hid (hb.below G8)
    have HB2 := Lib.hid (hb2.below G8)
    have HB3 := Lib.hid (hb3.below G8)
    have HG8 := Lib.hid G8
    have HC := Lib.hid C1
    clear C1 G8
    clear hl hl2 hl3 hb hb2 hb3 hv h0 h1 hok hno ha hnn
    go_enter Try.func14, Try.ntmps14
    go_wp2_with fail
    refine (KV.out _ HB1.out HB2.out HB3.out).mono ?_
    rintro r w1 ⟨rfl, hb1⟩
    have C1 := HC.out.below hb1
    have HG := Lib.hid (chain HG8.out hb1)
    have HI1 := Lib.hid (HB1.out.below hb1)
    have HI2 := Lib.hid (HB2.out.below hb1)
    have HP := Lib.hid C1
    clear C1 hb1 HB1 HB2 HB3 HG8 HC
    have p0 := HP.out.c 0 rfl
    have p1 := HP.out.c 1 rfl
    have p2 := HP.out.c 2 rfl
    have p3 := HP.out.c 3 rfl
    have p4 := HP.out.c 4 rfl
    have zp := HP.out.1
    have q1 := (HI1.out.at k (by rw [HL.out]; omega)).1
    rw [← HY.out] at q1
    go_wp2_with fail
    refine bodyPost_ret (v := .tuple #[.int .i64 y, .int .i64 0]) (by simp [results, Try.results14, go_sem] <;> first | rfl | ((repeat' apply And.intro) <;> rfl)) rfl ⟨rfl, HG.out⟩
  · rw [show readM ⟨R, W, Ac, Pe, ch⟩ k = (W.getD k 0, 0) from by unfold readM; rw [if_neg hok, if_neg hno, if_neg ha]; rfl]
    obtain ⟨y, hy⟩ : ∃ y, y = W.getD k 0 := ⟨_, rfl⟩
    rw [← hy]
    have HY := Lib.hid hy
    clear hy
    have hk2 : (k : Int) < (n : Int) := by omega
    have hk3 : (k : Int) < (n2 : Int) := by omega
    have hk4 : k < n2 := by omega
    have d0 : decide ((k : Int) < 0) = false := decide_eq_false (by omega)
    have d1 : decide ((n2 : Int) ≤ (k : Int)) = false := by simp; omega
    have d2 : (Ac == 0) = false := by simp [ha]
    have d3 : decide (Ac = 0) = false := by simp [ha]
    have KV := fun w h h2 h3 => rvalid12 (some ⟨b, o, none⟩) n c (some ⟨b2, o2, none⟩) n2 c2 Ac Pe A3 m c3 R W ch w hl h hc hl2 h2 hc2 hl3 h3 hc3 hs hs2 hs3
    rw [hv] at KV
    replace KV := Lib.hid KV
    have C1 := Cl.new (w := w) rfl [.slice (some ⟨b, o, none⟩) n c, .slice (some ⟨b2, o2, none⟩) n2 c2, .int .i64 Ac, .int .i64 Pe, .slice A3 m c3] 25
    have G8 : Below w.heap.size w (w.alloc (.cells #[.slice (some ⟨b, o, none⟩) n c, .slice (some ⟨b2, o2, none⟩) n2 c2, .int .i64 Ac, .int .i64 Pe, .slice A3 m c3] 25)) := by go_grown
    have HB1 := Lib.hid (hb.below G8)
    have HB2 := Lib.hid (hb2.below G8)
    have HB3 := Lib.hid (hb3.below G8)
    have HG8 := Lib.hid G8
    have HC := Lib.hid C1
    clear C1 G8
    clear hl hl2 hl3 hb hb2 hb3 hv h0 h1 hok hno ha hnn
    go_enter Try.func14, Try.ntmps14
    go_wp2_with fail
    refine (KV.out _ HB1.out HB2.out HB3.out).mono ?_
    rintro r w1 ⟨rfl, hb1⟩
    have C1 := HC.out.below hb1
    have HG := Lib.hid (chain HG8.out hb1)
    have HI1 := Lib.hid (HB1.out.below hb1)
    have HI2 := Lib.hid (HB2.out.below hb1)
    have HP := Lib.hid C1
    clear C1 hb1 HB1 HB2 HB3 HG8 HC
    have p0 := HP.out.c 0 rfl
    have p1 := HP.out.c 1 rfl
    have p2 := HP.out.c 2 rfl
    have p3 := HP.out.c 3 rfl
    have p4 := HP.out.c 4 rfl
    have zp := HP.out.1
    have q1 := (HI2.out.at k (by rw [HL2.out]; omega)).1
    rw [← HY.out] at q1
    go_wp2_with fail
    refine bodyPost_ret (v := .tuple #[.int .i64 y, .int .i64 0]) (by simp [results, Try.results14, go_sem] <;> first | rfl | ((repeat' apply And.intro) <;> rfl)) rfl ⟨rfl, HG.out⟩
end Go.Proofs.Ytamajedopofcoaa
set_option linter.unusedVariables false
set_option linter.unusedSimpArgs false
namespace Go.Proofs.Ytamajedopofcoaa
open Go.RowKit
/-- the working page with all changes made -/
def apC (W : List Int) (ch : List (Int × Int)) : List Int := ch.foldl (fun W c => W.set c.1.toNat c.2) W
theorem apC_take {W : List Int} {ch : List (Int × Int)} {k : Nat} {p : Int × Int} (h : ch[k]? = some p) : apC W (ch.take (k + 1)) = (apC W (ch.take k)).set p.1.toNat p.2 := by
  unfold apC
  rw [List.take_add_one, h]
  simp
theorem apC_len (W : List Int) (ch : List (Int × Int)) : (apC W ch).length = W.length := by
  unfold apC
  induction ch generalizing W with
  | nil => rfl
  | cons c ch ih => simp only [List.foldl_cons]; rw [ih]; simp
theorem allC_at {n : Nat} {ch : List (Int × Int)} (h : allC n ch = true) {k : Nat} {p : Int × Int} (hp : ch[k]? = some p) : 0 ≤ p.1 ∧ p.1 < n ∧ parB p.2 = true := by
  unfold allC at h
  rw [List.all_eq_true] at h
  have := h p (List.mem_of_getElem? hp)
  unfold chB at this
  simp only [Bool.and_eq_true, decide_eq_true_eq] at this
  exact ⟨this.1.1, this.1.2, this.2⟩
/-- the cells of a row that the call has made are not frozen -/
theorem own_cl {w : World} {base g n cap size : Nat} {e : TypeId} {xs : List Value} (h : w.ownsRow base e size (.slice (some ⟨g, 0, none⟩) n cap) n xs) (h0 : 0 < n) : Cl g w xs := by
  rcases h.2 with ⟨hv, _⟩ | ⟨g', cap', cur, hv, _, hh, _⟩
  · cases hv
  · injection hv with hv; injection hv with hv; injection hv with hv
    subst hv
    obtain ⟨g2, c2, hv2, _, hlt, _, _, hc⟩ := own_form h h0
    injection hv2 with hv2; injection hv2 with hv2; injection hv2 with hv2
    subst hv2
    refine ⟨hlt, fun j v e => ⟨hc j v e, ?_⟩⟩
    simp only [World.frozen?, hh]
    simp
theorem Cl.ik {w : World} {g : Nat} {l : List Int} (h : Cl g w (l.map (Value.int .i64))) : Ik .i64 w (some ⟨g, 0, none⟩) l := fun _ => by
  refine ⟨g, 0, rfl, h.1, fun i x hx => ?_⟩
  rw [Nat.zero_add]
  exact (h.2 i _ (by simp [hx])).1
theorem Cl.seti {w : World} {g : Nat} {l : List Int} (h : Cl g w (l.map (Value.int .i64))) (i : Nat) (x : Int) : Cl g (w.setCell ⟨g, i, none⟩ (.int .i64 x)) ((l.set i x).map (Value.int .i64)) := by
  rw [List.map_set]
  exact h.set i _
end Go.Proofs.Ytamajedopofcoaa
set_option linter.unusedVariables false
set_option linter.unusedSimpArgs false
namespace Go.Proofs.Ytamajedopofcoaa
open Go.RowKit Go.Maps
theorem insert_own {H : Type} {P : Program} (w : World) {ops : Array Oper} {rest : List Oper} {o : Oper} {a : Act} {Q : Exit → Act → World → Prop}
    (hg : o.guard = none) (m x v : Operand) (t : TypeId) (hop : o.op = Op.insert t m x v)
    (k e : TypeId) (K : Keyed P k) (ht : P.underlying t = some (.map k e)) (R : Value → Option (DataW H × List MemPlace)) (b n : Nat) (D : DataW H)
    (hm : a.eval m = .map (some b)) (hown : w.ownsMap P k R b n D) (hn : n < maxLen) (key val : Value) (kl : Lit) (hx : a.eval x = key) (hv : a.eval v = val) (hkey : keyOf P k key = some kl)
    (d : DataW H) (ps : List MemPlace) (hval : R val = some (d, ps))
    (hK : ∀ w', w'.ownsMap P k R b (n + 1) (D.put kl d) → w.grownBy w' (some b) → wpList P ops Q rest (a.put o.dst undef) w') :
    wpList P ops Q (o :: rest) a w := by
  refine wpList_plain hg fun K' hK' => ?_
  obtain ⟨w', hrun, r1, r2⟩ := hown.update K ht hn hkey hval
  unfold Oper.wp
  simp [execOp, hop, hm, hx, hv, hrun, Result.andThen]
  exact hK' _ _ (hK w' r1 r2)
end Go.Proofs.Ytamajedopofcoaa
set_option linter.unusedVariables false
set_option linter.unusedSimpArgs false
namespace Go.Proofs.Ytamajedopofcoaa
open Go.RowKit
theorem info5 : (Try.prog.info? 5).map (fun i => (i.zero, i.size, i.bytes)) = some (some (.int .u8 0), 1, 1) := by kernel_rfl
theorem none_bt {w : World} {base n c : Nat} {v : Value} {xs : List Value} (t : TypeId) (hown : w.ownsRow base 5 1 v n xs) :
    (Builtin.append_ #[46, 46] t #[v, .slice none 0 c]).run Try.prog w = .ok v w := by
  obtain ⟨i, hi, _⟩ := info_parts info5
  obtain ⟨_, hf⟩ := hown
  rcases hf with ⟨rfl, rfl⟩ | ⟨g, cap, cur, rfl, _, _, hle, _⟩
  · simp [Builtin.append_, run_underlying Try.underlying46, sizeOf, typeInfo, hi, Builtin.lenOf, Builtin.firstCells]
  · simp [Builtin.append_, run_underlying Try.underlying46, sizeOf, typeInfo, hi, Builtin.lenOf, Builtin.firstCells, hle, storeCells]
theorem app_bt {ops : Array Oper} {rest : List Oper} {o : Oper} {a : Act} {Q : Exit → Act → World → Prop} {w : World} (hgd : o.guard = none) (s x : Operand)
    (ho : o.op = .call { callee := .builtin .append, args := #[s, x], argTypes := #[46, 46] }) (base n : Nat) (v : Value) (xs : List Value) (hs : a.eval s = v) (hown : w.ownsRow base 5 1 v n xs)
    (A : Option Addr) (m c : Nat) (l : List Int) (hx : a.eval x = .slice A m c) (hl : l.length = m) (hb : Ik .u8 w A l) (hsm : n + m ≤ 1000000) (hbase : base ≤ w.heap.size)
    (h : ∀ v' w', w'.ownsRow base 5 1 v' (n + m) (xs ++ l.map (Value.int .u8)) → Below base w w' → (∀ b, b < w.heap.size → some b ≠ v.ownBlock → w'.heap[b]? = w.heap[b]?) → wpList Try.prog ops Q rest (a.put o.dst v') w') : wpList Try.prog ops Q (o :: rest) a w := by
  obtain ⟨i0, hi, hz0, hz1, hz2⟩ := info_parts info5
  have hll : l.length = m * 1 := by rw [Nat.mul_one]; exact hl
  cases A with
  | none =>
    have h0 : l = [] := by
      rcases hq : l with _ | ⟨y, t⟩
      · rfl
      · obtain ⟨b, q, e, _⟩ := hb (by rw [hq]; simp); cases e
    obtain rfl : m = 0 := by rw [h0] at hll; simp at hll; omega
    refine wpList_plain hgd fun K hK => ?_
    have hrun := none_bt (c := c) o.type hown
    unfold Oper.wp
    simp [execOp, ho, resolve, invoke, builtin, hs, hx, hrun, Result.andThen]
    exact hK _ _ (h v w (by rw [h0]; simpa using hown) (Below.refl _ _) (fun _ _ _ => rfl))
  | some ad =>
    refine wpList_append_own w hgd s x 46 ho base 5 i0 (.int .u8 0) 1 1 Try.underlying46 hi hz0 hz1 hz2 rfl (by decide) v n xs hs hown ad m c (l.map (Value.int .u8)) hx (by simpa using hll) (fun j u hj => ?_) (one_int _ _) (by unfold maxLen; omega) (by omega) hbase
      (fun v' w' h1 h2 _ => h v' w' h1 (grown_below hown h2 hbase) (fun b hlt hne => h2.block b hlt hne))
    have h0 : 0 < l.length := by
      have := (List.getElem?_eq_some_iff.1 hj).1
      simp at this; omega
    obtain ⟨b, q, e, _, _⟩ := id hb h0
    injection e with e; subst e
    exact hb.news j u hj
/-- the bytes of a number -/
def byts (n : Int) : List Int := [IntKind.u64.wrap n / 72057594037927936 % 256, IntKind.u64.wrap n / 281474976710656 % 256, IntKind.u64.wrap n / 1099511627776 % 256, IntKind.u64.wrap n / 4294967296 % 256, IntKind.u64.wrap n / 16777216 % 256, IntKind.u64.wrap n / 65536 % 256, IntKind.u64.wrap n / 256 % 256, IntKind.u64.wrap n % 256]
theorem own_bt {w : World} {B : Nat} {e : TypeId} {n : Nat} {v : Value} {l : List Int} (h : w.ownsRow B e 1 v n (l.map (Value.int .u8))) : ∃ A c, v = .slice A n c ∧ n ≤ c ∧ c ≤ maxLen ∧ Ik .u8 w A l ∧ Fr B A ∧ (∀ b o, A = some ⟨b, o, none⟩ → b < w.heap.size) := by
  obtain ⟨A, c, hv, hA, hc, hm⟩ := own_slice h
  refine ⟨A, c, hv, hc, hm, fun h0 => ?_, fun b o e => ?_, fun b o e => ?_⟩
  · have h1 := h.1
    simp only [List.length_map, Nat.mul_one] at h1
    obtain ⟨b, rfl, _, hb, hcell⟩ := hA (by omega)
    refine ⟨b, 0, rfl, hb, fun i x hx => ?_⟩
    rw [Nat.zero_add]
    exact hcell i _ (by simp [hx])
  · subst e
    exact own_ge h b (by rw [hv]; rfl)
  · subst e
    exact own_lt h b (by rw [hv]; rfl)
set_option maxRecDepth 100000 in
set_option maxHeartbeats 16000000 in
theorem bytes53 (n : Int) (w : World) (n0 : -9223372036854775808 ≤ n) (n1 : n ≤ 9223372036854775807) : Calls Try.prog 53 #[.int .i64 n] w fun r w' => ∃ v, r = .returned v ∧ w'.ownsRow w.heap.size 5 1 v 8 ((byts n).map (Value.int .u8)) ∧ Below w.heap.size w w' := by
  go_enter Try.func53, Try.ntmps53
  go_upto_region 3 with fail
  go_loopg [3, 4] 8 (fun gk v3 v4 wr => ∃ i : Nat, i ≤ 8 ∧ 8 - i ≤ gk ∧ (∃ s : Int, v4 = .int .i64 s ∧ Hid (s = 56 - 8 * (i : Int))) ∧ wr.ownsRow w.heap.size 5 1 v3 i (((byts n).take i).map (Value.int .u8)) ∧ Below w.heap.size w wr)
  case atStart => exact ⟨0, by omega, by omega, ⟨56, rfl, Lib.hid rfl⟩, World.ownsRow_nil _ _ _ _, Below.refl _ _⟩
  case round =>
    obtain ⟨i, hi, hgk, ⟨s, rfl, hs⟩, ho, hg⟩ := hrel
    obtain ⟨A, c, rfl, hc, _, _, _, _⟩ := own_bt ho
    have hz := hg.size
    rcases (by omega : i = 0 ∨ i = 1 ∨ i = 2 ∨ i = 3 ∨ i = 4 ∨ i = 5 ∨ i = 6 ∨ i = 7 ∨ i = 8) with rfl | rfl | rfl | rfl | rfl | rfl | rfl | rfl | rfl
    rotate_left 8
    · obtain rfl : s = -8 := hs.out
      go_wp2
      go_ret
      exact ⟨_, rfl, ho, hg⟩
    · obtain rfl : s = 56 := hs.out
      have HO := Lib.hid (own_below ho ((Below.refl _ _).alloc (Nat.le_refl _) (.cells #[.int .u8 (IntKind.u64.wrap n / 72057594037927936 % 256)] 5)))
      have HN := Lib.hid (Ik.of_block (k := .u8) (l := [IntKind.u64.wrap n / 72057594037927936 % 256]) (new_at (W := wr) rfl (.cells #[.int .u8 (IntKind.u64.wrap n / 72057594037927936 % 256)] 5)))
      have hgs : w.heap.size ≤ (wr.alloc (.cells #[.int .u8 (IntKind.u64.wrap n / 72057594037927936 % 256)] 5)).heap.size := by simp; omega
      clear ho hs
      go_upto_region 5 with fail
      go_wp2_with (at_builtin; go_loud (refine app_bt rfl _ _ rfl w.heap.size 0 _ _ rfl HO.out _ 1 1 [IntKind.u64.wrap n / 72057594037927936 % 256] rfl rfl HN.out ?c1 hgs ?_))
      case c1 => omega
      intro v' w2 hown hb2 _
      have HG := Lib.hid (hg.trans (((Below.refl w.heap.size wr).alloc hz (.cells #[.int .u8 (IntKind.u64.wrap n / 72057594037927936 % 256)] 5)).trans hb2))
      have HW := Lib.hid hown
      obtain ⟨A', c', rfl, _, _, _⟩ := own_slice hown
      clear hown hb2 HO HN
      go_wp2_with fail
      go_roundg (8 - (0 + 1))
      case measure => omega
      case rel => exact ⟨0 + 1, by omega, by omega, ⟨_, rfl, Lib.hid (by omega)⟩, by simpa [byts] using HW.out, HG.out⟩
    · obtain rfl : s = 48 := hs.out
      have HO := Lib.hid (own_below ho ((Below.refl _ _).alloc (Nat.le_refl _) (.cells #[.int .u8 (IntKind.u64.wrap n / 281474976710656 % 256)] 5)))
      have HN := Lib.hid (Ik.of_block (k := .u8) (l := [IntKind.u64.wrap n / 281474976710656 % 256]) (new_at (W := wr) rfl (.cells #[.int .u8 (IntKind.u64.wrap n / 281474976710656 % 256)] 5)))
      have hgs : w.heap.size ≤ (wr.alloc (.cells #[.int .u8 (IntKind.u64.wrap n / 281474976710656 % 256)] 5)).heap.size := by simp; omega
      clear ho hs
      go_upto_region 5 with fail
      go_wp2_with (at_builtin; go_loud (refine app_bt rfl _ _ rfl w.heap.size 1 _ _ rfl HO.out _ 1 1 [IntKind.u64.wrap n / 281474976710656 % 256] rfl rfl HN.out ?c1 hgs ?_))
      case c1 => omega
      intro v' w2 hown hb2 _
      have HG := Lib.hid (hg.trans (((Below.refl w.heap.size wr).alloc hz (.cells #[.int .u8 (IntKind.u64.wrap n / 281474976710656 % 256)] 5)).trans hb2))
      have HW := Lib.hid hown
      obtain ⟨A', c', rfl, _, _, _⟩ := own_slice hown
      clear hown hb2 HO HN
      go_wp2_with fail
      go_roundg (8 - (1 + 1))
      case measure => omega
      case rel => exact ⟨1 + 1, by omega, by omega, ⟨_, rfl, Lib.hid (by omega)⟩, by simpa [byts] using HW.out, HG.out⟩
    · obtain rfl : s = 40 := hs.out
      have HO := Lib.hid (own_below ho ((Below.refl _ _).alloc (Nat.le_refl _) (.cells #[.int .u8 (IntKind.u64.wrap n / 1099511627776 % 256)] 5)))
      have HN := Lib.hid (Ik.of_block (k := .u8) (l := [IntKind.u64.wrap n / 1099511627776 % 256]) (new_at (W := wr) rfl (.cells #[.int .u8 (IntKind.u64.wrap n / 1099511627776 % 256)] 5)))
      have hgs : w.heap.size ≤ (wr.alloc (.cells #[.int .u8 (IntKind.u64.wrap n / 1099511627776 % 256)] 5)).heap.size := by simp; omega
      clear ho hs
      go_upto_region 5 with fail
      go_wp2_with (at_builtin; go_loud (refine app_bt rfl _ _ rfl w.heap.size 2 _ _ rfl HO.out _ 1 1 [IntKind.u64.wrap n / 1099511627776 % 256] rfl rfl HN.out ?c1 hgs ?_))
      case c1 => omega
      intro v' w2 hown hb2 _
      have HG := Lib.hid (hg.trans (((Below.refl w.heap.size wr).alloc hz (.cells #[.int .u8 (IntKind.u64.wrap n / 1099511627776 % 256)] 5)).trans hb2))
      have HW := Lib.hid hown
      obtain ⟨A', c', rfl, _, _, _⟩ := own_slice hown
      clear hown hb2 HO HN
      go_wp2_with fail
      go_roundg (8 - (2 + 1))
      case measure => omega
      case rel => exact ⟨2 + 1, by omega, by omega, ⟨_, rfl, Lib.hid (by omega)⟩, by simpa [byts] using HW.out, HG.out⟩
    · obtain rfl : s = 32 := hs.out
      have HO := Lib.hid (own_below ho ((Below.refl _ _).alloc (Nat.le_refl _) (.cells #[.int .u8 (IntKind.u64.wrap n / 4294967296 % 256)] 5)))
      have HN := Lib.hid (Ik.of_block (k := .u8) (l := [IntKind.u64.wrap n / 4294967296 % 256]) (new_at (W := wr) rfl (.cells #[.int .u8 (IntKind.u64.wrap n / 4294967296 % 256)] 5)))
      have hgs : w.heap.size ≤ (wr.alloc (.cells #[.int .u8 (IntKind.u64.wrap n / 4294967296 % 256)] 5)).heap.size := by simp; omega
      clear ho hs
      go_upto_region 5 with fail
      go_wp2_with (at_builtin; go_loud (refine app_bt rfl _ _ rfl w.heap.size 3 _ _ rfl HO.out _ 1 1 [IntKind.u64.wrap n / 4294967296 % 256] rfl rfl HN.out ?c1 hgs ?_))
      case c1 => omega
      intro v' w2 hown hb2 _
      have HG := Lib.hid (hg.trans (((Below.refl w.heap.size wr).alloc hz (.cells #[.int .u8 (IntKind.u64.wrap n / 4294967296 % 256)] 5)).trans hb2))
      have HW := Lib.hid hown
      obtain ⟨A', c', rfl, _, _, _⟩ := own_slice hown
      clear hown hb2 HO HN
      go_wp2_with fail
      go_roundg (8 - (3 + 1))
      case measure => omega
      case rel => exact ⟨3 + 1, by omega, by omega, ⟨_, rfl, Lib.hid (by omega)⟩, by simpa [byts] using HW.out, HG.out⟩
    · obtain rfl : s = 24 := hs.out
      have HO := Lib.hid (own_below ho ((Below.refl _ _).alloc (Nat.le_refl _) (.cells #[.int .u8 (IntKind.u64.wrap n / 16777216 % 256)] 5)))
      have HN := Lib.hid (Ik.of_block (k := .u8) (l := [IntKind.u64.wrap n / 16777216 % 256]) (new_at (W := wr) rfl (.cells #[.int .u8 (IntKind.u64.wrap n / 16777216 % 256)] 5)))
      have hgs : w.heap.size ≤ (wr.alloc (.cells #[.int .u8 (IntKind.u64.wrap n / 16777216 % 256)] 5)).heap.size := by simp; omega
      clear ho hs
      go_upto_region 5 with fail
      go_wp2_with (at_builtin; go_loud (refine app_bt rfl _ _ rfl w.heap.size 4 _ _ rfl HO.out _ 1 1 [IntKind.u64.wrap n / 16777216 % 256] rfl rfl HN.out ?c1 hgs ?_))
      case c1 => omega
      intro v' w2 hown hb2 _
      have HG := Lib.hid (hg.trans (((Below.refl w.heap.size wr).alloc hz (.cells #[.int .u8 (IntKind.u64.wrap n / 16777216 % 256)] 5)).trans hb2))
      have HW := Lib.hid hown
      obtain ⟨A', c', rfl, _, _, _⟩ := own_slice hown
      clear hown hb2 HO HN
      go_wp2_with fail
      go_roundg (8 - (4 + 1))
      case measure => omega
      case rel => exact ⟨4 + 1, by omega, by omega, ⟨_, rfl, Lib.hid (by omega)⟩, by simpa [byts] using HW.out, HG.out⟩
    · obtain rfl : s = 16 := hs.out
      have HO := Lib.hid (own_below ho ((Below.refl _ _).alloc (Nat.le_refl _) (.cells #[.int .u8 (IntKind.u64.wrap n / 65536 % 256)] 5)))
      have HN := Lib.hid (Ik.of_block (k := .u8) (l := [IntKind.u64.wrap n / 65536 % 256]) (new_at (W := wr) rfl (.cells #[.int .u8 (IntKind.u64.wrap n / 65536 % 256)] 5)))
      have hgs : w.heap.size ≤ (wr.alloc (.cells #[.int .u8 (IntKind.u64.wrap n / 65536 % 256)] 5)).heap.size := by simp; omega
      clear ho hs
      go_upto_region 5 with fail
      go_wp2_with (at_builtin; go_loud (refine app_bt rfl _ _ rfl w.heap.size 5 _ _ rfl HO.out _ 1 1 [IntKind.u64.wrap n / 65536 % 256] rfl rfl HN.out ?c1 hgs ?_))
      case c1 => omega
      intro v' w2 hown hb2 _
      have HG := Lib.hid (hg.trans (((Below.refl w.heap.size wr).alloc hz (.cells #[.int .u8 (IntKind.u64.wrap n / 65536 % 256)] 5)).trans hb2))
      have HW := Lib.hid hown
      obtain ⟨A', c', rfl, _, _, _⟩ := own_slice hown
      clear hown hb2 HO HN
      go_wp2_with fail
      go_roundg (8 - (5 + 1))
      case measure => omega
      case rel => exact ⟨5 + 1, by omega, by omega, ⟨_, rfl, Lib.hid (by omega)⟩, by simpa [byts] using HW.out, HG.out⟩
    · obtain rfl : s = 8 := hs.out
      have HO := Lib.hid (own_below ho ((Below.refl _ _).alloc (Nat.le_refl _) (.cells #[.int .u8 (IntKind.u64.wrap n / 256 % 256)] 5)))
      have HN := Lib.hid (Ik.of_block (k := .u8) (l := [IntKind.u64.wrap n / 256 % 256]) (new_at (W := wr) rfl (.cells #[.int .u8 (IntKind.u64.wrap n / 256 % 256)] 5)))
      have hgs : w.heap.size ≤ (wr.alloc (.cells #[.int .u8 (IntKind.u64.wrap n / 256 % 256)] 5)).heap.size := by simp; omega
      clear ho hs
      go_upto_region 5 with fail
      go_wp2_with (at_builtin; go_loud (refine app_bt rfl _ _ rfl w.heap.size 6 _ _ rfl HO.out _ 1 1 [IntKind.u64.wrap n / 256 % 256] rfl rfl HN.out ?c1 hgs ?_))
      case c1 => omega
      intro v' w2 hown hb2 _
      have HG := Lib.hid (hg.trans (((Below.refl w.heap.size wr).alloc hz (.cells #[.int .u8 (IntKind.u64.wrap n / 256 % 256)] 5)).trans hb2))
      have HW := Lib.hid hown
      obtain ⟨A', c', rfl, _, _, _⟩ := own_slice hown
      clear hown hb2 HO HN
      go_wp2_with fail
      go_roundg (8 - (6 + 1))
      case measure => omega
      case rel => exact ⟨6 + 1, by omega, by omega, ⟨_, rfl, Lib.hid (by omega)⟩, by simpa [byts] using HW.out, HG.out⟩
    · obtain rfl : s = 0 := hs.out
      have HO := Lib.hid (own_below ho ((Below.refl _ _).alloc (Nat.le_refl _) (.cells #[.int .u8 (IntKind.u64.wrap n % 256)] 5)))
      have HN := Lib.hid (Ik.of_block (k := .u8) (l := [IntKind.u64.wrap n % 256]) (new_at (W := wr) rfl (.cells #[.int .u8 (IntKind.u64.wrap n % 256)] 5)))
      have hgs : w.heap.size ≤ (wr.alloc (.cells #[.int .u8 (IntKind.u64.wrap n % 256)] 5)).heap.size := by simp; omega
      clear ho hs
      go_upto_region 5 with fail
      go_wp2_with (at_builtin; go_loud (refine app_bt rfl _ _ rfl w.heap.size 7 _ _ rfl HO.out _ 1 1 [IntKind.u64.wrap n % 256] rfl rfl HN.out ?c1 hgs ?_))
      case c1 => omega
      intro v' w2 hown hb2 _
      have HG := Lib.hid (hg.trans (((Below.refl w.heap.size wr).alloc hz (.cells #[.int .u8 (IntKind.u64.wrap n % 256)] 5)).trans hb2))
      have HW := Lib.hid hown
      obtain ⟨A', c', rfl, _, _, _⟩ := own_slice hown
      clear hown hb2 HO HN
      go_wp2_with fail
      go_roundg (8 - (7 + 1))
      case measure => omega
      case rel => exact ⟨7 + 1, by omega, by omega, ⟨_, rfl, Lib.hid (by omega)⟩, by simpa [byts] using HW.out, HG.out⟩
set_option maxRecDepth 100000 in
set_option maxHeartbeats 16000000 in
theorem rbytes58 (n : Int) (w : World) (n0 : -9223372036854775808 ≤ n) (n1 : n ≤ 9223372036854775807) : Calls Try.prog 58 #[.int .i64 n] w fun r w' => ∃ v, r = .returned v ∧ w'.ownsRow w.heap.size 5 1 v 8 ((byts n).map (Value.int .u8)) ∧ Below w.heap.size w w' := by
  go_enter Try.func58, Try.ntmps58
  go_upto_region 3 with fail
  go_loopg [3, 4] 8 (fun gk v3 v4 wr => ∃ i : Nat, i ≤ 8 ∧ 8 - i ≤ gk ∧ (∃ s : Int, v4 = .int .i64 s ∧ Hid (s = 56 - 8 * (i : Int))) ∧ wr.ownsRow w.heap.size 5 1 v3 i (((byts n).take i).map (Value.int .u8)) ∧ Below w.heap.size w wr)
  case atStart => exact ⟨0, by omega, by omega, ⟨56, rfl, Lib.hid rfl⟩, World.ownsRow_nil _ _ _ _, Below.refl _ _⟩
  case round =>
    obtain ⟨i, hi, hgk, ⟨s, rfl, hs⟩, ho, hg⟩ := hrel
    obtain ⟨A, c, rfl, hc, _, _, _, _⟩ := own_bt ho
    have hz := hg.size
    rcases (by omega : i = 0 ∨ i = 1 ∨ i = 2 ∨ i = 3 ∨ i = 4 ∨ i = 5 ∨ i = 6 ∨ i = 7 ∨ i = 8) with rfl | rfl | rfl | rfl | rfl | rfl | rfl | rfl | rfl
    rotate_left 8
    · obtain rfl : s = -8 := hs.out
      go_wp2
      go_ret
      exact ⟨_, rfl, ho, hg⟩
    · obtain rfl : s = 56 := hs.out
      have HO := Lib.hid (own_below ho ((Below.refl _ _).alloc (Nat.le_refl _) (.cells #[.int .u8 (IntKind.u64.wrap n / 72057594037927936 % 256)] 5)))
      have HN := Lib.hid (Ik.of_block (k := .u8) (l := [IntKind.u64.wrap n / 72057594037927936 % 256]) (new_at (W := wr) rfl (.cells #[.int .u8 (IntKind.u64.wrap n / 72057594037927936 % 256)] 5)))
      have hgs : w.heap.size ≤ (wr.alloc (.cells #[.int .u8 (IntKind.u64.wrap n / 72057594037927936 % 256)] 5)).heap.size := by simp; omega
      clear ho hs
      go_upto_region 5 with fail
      go_wp2_with (at_builtin; go_loud (refine app_bt rfl _ _ rfl w.heap.size 0 _ _ rfl HO.out _ 1 1 [IntKind.u64.wrap n / 72057594037927936 % 256] rfl rfl HN.out ?c1 hgs ?_))
      case c1 => omega
      intro v' w2 hown hb2 _
      have HG := Lib.hid (hg.trans (((Below.refl w.heap.size wr).alloc hz (.cells #[.int .u8 (IntKind.u64.wrap n / 72057594037927936 % 256)] 5)).trans hb2))
      have HW := Lib.hid hown
      obtain ⟨A', c', rfl, _, _, _⟩ := own_slice hown
      clear hown hb2 HO HN
      go_wp2_with fail
      go_roundg (8 - (0 + 1))
      case measure => omega
      case rel => exact ⟨0 + 1, by omega, by omega, ⟨_, rfl, Lib.hid (by omega)⟩, by simpa [byts] using HW.out, HG.out⟩
    · obtain rfl : s = 48 := hs.out
      have HO := Lib.hid (own_below ho ((Below.refl _ _).alloc (Nat.le_refl _) (.cells #[.int .u8 (IntKind.u64.wrap n / 281474976710656 % 256)] 5)))
      have HN := Lib.hid (Ik.of_block (k := .u8) (l := [IntKind.u64.wrap n / 281474976710656 % 256]) (new_at (W := wr) rfl (.cells #[.int .u8 (IntKind.u64.wrap n / 281474976710656 % 256)] 5)))
      have hgs : w.heap.size ≤ (wr.alloc (.cells #[.int .u8 (IntKind.u64.wrap n / 281474976710656 % 256)] 5)).heap.size := by simp; omega
      clear ho hs
      go_upto_region 5 with fail
      go_wp2_with (at_builtin; go_loud (refine app_bt rfl _ _ rfl w.heap.size 1 _ _ rfl HO.out _ 1 1 [IntKind.u64.wrap n / 281474976710656 % 256] rfl rfl HN.out ?c1 hgs ?_))
      case c1 => omega
      intro v' w2 hown hb2 _
      have HG := Lib.hid (hg.trans (((Below.refl w.heap.size wr).alloc hz (.cells #[.int .u8 (IntKind.u64.wrap n / 281474976710656 % 256)] 5)).trans hb2))
      have HW := Lib.hid hown
      obtain ⟨A', c', rfl, _, _, _⟩ := own_slice hown
      clear hown hb2 HO HN
      go_wp2_with fail
      go_roundg (8 - (1 + 1))
      case measure => omega
      case rel => exact ⟨1 + 1, by omega, by omega, ⟨_, rfl, Lib.hid (by omega)⟩, by simpa [byts] using HW.out, HG.out⟩
    · obtain rfl : s = 40 := hs.out
      have HO := Lib.hid (own_below ho ((Below.refl _ _).alloc (Nat.le_refl _) (.cells #[.int .u8 (IntKind.u64.wrap n / 1099511627776 % 256)] 5)))
      have HN := Lib.hid (Ik.of_block (k := .u8) (l := [IntKind.u64.wrap n / 1099511627776 % 256]) (new_at (W := wr) rfl (.cells #[.int .u8 (IntKind.u64.wrap n / 1099511627776 % 256)] 5)))
      have hgs : w.heap.size ≤ (wr.alloc (.cells #[.int .u8 (IntKind.u64.wrap n / 1099511627776 % 256)] 5)).heap.size := by simp; omega
      clear ho hs
      go_upto_region 5 with fail
      go_wp2_with (at_builtin; go_loud (refine app_bt rfl _ _ rfl w.heap.size 2 _ _ rfl HO.out _ 1 1 [IntKind.u64.wrap n / 1099511627776 % 256] rfl rfl HN.out ?c1 hgs ?_))
      case c1 => omega
      intro v' w2 hown hb2 _
      have HG := Lib.hid (hg.trans (((Below.refl w.heap.size wr).alloc hz (.cells #[.int .u8 (IntKind.u64.wrap n / 1099511627776 % 256)] 5)).trans hb2))
      have HW := Lib.hid hown
      obtain ⟨A', c', rfl, _, _, _⟩ := own_slice hown
      clear hown hb2 HO HN
      go_wp2_with fail
      go_roundg (8 - (2 + 1))
      case measure => omega
      case rel => exact ⟨2 + 1, by omega, by omega, ⟨_, rfl, Lib.hid (by omega)⟩, by simpa [byts] using HW.out, HG.out⟩
    · obtain rfl : s = 32 := hs.out
      have HO := Lib.hid (own_below ho ((Below.refl _ _).alloc (Nat.le_refl _) (.cells #[.int .u8 (IntKind.u64.wrap n / 4294967296 % 256)] 5)))
      have HN := Lib.hid (Ik.of_block (k := .u8) (l := [IntKind.u64.wrap n / 4294967296 % 256]) (new_at (W := wr) rfl (.cells #[.int .u8 (IntKind.u64.wrap n / 4294967296 % 256)] 5)))
      have hgs : w.heap.size ≤ (wr.alloc (.cells #[.int .u8 (IntKind.u64.wrap n / 4294967296 % 256)] 5)).heap.size := by simp; omega
      clear ho hs
      go_upto_region 5 with fail
      go_wp2_with (at_builtin; go_loud (refine app_bt rfl _ _ rfl w.heap.size 3 _ _ rfl HO.out _ 1 1 [IntKind.u64.wrap n / 4294967296 % 256] rfl rfl HN.out ?c1 hgs ?_))
      case c1 => omega
      intro v' w2 hown hb2 _
      have HG := Lib.hid (hg.trans (((Below.refl w.heap.size wr).alloc hz (.cells #[.int .u8 (IntKind.u64.wrap n / 4294967296 % 256)] 5)).trans hb2))
      have HW := Lib.hid hown
      obtain ⟨A', c', rfl, _, _, _⟩ := own_slice hown
      clear hown hb2 HO HN
      go_wp2_with fail
      go_roundg (8 - (3 + 1))
      case measure => omega
      case rel => exact ⟨3 + 1, by omega, by omega, ⟨_, rfl, Lib.hid (by omega)⟩, by simpa [byts] using HW.out, HG.out⟩
    · obtain rfl : s = 24 := hs.out
      have HO := Lib.hid (own_below ho ((Below.refl _ _).alloc (Nat.le_refl _) (.cells #[.int .u8 (IntKind.u64.wrap n / 16777216 % 256)] 5)))
      have HN := Lib.hid (Ik.of_block (k := .u8) (l := [IntKind.u64.wrap n / 16777216 % 256]) (new_at (W := wr) rfl (.cells #[.int .u8 (IntKind.u64.wrap n / 16777216 % 256)] 5)))
      have hgs : w.heap.size ≤ (wr.alloc (.cells #[.int .u8 (IntKind.u64.wrap n / 16777216 % 256)] 5)).heap.size := by simp; omega
      clear ho hs
      go_upto_region 5 with fail
      go_wp2_with (at_builtin; go_loud (refine app_bt rfl _ _ rfl w.heap.size 4 _ _ rfl HO.out _ 1 1 [IntKind.u64.wrap n / 16777216 % 256] rfl rfl HN.out ?c1 hgs ?_))
      case c1 => omega
      intro v' w2 hown hb2 _
      have HG := Lib.hid (hg.trans (((Below.refl w.heap.size wr).alloc hz (.cells #[.int .u8 (IntKind.u64.wrap n / 16777216 % 256)] 5)).trans hb2))
      have HW := Lib.hid hown
      obtain ⟨A', c', rfl, _, _, _⟩ := own_slice hown
      clear hown hb2 HO HN
      go_wp2_with fail
      go_roundg (8 - (4 + 1))
      case measure => omega
      case rel => exact ⟨4 + 1, by omega, by omega, ⟨_, rfl, Lib.hid (by omega)⟩, by simpa [byts] using HW.out, HG.out⟩
    · obtain rfl : s = 16 := hs.out
      have HO := Lib.hid (own_below ho ((Below.refl _ _).alloc (Nat.le_refl _) (.cells #[.int .u8 (IntKind.u64.wrap n / 65536 % 256)] 5)))
      have HN := Lib.hid (Ik.of_block (k := .u8) (l := [IntKind.u64.wrap n / 65536 % 256]) (new_at (W := wr) rfl (.cells #[.int .u8 (IntKind.u64.wrap n / 65536 % 256)] 5)))
      have hgs : w.heap.size ≤ (wr.alloc (.cells #[.int .u8 (IntKind.u64.wrap n / 65536 % 256)] 5)).heap.size := by simp; omega
      clear ho hs
      go_upto_region 5 with fail
      go_wp2_with (at_builtin; go_loud (refine app_bt rfl _ _ rfl w.heap.size 5 _ _ rfl HO.out _ 1 1 [IntKind.u64.wrap n / 65536 % 256] rfl rfl HN.out ?c1 hgs ?_))
      case c1 => omega
      intro v' w2 hown hb2 _
      have HG := Lib.hid (hg.trans (((Below.refl w.heap.size wr).alloc hz (.cells #[.int .u8 (IntKind.u64.wrap n / 65536 % 256)] 5)).trans hb2))
      have HW := Lib.hid hown
      obtain ⟨A', c', rfl, _, _, _⟩ := own_slice hown
      clear hown hb2 HO HN
      go_wp2_with fail
      go_roundg (8 - (5 + 1))
      case measure => omega
      case rel => exact ⟨5 + 1, by omega, by omega, ⟨_, rfl, Lib.hid (by omega)⟩, by simpa [byts] using HW.out, HG.out⟩
    · obtain rfl : s = 8 := hs.out
      have HO := Lib.hid (own_below ho ((Below.refl _ _).alloc (Nat.le_refl _) (.cells #[.int .u8 (IntKind.u64.wrap n / 256 % 256)] 5)))
      have HN := Lib.hid (Ik.of_block (k := .u8) (l := [IntKind.u64.wrap n / 256 % 256]) (new_at (W := wr) rfl (.cells #[.int .u8 (IntKind.u64.wrap n / 256 % 256)] 5)))
      have hgs : w.heap.size ≤ (wr.alloc (.cells #[.int .u8 (IntKind.u64.wrap n / 256 % 256)] 5)).heap.size := by simp; omega
      clear ho hs
      go_upto_region 5 with fail
      go_wp2_with (at_builtin; go_loud (refine app_bt rfl _ _ rfl w.heap.size 6 _ _ rfl HO.out _ 1 1 [IntKind.u64.wrap n / 256 % 256] rfl rfl HN.out ?c1 hgs ?_))
      case c1 => omega
      intro v' w2 hown hb2 _
      have HG := Lib.hid (hg.trans (((Below.refl w.heap.size wr).alloc hz (.cells #[.int .u8 (IntKind.u64.wrap n / 256 % 256)] 5)).trans hb2))
      have HW := Lib.hid hown
      obtain ⟨A', c', rfl, _, _, _⟩ := own_slice hown
      clear hown hb2 HO HN
      go_wp2_with fail
      go_roundg (8 - (6 + 1))
      case measure => omega
      case rel => exact ⟨6 + 1, by omega, by omega, ⟨_, rfl, Lib.hid (by omega)⟩, by simpa [byts] using HW.out, HG.out⟩
    · obtain rfl : s = 0 := hs.out
      have HO := Lib.hid (own_below ho ((Below.refl _ _).alloc (Nat.le_refl _) (.cells #[.int .u8 (IntKind.u64.wrap n % 256)] 5)))
      have HN := Lib.hid (Ik.of_block (k := .u8) (l := [IntKind.u64.wrap n % 256]) (new_at (W := wr) rfl (.cells #[.int .u8 (IntKind.u64.wrap n % 256)] 5)))
      have hgs : w.heap.size ≤ (wr.alloc (.cells #[.int .u8 (IntKind.u64.wrap n % 256)] 5)).heap.size := by simp; omega
      clear ho hs
      go_upto_region 5 with fail
      go_wp2_with (at_builtin; go_loud (refine app_bt rfl _ _ rfl w.heap.size 7 _ _ rfl HO.out _ 1 1 [IntKind.u64.wrap n % 256] rfl rfl HN.out ?c1 hgs ?_))
      case c1 => omega
      intro v' w2 hown hb2 _
      have HG := Lib.hid (hg.trans (((Below.refl w.heap.size wr).alloc hz (.cells #[.int .u8 (IntKind.u64.wrap n % 256)] 5)).trans hb2))
      have HW := Lib.hid hown
      obtain ⟨A', c', rfl, _, _, _⟩ := own_slice hown
      clear hown hb2 HO HN
      go_wp2_with fail
      go_roundg (8 - (7 + 1))
      case measure => omega
      case rel => exact ⟨7 + 1, by omega, by omega, ⟨_, rfl, Lib.hid (by omega)⟩, by simpa [byts] using HW.out, HG.out⟩
end Go.Proofs.Ytamajedopofcoaa
set_option linter.unusedVariables false
set_option linter.unusedSimpArgs false
namespace Go.Proofs.Ytamajedopofcoaa
open Go.RowKit
theorem i64_or_nat (a b : Nat) (ha : a < 4611686018427387904) (hb : b < 4611686018427387904) : bits .or .i64 (a : Int) (b : Int) = ((a ||| b : Nat) : Int) := by
  have h : a ||| b < 2 ^ 62 := Nat.or_lt_two_pow (by omega) (by omega)
  have ea : BitVec.ofInt 64 (a : Int) = BitVec.ofNat 64 a := by simp
  have eb : BitVec.ofInt 64 (b : Int) = BitVec.ofNat 64 b := by simp
  show IntKind.i64.wrap ((BitVec.ofInt 64 (a : Int) ||| BitVec.ofInt 64 (b : Int)).toNat : Int) = _
  rw [ea, eb, BitVec.toNat_or, BitVec.toNat_ofNat, BitVec.toNat_ofNat, Nat.mod_eq_of_lt (a := a) (by omega), Nat.mod_eq_of_lt (a := b) (by omega), IntKind.wrap_i64]
  omega
theorem i64_or256 {a y : Int} (h0 : 0 ≤ a) (h1 : a ≤ 1000000) (y0 : 0 ≤ y) (y1 : y ≤ 255) : bits .or .i64 (a * 256) y = a * 256 + y := by
  obtain ⟨n, rfl⟩ : ∃ n : Nat, a = n := ⟨a.toNat, by omega⟩
  obtain ⟨m, rfl⟩ : ∃ m : Nat, y = m := ⟨y.toNat, by omega⟩
  have e : ((n : Int) * 256) = ((n * 256 : Nat) : Int) := by omega
  rw [e, i64_or_nat _ _ (by omega) (by omega)]
  have := Nat.shiftLeft_add_eq_or_of_lt (b := m) (i := 8) (by omega) n
  rw [Nat.shiftLeft_eq] at this
  have h2 : n * 256 ||| m = n * 256 + m := by simpa using this.symm
  rw [h2]; omega
set_option maxRecDepth 100000 in
set_option maxHeartbeats 16000000 in
theorem index52 (b o n c : Nat) (x y : Int) (w : World) (hn : 2 ≤ n) (hc : n ≤ c) (h1 : w.cell? ⟨b, o, none⟩ = some (.int .u8 x)) (h2 : w.cell? ⟨b, o + 1, none⟩ = some (.int .u8 y)) (x0 : 0 ≤ x) (x1 : x ≤ 255) (y0 : 0 ≤ y) (y1 : y ≤ 255) : Calls Try.prog 52 #[.slice (some ⟨b, o, none⟩) n c] w fun r w' => r = .returned (.int .i64 (x * 256 + y)) ∧ Below w.heap.size w w' := by
  have n1 : (0 : Int) < (n : Int) := by omega
  have n2 : (1 : Int) < (n : Int) := by omega
  have HO := Lib.hid (i64_or256 (a := x) (y := y) x0 (by omega) y0 y1)
  go_enter Try.func52, Try.ntmps52
  go_upto_region 1 with fail
  go_region
  go_wp2_with fail
  go_ret
  exact ⟨by rw [← HO.out]; rfl, (Below.refl _ _).drew⟩
set_option maxRecDepth 100000 in
set_option maxHeartbeats 16000000 in
theorem rindex57 (b o n c : Nat) (x y : Int) (w : World) (hn : 2 ≤ n) (hc : n ≤ c) (h1 : w.cell? ⟨b, o, none⟩ = some (.int .u8 x)) (h2 : w.cell? ⟨b, o + 1, none⟩ = some (.int .u8 y)) (x0 : 0 ≤ x) (x1 : x ≤ 255) (y0 : 0 ≤ y) (y1 : y ≤ 255) : Calls Try.prog 57 #[.slice (some ⟨b, o, none⟩) n c] w fun r w' => r = .returned (.int .i64 (x * 256 + y)) ∧ Below w.heap.size w w' := by
  have n1 : (0 : Int) < (n : Int) := by omega
  have n2 : (1 : Int) < (n : Int) := by omega
  have HO := Lib.hid (i64_or256 (a := x) (y := y) x0 (by omega) y0 y1)
  go_enter Try.func57, Try.ntmps57
  go_upto_region 1 with fail
  go_region
  go_wp2_with fail
  go_ret
  exact ⟨by rw [← HO.out]; rfl, (Below.refl _ _).drew⟩
end Go.Proofs.Ytamajedopofcoaa
