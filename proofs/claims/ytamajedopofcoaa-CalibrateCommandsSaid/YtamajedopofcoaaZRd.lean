/-
  What a page reads. No condition but the slices' shape.
-/
import Derived.Test.YtamajedopofcoaaZC
import Derived.Test.YtamajedopofcoaaZD
set_option linter.unusedVariables false
set_option linter.unusedSimpArgs false
namespace Go.Proofs.Ytamajedopofcoaa
open Go.RowKit
/-- append of numbers in a drawn region -/
theorem step_it {ops : Array Oper} {o : Oper} {a : Act} {K : Act → World → Prop} {Q : Exit → Act → World → Prop} {E : Prop} {w : World} (hgd : o.guard = none) (s x : Operand)
    (ho : o.op = .call { callee := .builtin .append, args := #[s, x], argTypes := #[22, 22] }) (base n : Nat) (v : Value) (l : List Int) (hs : a.eval s = v) (hown : w.ownsRow base 3 1 v n (l.map (Value.int .i64)))
    (b q m c : Nat) (l2 : List Int) (hx : a.eval x = .slice (some ⟨b, q, none⟩) m c) (hl2 : l2.length = m) (hb : Ik .i64 w (some ⟨b, q, none⟩) l2) (hm : 0 < m) (hsm : n + m ≤ 1000000) (hbase : base ≤ w.heap.size) (d : Nat) (hd : n + m = d)
    (h : ∀ g cap w', base ≤ g → g < w'.heap.size → d ≤ cap → Ik .i64 w' (some ⟨g, 0, none⟩) (l ++ l2) → Below base w w' → K (a.put o.dst (.slice (some ⟨g, 0, none⟩) d cap)) w') :
    if Region.wanted o (yielded ops a.tmps) = true then Oper.wp Try.prog o a w K Q else E := by
  subst hd
  obtain ⟨i0, hi, hz0, hz1, hz2⟩ := info_parts info3
  refine step_append_lies w hgd s x 22 ho base 3 i0 (.int .i64 0) 1 8 Try.underlying22 hi hz0 hz1 hz2 rfl (by decide) v n (l.map (Value.int .i64)) hs hown ⟨b, q, none⟩ m c (l2.map (Value.int .i64)) hx (by simp [hl2]) hb.news (one_int _ _) hm (by unfold maxLen; omega) (by omega) hbase w.heap.size rfl ?_
  intro g cap w' h1 h2 _ h4
  rw [← List.map_append] at h1
  obtain ⟨A, c', hv, hc', _, hik, _, _⟩ := own_it h1
  injection hv with hv1 _ hv2
  subst hv1 hv2
  exact h g cap w' (own_ge h1 g rfl) h4 hc' hik (grown_below hown h2 hbase)
theorem Cl.belowB {P B : Nat} {w w' : World} {vs : List Value} (h : Cl P w vs) (hP : P < B) (hb : Below B w w') : Cl P w' vs :=
  ⟨Nat.lt_of_lt_of_le h.1 hb.size, fun j v e => ⟨((below_cell hb).1 _ _ hP).trans (h.2 j v e).1, ((below_cell hb).2 _ _ hP).trans (h.2 j v e).2⟩⟩
/-- the page that is read -/
def pgM (R W : List Int) (Ac : Int) : List Int := if Ac = 0 then R else W
theorem pgM_len {R W : List Int} {Ac : Int} (h : W.length = R.length) : (pgM R W Ac).length = R.length := by unfold pgM; split <;> simp [h]
theorem readM_pg {R W : List Int} {Ac Pe : Int} {ch : List (Int × Int)} (hv : vP R W Ac Pe ch = true) (i : Nat) (hi : i < R.length) : readM ⟨R, W, Ac, Pe, ch⟩ (i : Int) = ((pgM R W Ac).getD i 0, 0) := by
  have h1 : readM ⟨R, W, Ac, Pe, ch⟩ (i : Int) = if vP R W Ac Pe ch = false then (0, 1) else if (i : Int) < 0 ∨ (R.length : Int) ≤ i then (0, 2) else if Ac = 0 then (R.getD (i : Int).toNat 0, 0) else (W.getD (i : Int).toNat 0, 0) := rfl
  rw [h1, hv, if_neg (by simp), if_neg (by omega)]
  unfold pgM
  split <;> simp
set_option maxRecDepth 100000 in
set_option maxHeartbeats 16000000 in
theorem read26 (A : Option Addr) (n c : Nat) (A2 : Option Addr) (n2 c2 : Nat) (Ac Pe : Int) (A3 : Option Addr) (m c3 : Nat) (R W : List Int) (ch : List (Int × Int)) (w : World) (hl : R.length = n) (hb : Ik .i64 w A R) (hc : n ≤ c) (hl2 : W.length = n2) (hb2 : Ik .i64 w A2 W) (hc2 : n2 ≤ c2) (hl3 : ch.length = m) (hb3 : Ik .i64 w A3 (flat ch)) (hc3 : m ≤ c3) (hs : n ≤ 5000) (hs2 : n2 ≤ 5000) (hs3 : m ≤ 5000) (hv : vP R W Ac Pe ch = true) : Calls Try.prog 26 #[.agg #[.slice A n c, .slice A2 n2 c2, .int .i64 Ac, .int .i64 Pe, .slice A3 m c3]] w fun r w' => ∃ v, r = .returned v ∧ Own w' w.heap.size v (pgM R W Ac) ∧ Below w.heap.size w w' := by
  have hw : W.length = n := by obtain ⟨v1, v2, v3, _⟩ := vP_t hv; omega
  have hpl : (pgM R W Ac).length = n := by rw [pgM_len (by omega), hl]
  have KR := fun (k : Nat) (x : Int) (hk : k < n) (hx : x = (pgM R W Ac).getD k 0) w h h2 h3 => by
    have := read13 A n c A2 n2 c2 Ac Pe A3 m c3 R W ch (k : Int) w hl h hc hl2 h2 hc2 hl3 h3 hc3 hs hs2 hs3
    rw [readM_pg hv k (by omega), ← hx] at this
    exact this
  obtain ⟨l, hlq⟩ : ∃ l, l = pgM R W Ac := ⟨_, rfl⟩
  rw [← hlq] at KR hpl ⊢
  replace KR := Lib.hid KR
  have HPL := Lib.hid hpl
  have HB1 := Lib.hid hb
  have HB2 := Lib.hid hb2
  have HB3 := Lib.hid hb3
  clear hl hl2 hl3 hb hb2 hb3 hv hw hlq hpl
  have HP0 := Lib.hid (Cl.new (w := w) rfl [.slice A n c, .slice A2 n2 c2, .int .i64 Ac, .int .i64 Pe, .slice A3 m c3] 25)
  have HG0 := Lib.hid (show Below w.heap.size w (w.alloc (.cells #[.slice A n c, .slice A2 n2 c2, .int .i64 Ac, .int .i64 Pe, .slice A3 m c3] 25)) from (Below.refl _ _).alloc (Nat.le_refl _) _)
  go_enter Try.func26, Try.ntmps26
  go_upto_region 3 with fail
  go_loopg [3, 10] n (fun gk v3 v10 wr => ∃ k : Nat, k ≤ n ∧ n - k ≤ gk ∧ v10 = .int .i64 k ∧ wr.ownsRow (w.heap.size + 1) 3 1 v3 k ((l.take k).map (Value.int .i64)) ∧ Cl w.heap.size wr [.slice A n c, .slice A2 n2 c2, .int .i64 Ac, .int .i64 Pe, .slice A3 m c3] ∧ Below w.heap.size w wr)
  case atStart => exact ⟨0, by omega, by omega, rfl, World.ownsRow_nil _ _ _ _, HP0.out, HG0.out⟩
  case round =>
    clear HP0 HG0
    obtain ⟨k, hk, hgk, rfl, ho, hP, hg⟩ := hrel
    obtain ⟨B, d, rfl, hd, _, _, _, _⟩ := own_it ho
    have HP := Lib.hid hP
    have HG := Lib.hid hg
    have HO := Lib.hid ho
    have hz : w.heap.size + 1 ≤ wr.heap.size := hP.1
    clear hP hg ho
    by_cases hlt : k < n
    · obtain ⟨x, hx⟩ : ∃ x, x = l.getD k 0 := ⟨_, rfl⟩
      have HX := Lib.hid hx
      clear hx
      have p0 := HP.out.c 0 rfl; have p1 := HP.out.c 1 rfl; have p2 := HP.out.c 2 rfl; have p3 := HP.out.c 3 rfl; have p4 := HP.out.c 4 rfl
      have zp := HP.out.1
      go_wp2_with fail
      refine (KR.out k x hlt HX.out _ (HB1.out.below HG.out) (HB2.out.below HG.out) (HB3.out.below HG.out)).mono ?_
      rintro r w1 ⟨rfl, hb1⟩
      replace HP := Lib.hid (HP.out.below hb1)
      replace HG := Lib.hid (chain HG.out hb1)
      replace HO := Lib.hid (own_below HO.out hb1)
      have hz1 : w.heap.size + 1 ≤ w1.heap.size := HP.out.1
      clear hb1 p0 p1 p2 p3 p4 zp
      go_upto_region 8 with fail
      have al : Below w1.heap.size w1 (w1.alloc (.cells #[.int .i64 x] 3)) := (Below.refl _ _).alloc (Nat.le_refl _) _
      have HO1 := Lib.hid (own_below HO.out al)
      have HN := Lib.hid (Ik.of_block (k := .i64) (l := [x]) (new_at (W := w1) rfl (.cells #[.int .i64 x] 3)))
      have HP1 := Lib.hid (HP.out.below al)
      have HG1 := Lib.hid (chain HG.out al)
      have hgs : w.heap.size + 1 ≤ (w1.alloc (.cells #[.int .i64 x] 3)).heap.size := by simp; omega
      clear al HO HP HG
      go_wp2_with (at_builtin; go_loud (refine app_it rfl _ _ rfl (w.heap.size + 1) k _ _ rfl HO1.out _ 1 1 [x] rfl rfl HN.out ?c1 hgs ?_))
      case c1 => omega
      intro v' w2 hown hb2 hkeep
      have HG2 := Lib.hid (HG1.out.trans (hb2.mono (Nat.le_succ _)))
      have HP2 := Lib.hid (HP1.out.belowB (Nat.lt_succ_self _) hb2)
      have hlk : l.take (k + 1) = l.take k ++ [x] := by
        rw [List.take_add_one, HX.out, List.getD_eq_getElem?_getD, List.getElem?_eq_getElem (by rw [HPL.out]; exact hlt)]
        rfl
      have hown2 : w2.ownsRow (w.heap.size + 1) 3 1 v' (k + 1) ((l.take (k + 1)).map (Value.int .i64)) := by rw [hlk]; simpa using hown
      have HW := Lib.hid hown2
      obtain ⟨A', c', rfl, _, _, _⟩ := own_slice hown2
      clear hown hown2 hb2 hkeep HO1 HN hlk
      go_wp2_with fail
      go_roundg (n - (k + 1))
      case measure => omega
      case rel => exact ⟨k + 1, by omega, by omega, by go_num, HW.out, HP2.out, HG2.out⟩
    · obtain rfl : k = n := by omega
      have hlk : l.take k = l := by rw [← HPL.out, List.take_length]
      have HLK := Lib.hid hlk
      clear hlk
      go_wp2
      go_ret
      refine ⟨_, rfl, ?_, HG.out⟩
      have := HO.out
      rw [HLK.out] at this
      unfold Own
      rw [HPL.out]
      exact own_mono this (Nat.le_succ _)
set_option maxRecDepth 100000 in
set_option maxHeartbeats 16000000 in
theorem equal28 (A B : Option Addr) (n c d : Nat) (l : List Int) (w : World) (hl : l.length = n) (ha : Ik .i64 w A l) (hb : Ik .i64 w B l) (hc : n ≤ c) (hd : n ≤ d) (hs : n ≤ 5000) : Calls Try.prog 28 #[.slice A n c, .slice B n d] w fun r w' => r = .returned (.bool true) ∧ Below w.heap.size w w' := by
  have HL := Lib.hid hl
  have HA := Lib.hid ha
  have HB := Lib.hid hb
  clear hl ha hb
  go_enter Try.func28, Try.ntmps28
  go_upto_region 4 with fail
  go_loopg [13] n (fun gk v wr => ∃ i : Nat, i ≤ n ∧ n - i ≤ gk ∧ v = .int .i64 i ∧ Below w.heap.size w wr)
  case atStart => exact ⟨0, by omega, by omega, rfl, Below.refl _ _⟩
  case round =>
    obtain ⟨i, hi, hgk, rfl, hg⟩ := hrel
    by_cases hlt : i < n
    · obtain ⟨b, o, rfl, hbl⟩ := HA.out.addr (by rw [HL.out]; omega)
      obtain ⟨b2, o2, rfl, hbl2⟩ := HB.out.addr (by rw [HL.out]; omega)
      have q1 := ((HA.out.below hg).at i (by rw [HL.out]; exact hlt)).1
      have q2 := ((HB.out.below hg).at i (by rw [HL.out]; exact hlt)).1
      obtain ⟨x, hx⟩ : ∃ x, x = l.getD i 0 := ⟨_, rfl⟩
      rw [← hx] at q1 q2
      have hz := hg.size
      clear hx
      go_upto_region 6 with fail
      go_region
      go_wp2_with fail
      go_roundg (n - (i + 1))
      case measure => omega
      case rel => exact ⟨i + 1, by omega, by omega, by go_num, hg.drew⟩
    · obtain rfl : i = n := by omega
      go_wp2
      go_ret
      exact ⟨rfl, hg⟩
end Go.Proofs.Ytamajedopofcoaa
