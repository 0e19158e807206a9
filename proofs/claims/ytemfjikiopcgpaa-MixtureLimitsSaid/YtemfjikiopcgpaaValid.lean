/-
  The contracts of mixture.Valid and of its reference. No condition but the slice's shape.
-/
import Derived.Test.YtemfjikiopcgpaaBase
set_option linter.unusedVariables false
set_option linter.unusedSimpArgs false
namespace Go.Proofs.Ytemfjikiopcgpaa
open Go.RowKit
/-- cells of the mixture control: values and counts -/
def Cls (w : World) (A : Option Addr) (len : Nat) (f g : Nat → Int) : Prop :=
  0 < len → ∃ b off, A = some ⟨b, off, none⟩ ∧ b < w.heap.size ∧ ∀ i, i < len → w.cell? ⟨b, off + i * 2, none⟩ = some (.int .i64 (f i)) ∧ w.cell? ⟨b, off + i * 2 + 1, none⟩ = some (.int .i64 (g i))
theorem Cls.below {w w' : World} {A : Option Addr} {len : Nat} {f g : Nat → Int} (h : Cls w A len f g) (hb : Below w.heap.size w w') : Cls w' A len f g := fun h0 => by
  obtain ⟨b, off, rfl, hbl, hc⟩ := h h0
  obtain ⟨k, _⟩ := bcell hb
  exact ⟨b, off, rfl, Nat.lt_of_lt_of_le hbl hb.size, fun i hi => ⟨(k _ _ hbl).trans (hc i hi).1, (k _ _ hbl).trans (hc i hi).2⟩⟩
def cOk (v c : Int) : Bool := inB v (-100) 100 && inB c 0 1000
theorem clo36 (v c : Int) (w : World) : Calls Try.prog 36 #[.agg #[.int .i64 v, .int .i64 c]] w fun r w' => r = .returned (.bool (!cOk v c)) ∧ Below w.heap.size w w' := by
  have A := fun w => in29 v (-100) 100 w
  have B := fun w => in29 c 0 1000 w
  unfold cOk
  generalize inB v (-100) 100 = a at A ⊢
  generalize inB c 0 1000 = b at B ⊢
  have A := Lib.hid A
  have B := Lib.hid B
  cases a
  all_goals
    go_enter Try.func36, Try.ntmps36
    go_wp2_with fail
    refine (A.out _).mono ?_
    rintro r w1 ⟨rfl, rfl⟩
  · go_wp2
    go_ret
    exact ⟨rfl, by go_grown⟩
  · go_wp2_with fail
    refine (B.out _).mono ?_
    rintro r w1 ⟨rfl, rfl⟩
    go_wp2
    go_ret
    exact ⟨rfl, by go_grown⟩
def allC (f g : Nat → Int) : Nat → Bool
  | 0 => true
  | k + 1 => allC f g k && cOk (f k) (g k)
theorem allC_false {f g : Nat → Int} {k : Nat} (h : cOk (f k) (g k) = false) : ∀ n, k < n → allC f g n = false
  | 0, hn => absurd hn (Nat.not_lt_zero _)
  | n + 1, hn => by
    show (allC f g n && cOk (f n) (g n)) = false
    by_cases e : k = n
    · subst e; rw [h]; simp
    · rw [allC_false h n (by omega)]; rfl
theorem allC_at {f g : Nat → Int} : ∀ n, allC f g n = true → ∀ k, k < n → cOk (f k) (g k) = true
  | 0, _, k, h => absurd h (Nat.not_lt_zero k)
  | n + 1, h, k, hk => by
    have h' : (allC f g n && cOk (f n) (g n)) = true := h
    simp only [Bool.and_eq_true] at h'
    by_cases e : k = n
    · subst e; exact h'.2
    · exact allC_at n h'.1 k (by omega)
def IxPost (b : Bool) (w : World) (e : Ending) (w' : World) : Prop := ∃ x : Int, e = .returned (.int .i64 x) ∧ ((b = true ∧ x = -1) ∨ (b = false ∧ 0 ≤ x)) ∧ Below w.heap.size w w'
set_option maxHeartbeats 1000000 in
theorem index39 (A : Option Addr) (len cap : Nat) (f g : Nat → Int) (w : World) (hs : Cls w A len f g) (hl : len ≤ 9223372036854775807) :
    Calls Try.prog 39 #[.slice A len cap, .func (Fn.func 36) #[] #[]] w (IxPost (allC f g len) w) := by
  have HS := Lib.hid hs
  clear hs
  obtain ⟨E, hE⟩ : ∃ E, E = allC f g len := ⟨_, rfl⟩
  rw [← hE]
  have HE := Lib.hid hE
  clear hE
  go_enter Try.func39, Try.ntmps39
  go_wp2_with fail
  go_loopg [8] len (fun gk i wr => ∃ k : Nat, k ≤ len ∧ len - k ≤ gk ∧ i = .int .i64 k ∧ Hid (allC f g k = true) ∧ Below w.heap.size w wr)
  case atStart => exact ⟨0, Nat.zero_le _, by omega, rfl, rfl, Below.refl _ _⟩
  case round =>
    obtain ⟨k, hk, hgk, rfl, HA, hbl⟩ := hrel
    by_cases hlt : k < len
    · obtain ⟨b, off, rfl, hb, hcell⟩ := HS.out (by omega)
      obtain ⟨d0, d1⟩ := hcell k hlt
      have d0 := ((bcell hbl).1 _ _ hb).trans d0
      have d1 := ((bcell hbl).1 _ _ hb).trans d1
      clear hcell
      have hT : cOk (f k) (g k) = true → allC f g (k + 1) = true := fun h => by
        show (allC f g k && cOk (f k) (g k)) = true
        rw [HA.out, h]; rfl
      have hF : cOk (f k) (g k) = false → allC f g len = false := fun h => allC_false h len hlt
      have C := fun w => clo36 (f k) (g k) w
      generalize cOk (f k) (g k) = o at hT hF C
      generalize f k = x at d0 C
      generalize g k = y at d1 C
      have HTF := Lib.hid (And.intro hT hF)
      have C := Lib.hid C
      clear hT hF
      cases o
      all_goals
        go_wp2_with fail
        refine (C.out _).mono ?_
        rintro r w2 ⟨rfl, hb2⟩
        have hg2 := chain hbl hb2
        clear hb2 C
        go_wp2
      · go_ret
        exact ⟨k, rfl, .inr ⟨by rw [HE.out]; exact HTF.out.2 (by simp), by omega⟩, hg2⟩
      · go_roundg (len - (k + 1))
        case measure => omega
        case rel => exact ⟨k + 1, by omega, by omega, by go_num, HTF.out.1 (by simp), hg2⟩
    · obtain rfl : k = len := by omega
      go_wp2
      go_ret
      exact ⟨-1, rfl, .inl ⟨by rw [HE.out]; exact HA.out, rfl⟩, hbl⟩
theorem contains35 (A : Option Addr) (len cap : Nat) (f g : Nat → Int) (w : World) (hs : Cls w A len f g) (hl : len ≤ 9223372036854775807) :
    Calls Try.prog 35 #[.slice A len cap, .func (Fn.func 36) #[] #[]] w fun r w' => r = .returned (.bool (!allC f g len)) ∧ Below w.heap.size w w' := by
  have A1 := Lib.hid (fun w h => index39 A len cap f g w h hl)
  generalize allC f g len = o at A1 ⊢
  go_enter Try.func35, Try.ntmps35
  go_wp2_with fail
  refine (A1.out _ hs).mono ?_
  rintro r w1 ⟨x, rfl, h, hb1⟩
  rcases h with ⟨rfl, rfl⟩ | ⟨rfl, h⟩
  all_goals
    go_wp2
    go_ret
    exact ⟨rfl, hb1⟩
def okP (a r : Bool) (F W : Int) (n : Nat) (f g : Nat → Int) : Bool := inB F 750 1250 && inB W 0 1000 && decide (n = 9) && (a || ((F == 1000) && (W == 0) && !r)) && allC f g n
set_option maxHeartbeats 2000000 in
theorem valid16 (a r : Bool) (F W : Int) (A : Option Addr) (len cap : Nat) (f g : Nat → Int) (w : World) (hs : Cls w A len f g) (hl : len ≤ 9223372036854775807) :
    Calls Try.prog 16 #[.agg #[.bool a, .bool r, .int .i64 F, .int .i64 W, .slice A len cap]] w fun e w' => e = .returned (.bool (okP a r F W len f g)) ∧ Below w.heap.size w w' := by
  have A1 := fun w => in29 F 750 1250 w
  have A2 := fun w => in29 W 0 1000 w
  have A3 := fun w h => contains35 A len cap f g w h hl
  obtain ⟨O, hO⟩ : ∃ O, O = okP a r F W len f g := ⟨_, rfl⟩
  rw [← hO]
  unfold okP at hO
  have HS := Lib.hid hs
  clear hs
  generalize inB F 750 1250 = p at A1 hO
  generalize inB W 0 1000 = q at A2 hO
  generalize allC f g len = c at A3 hO
  have A1 := Lib.hid A1
  have A2 := Lib.hid A2
  have A3 := Lib.hid A3
  have HO := Lib.hid hO
  clear hO
  cases p
  · go_enter Try.func16, Try.ntmps16
    go_wp2_with fail
    refine (A1.out _).mono ?_
    rintro r w1 ⟨rfl, rfl⟩
    go_wp2
    go_ret
    exact ⟨ret_bool (by rw [HO.out]; simp), by go_grown⟩
  · cases q
    · go_enter Try.func16, Try.ntmps16
      go_wp2_with fail
      refine (A1.out _).mono ?_
      rintro r w1 ⟨rfl, rfl⟩
      go_wp2_with fail
      refine (A2.out _).mono ?_
      rintro r w1 ⟨rfl, rfl⟩
      go_wp2
      go_ret
      exact ⟨ret_bool (by rw [HO.out]; simp), by go_grown⟩
    · by_cases h9 : len = 9
      · subst h9
        cases a
        · by_cases hF : F = 1000
          · subst hF
            by_cases hW : W = 0
            · subst hW
              cases r
              · go_enter Try.func16, Try.ntmps16
                go_wp2_with fail
                refine (A1.out _).mono ?_
                rintro r w1 ⟨rfl, rfl⟩
                go_wp2_with fail
                refine (A2.out _).mono ?_
                rintro r w1 ⟨rfl, rfl⟩
                go_wp2_with fail
                refine (A3.out _ (HS.out.below (by go_grown))).mono ?_
                rintro r w1 ⟨rfl, hb1⟩
                have hg1 := chain (w := w) (by go_grown) hb1
                go_wp2
                go_ret
                exact ⟨ret_bool (by rw [HO.out]; simp), hg1⟩
              · go_enter Try.func16, Try.ntmps16
                go_wp2_with fail
                refine (A1.out _).mono ?_
                rintro r w1 ⟨rfl, rfl⟩
                go_wp2_with fail
                refine (A2.out _).mono ?_
                rintro r w1 ⟨rfl, rfl⟩
                go_wp2
                go_ret
                exact ⟨ret_bool (by rw [HO.out]; simp), by go_grown⟩
            · have hW' : (W != 0) = true := by simp [hW]
              go_enter Try.func16, Try.ntmps16
              go_wp2_with fail
              refine (A1.out _).mono ?_
              rintro r w1 ⟨rfl, rfl⟩
              go_wp2_with fail
              refine (A2.out _).mono ?_
              rintro r w1 ⟨rfl, rfl⟩
              go_wp2
              go_ret
              exact ⟨ret_bool (by rw [HO.out]; simp [hW]), by go_grown⟩
          · have hF' : (F != 1000) = true := by simp [hF]
            go_enter Try.func16, Try.ntmps16
            go_wp2_with fail
            refine (A1.out _).mono ?_
            rintro r w1 ⟨rfl, rfl⟩
            go_wp2_with fail
            refine (A2.out _).mono ?_
            rintro r w1 ⟨rfl, rfl⟩
            go_wp2
            go_ret
            exact ⟨ret_bool (by rw [HO.out]; simp [hF]), by go_grown⟩
        · go_enter Try.func16, Try.ntmps16
          go_wp2_with fail
          refine (A1.out _).mono ?_
          rintro r w1 ⟨rfl, rfl⟩
          go_wp2_with fail
          refine (A2.out _).mono ?_
          rintro r w1 ⟨rfl, rfl⟩
          go_wp2_with fail
          refine (A3.out _ (HS.out.below (by go_grown))).mono ?_
          rintro r w1 ⟨rfl, hb1⟩
          have hg1 := chain (w := w) (by go_grown) hb1
          go_wp2
          go_ret
          exact ⟨ret_bool (by rw [HO.out]; simp), hg1⟩
      · have h9' : ((len : Int) != 9) = true := by simp; omega
        go_enter Try.func16, Try.ntmps16
        go_wp2_with fail
        refine (A1.out _).mono ?_
        rintro r w1 ⟨rfl, rfl⟩
        go_wp2_with fail
        refine (A2.out _).mono ?_
        rintro r w1 ⟨rfl, rfl⟩
        go_wp2
        go_ret
        exact ⟨ret_bool (by rw [HO.out]; simp [h9]), by go_grown⟩
set_option maxHeartbeats 2000000 in
theorem valid21 (a r : Bool) (F W : Int) (A : Option Addr) (len cap : Nat) (f g : Nat → Int) (w : World) (hs : Cls w A len f g) (hl : len ≤ 9223372036854775807) :
    Calls Try.prog 21 #[.agg #[.bool a, .bool r, .int .i64 F, .int .i64 W, .slice A len cap]] w fun e w' => e = .returned (.bool (okP a r F W len f g)) ∧ Below w.heap.size w w' := by
  have A1 := fun w => in33 F 750 1250 w
  have A2 := fun w => in33 W 0 1000 w
  obtain ⟨O, hO⟩ : ∃ O, O = okP a r F W len f g := ⟨_, rfl⟩
  rw [← hO]
  unfold okP at hO
  have HS := Lib.hid hs
  clear hs
  generalize inB F 750 1250 = p at A1 hO
  generalize inB W 0 1000 = q at A2 hO
  have A1 := Lib.hid A1
  have A2 := Lib.hid A2
  have HO := Lib.hid hO
  clear hO
  cases p
  · go_enter Try.func21, Try.ntmps21
    go_wp2_with fail
    refine (A1.out _).mono ?_
    rintro r w1 ⟨rfl, rfl⟩
    go_wp2
    go_ret
    exact ⟨ret_bool (by rw [HO.out]; simp), by go_grown⟩
  · cases q
    · go_enter Try.func21, Try.ntmps21
      go_wp2_with fail
      refine (A1.out _).mono ?_
      rintro r w1 ⟨rfl, rfl⟩
      go_wp2_with fail
      refine (A2.out _).mono ?_
      rintro r w1 ⟨rfl, rfl⟩
      go_wp2
      go_ret
      exact ⟨ret_bool (by rw [HO.out]; simp), by go_grown⟩
    · by_cases h9 : len = 9
      · subst h9
        go_enter Try.func21, Try.ntmps21
        go_wp2_with fail
        refine (A1.out _).mono ?_
        rintro e w1 ⟨rfl, rfl⟩
        go_wp2_with fail
        refine (A2.out _).mono ?_
        rintro e w1 ⟨rfl, rfl⟩
        go_wp2_with fail
        go_loopg [3] 9 (fun gk i wr => ∃ k : Nat, k ≤ 9 ∧ 9 - k ≤ gk ∧ i = .int .i64 k ∧ Hid (allC f g k = true) ∧ wr = w.alloc (.cells #[.bool a, .bool r, .int .i64 F, .int .i64 W, .slice A 9 cap] 24))
        case atStart => exact ⟨0, Nat.zero_le _, by omega, rfl, rfl, rfl⟩
        case round =>
          obtain ⟨k, hk, hgk, rfl, HA, rfl⟩ := hrel
          by_cases hlt : k < 9
          · obtain ⟨b, off, rfl, hb, hcell⟩ := HS.out (by omega)
            obtain ⟨d0, d1⟩ := hcell k hlt
            clear hcell
            have hT : cOk (f k) (g k) = true → allC f g (k + 1) = true := fun h => by
              show (allC f g k && cOk (f k) (g k)) = true
              rw [HA.out, h]; rfl
            have hF : cOk (f k) (g k) = false → allC f g 9 = false := fun h => allC_false h 9 hlt
            have B1 := fun w => in33 (f k) (-100) 100 w
            have B2 := fun w => in33 (g k) 0 1000 w
            unfold cOk at hT hF
            generalize inB (f k) (-100) 100 = o1 at hT hF B1
            generalize inB (g k) 0 1000 = o2 at hT hF B2
            generalize f k = x at d0 B1
            generalize g k = y at d1 B2
            have HTF := Lib.hid (And.intro hT hF)
            have B1 := Lib.hid B1
            have B2 := Lib.hid B2
            clear hT hF
            cases o1
            · go_wp2_with fail
              refine (B1.out _).mono ?_
              rintro e w2 ⟨rfl, rfl⟩
              go_wp2
              go_ret
              exact ⟨ret_bool (by rw [HO.out, HTF.out.2 (by simp)]; simp), by go_grown⟩
            · cases o2
              all_goals
                go_wp2_with fail
                refine (B1.out _).mono ?_
                rintro e w2 ⟨rfl, rfl⟩
                go_wp2_with fail
                refine (B2.out _).mono ?_
                rintro e w2 ⟨rfl, rfl⟩
                go_wp2
              · go_ret
                exact ⟨ret_bool (by rw [HO.out, HTF.out.2 (by simp)]; simp), by go_grown⟩
              · go_roundg (9 - (k + 1))
                case measure => omega
                case rel => exact ⟨k + 1, by omega, by omega, by go_num, HTF.out.1 (by simp), rfl⟩
          · obtain rfl : k = 9 := by omega
            have HO2 : Hid (O = (a || ((F == 1000) && (W == 0) && !r))) := by
              show O = _
              rw [HO.out, HA.out]; simp
            clear HO
            cases a
            · by_cases hF : F = 1000
              · subst hF
                by_cases hW : W = 0
                · subst hW
                  cases r
                  all_goals
                    go_wp2
                    go_ret
                    exact ⟨ret_bool (by rw [HO2.out]; simp), by go_grown⟩
                · have hW' : (W == 0) = false := by simp [hW]
                  go_wp2
                  go_ret
                  exact ⟨ret_bool (by rw [HO2.out]; simp [hW]), by go_grown⟩
              · have hF' : (F == 1000) = false := by simp [hF]
                go_wp2
                go_ret
                exact ⟨ret_bool (by rw [HO2.out]; simp [hF]), by go_grown⟩
            · go_wp2
              go_ret
              exact ⟨ret_bool (by rw [HO2.out]; simp), by go_grown⟩
      · have h9' : ((len : Int) != 9) = true := by simp; omega
        go_enter Try.func21, Try.ntmps21
        go_wp2_with fail
        refine (A1.out _).mono ?_
        rintro r w1 ⟨rfl, rfl⟩
        go_wp2_with fail
        refine (A2.out _).mono ?_
        rintro r w1 ⟨rfl, rfl⟩
        go_wp2
        go_ret
        exact ⟨ret_bool (by rw [HO.out]; simp [h9]), by go_grown⟩
end Go.Proofs.Ytemfjikiopcgpaa
