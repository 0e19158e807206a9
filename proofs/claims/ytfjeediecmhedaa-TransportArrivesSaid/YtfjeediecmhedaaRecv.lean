/-
  The contract of Receive: what the plain function rcvM says. No condition but the slices' shape and that the numbers are bytes.
-/
import Derived.Test.YtfjeediecmhedaaRecv5
import Derived.Test.YtfjeediecmhedaaRecv6
import Derived.Test.YtfjeediecmhedaaRecv7
set_option linter.unusedVariables false
set_option linter.unusedSimpArgs false
namespace Go.Proofs.Ytfjeediecmhedaa
open Go.RowKit
theorem kindM_ways (f : List Int) : kindM f = 0 ∨ kindM f = 1 ∨ kindM f = 2 ∨ kindM f = 3 ∨ kindM f < 0 := by
  unfold kindM
  repeat' split
  all_goals omega
theorem recv13 (A : Option Addr) (n c : Nat) (s : RS) (F : Option Addr) (m cF : Nat) (f : List Int) (t : Int) (w : World) (hl : s.l.length = n) (hb : Bt w A s.l) (hc : n ≤ c) (hfl : f.length = m) (hfb : Bt w F f) (hfB : Byt f) (hfc : m ≤ cF) :
    Calls Try.prog 13 #[.agg #[.slice A n c, .int .i64 s.Le, .int .i64 s.Nu, .int .i64 s.Bl, .int .i64 s.Gt, .bool s.Bu, .bool s.Dn, .int .i64 s.Dl, .bool s.Fl], .slice F m cF, .int .i64 t] w fun r w' =>
      (s.ok = false ∧ RP rzero [] 1 w r w') ∨ (s.ok = true ∧ timeB t = false ∧ RP rzero [] 2 w r w') ∨ (s.ok = true ∧ timeB t = true ∧ RP (rcvM s f t).1 (rcvM s f t).2.1 (rcvM s f t).2.2 w r w') := by
  obtain ⟨l, Le, Nu, Bl, Gt, Bu, Dn, Dl, Fl⟩ := s
  simp only [RS.ok]
  simp only at hl hb
  rw [hl]
  cases hv : vR n Le Nu Bl Gt Bu Dn Dl Fl
  · exact (recv13_arg A n c Le Nu Bl Gt Bu Dn Dl Fl l F m cF f t w hl hb hc hfl hfb hfB hfc hv).mono fun r w' h => .inl ⟨rfl, h⟩
  cases ht : timeB t
  · exact (recv13_range A n c Le Nu Bl Gt Bu Dn Dl Fl l F m cF f t w hl hb hc hfl hfb hfB hfc hv ht).mono fun r w' h => .inr (.inl ⟨rfl, rfl, h⟩)
  suffices H : Calls Try.prog 13 #[.agg #[.slice A n c, .int .i64 Le, .int .i64 Nu, .int .i64 Bl, .int .i64 Gt, .bool Bu, .bool Dn, .int .i64 Dl, .bool Fl], .slice F m cF, .int .i64 t] w (RP (rcvM ⟨l, Le, Nu, Bl, Gt, Bu, Dn, Dl, Fl⟩ f t).1 (rcvM ⟨l, Le, Nu, Bl, Gt, Bu, Dn, Dl, Fl⟩ f t).2.1 (rcvM ⟨l, Le, Nu, Bl, Gt, Bu, Dn, Dl, Fl⟩ f t).2.2 w) by
    exact H.mono fun r w' h => .inr (.inr ⟨rfl, rfl, h⟩)
  rcases kindM_ways f with hk | hk | hk | hk | hk
  · obtain rfl : m = 8 := by rw [← hfl]; exact kind_len (by omega)
    have e : rcvM ⟨l, Le, Nu, Bl, Gt, Bu, Dn, Dl, Fl⟩ f t = (⟨(f.drop 1).take (f.getD 0 0 % 16).toNat, f.getD 0 0 % 16, 0, Bl, 0, false, true, 0, false⟩, [], 0) := by unfold rcvM; rw [if_pos hk]
    rw [e]
    exact recv13_single A n c Le Nu Bl Gt Bu Dn Dl Fl l F cF f t w hl hb hc hfb hfB hfc hv ht hk
  · obtain rfl : m = 8 := by rw [← hfl]; exact kind_len (by omega)
    have e : rcvM ⟨l, Le, Nu, Bl, Gt, Bu, Dn, Dl, Fl⟩ f t = (⟨f.drop 2, f.getD 0 0 % 16 * 256 + f.getD 1 0, 1, Bl, 0, true, false, t + 1000000, false⟩, pad [48, Bl, 0], 0) := by unfold rcvM; rw [if_neg (by omega), if_pos hk]
    rw [e]
    exact recv13_first A n c Le Nu Bl Gt Bu Dn Dl Fl l F cF f t w hl hb hc hfb hfB hfc hv ht hk
  · obtain rfl : m = 8 := by rw [← hfl]; exact kind_len (by omega)
    cases Bu
    · have e : rcvM ⟨l, Le, Nu, Bl, Gt, false, Dn, Dl, Fl⟩ f t = (⟨l, Le, Nu, Bl, Gt, false, Dn, Dl, Fl⟩, [], 0) := by unfold rcvM; rw [if_neg (by omega), if_neg (by omega), if_pos hk]; simp
      rw [e]
      exact recv13_idle A n c Le Nu Bl Gt Dn Dl Fl l F cF f t w hl hb hc hfb hfB hfc hv ht hk
    · obtain ⟨rfl, rfl, L0, L1, n0, n1, N0, N1, G0, G1, hBG, D0, D1⟩ := vR_busy hv
      obtain ⟨e, rfl⟩ : ∃ e : Nat, Le = e := ⟨Le.toNat, by omega⟩
      by_cases hx : Dl < t ∨ f.getD 0 0 % 16 ≠ Nu
      · have e : rcvM ⟨l, (e : Int), Nu, Bl, Gt, true, false, Dl, false⟩ f t = (⟨[], 0, 0, Bl, 0, false, false, 0, true⟩, [], 0) := by unfold rcvM; rw [if_neg (by omega), if_neg (by omega), if_pos hk]; simp only [if_pos hx]; simp
        rw [e]
        exact recv13_fail A n c _ Nu Bl Gt Dl l F cF f t w hl hb hc hfb hfB hfc hv ht hk hx
      · have hx0 : t ≤ Dl := by omega
        have hx1 : f.getD 0 0 % 16 = Nu := by omega
        have hf8 := kind_len (f := f) (by omega)
        by_cases h7 : e ≤ n + 7
        · have em : min 7 ((e : Int).toNat - l.length) = e - n := by rw [hl]; simp; omega
          have el : (l ++ (f.drop 1).take (e - n)).length = (e : Int).toNat := by simp [hf8, hl]; omega
          have e' : rcvM ⟨l, (e : Int), Nu, Bl, Gt, true, false, Dl, false⟩ f t = (⟨l ++ (f.drop 1).take (e - n), e, 0, Bl, 0, false, true, 0, false⟩, [], 0) := by
            unfold rcvM
            rw [if_neg (by omega), if_neg (by omega), if_pos hk]
            simp only [em, if_neg hx, if_pos el]
            simp
          rw [e']
          exact recv13_done A n c e Nu Bl Gt Dl l F cF f t w hl hb hc hfb hfB hfc hv ht hk hx0 hx1 (e - n) (by omega) (by omega)
        · have em : min 7 ((e : Int).toNat - l.length) = 7 := by rw [hl]; simp; omega
          have el : ¬ (l ++ (f.drop 1).take 7).length = (e : Int).toNat := by simp [hf8, hl]; omega
          by_cases hB : Bl = 0
          · have e' : rcvM ⟨l, (e : Int), Nu, Bl, Gt, true, false, Dl, false⟩ f t = (⟨l ++ (f.drop 1).take 7, e, (Nu + 1) % 16, Bl, Gt, true, false, t + 1000000, false⟩, [], 0) := by
              unfold rcvM
              rw [if_neg (by omega), if_neg (by omega), if_pos hk]
              simp only [em, if_neg hx, if_neg el, if_pos hB]
              simp
            rw [e']
            exact recv13_free A n c e Nu Bl Gt Dl l F cF f t w hl hb hc hfb hfB hfc hv ht hk hx0 hx1 (by omega) hB
          · by_cases hG : Gt + 1 = Bl
            · have e' : rcvM ⟨l, (e : Int), Nu, Bl, Gt, true, false, Dl, false⟩ f t = (⟨l ++ (f.drop 1).take 7, e, (Nu + 1) % 16, Bl, 0, true, false, t + 1000000, false⟩, pad [48, Bl, 0], 0) := by
                unfold rcvM
                rw [if_neg (by omega), if_neg (by omega), if_pos hk]
                simp only [em, if_neg hx, if_neg el, if_neg hB, if_pos hG]
                simp
              rw [e']
              exact recv13_on A n c e Nu Bl Gt Dl l F cF f t w hl hb hc hfb hfB hfc hv ht hk hx0 hx1 (by omega) hB hG
            · have e' : rcvM ⟨l, (e : Int), Nu, Bl, Gt, true, false, Dl, false⟩ f t = (⟨l ++ (f.drop 1).take 7, e, (Nu + 1) % 16, Bl, Gt + 1, true, false, t + 1000000, false⟩, [], 0) := by
                unfold rcvM
                rw [if_neg (by omega), if_neg (by omega), if_pos hk]
                simp only [em, if_neg hx, if_neg el, if_neg hB, if_neg hG]
                simp
              rw [e']
              exact recv13_more A n c e Nu Bl Gt Dl l F cF f t w hl hb hc hfb hfB hfc hv ht hk hx0 hx1 (by omega) hB hG
  · obtain rfl : m = 8 := by rw [← hfl]; exact kind_len (by omega)
    have e : rcvM ⟨l, Le, Nu, Bl, Gt, Bu, Dn, Dl, Fl⟩ f t = (⟨l, Le, Nu, Bl, Gt, Bu, Dn, Dl, Fl⟩, [], 0) := by unfold rcvM; rw [if_neg (by omega), if_neg (by omega), if_neg (by omega), if_pos hk]
    rw [e]
    exact recv13_flow A n c Le Nu Bl Gt Bu Dn Dl Fl l F cF f t w hl hb hc hfb hfB hfc hv ht hk
  · have e : rcvM ⟨l, Le, Nu, Bl, Gt, Bu, Dn, Dl, Fl⟩ f t = (rzero, [], 3) := by unfold rcvM; rw [if_neg (by omega), if_neg (by omega), if_neg (by omega), if_neg (by omega)]
    rw [e]
    exact recv13_form A n c Le Nu Bl Gt Bu Dn Dl Fl l F m cF f t w hl hb hc hfl hfb hfB hfc hv ht hk
end Go.Proofs.Ytfjeediecmhedaa
