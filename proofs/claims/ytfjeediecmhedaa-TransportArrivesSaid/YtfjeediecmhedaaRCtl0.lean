/-
  The reference's Control where it refuses. No condition but the slices' shape.
-/
import Derived.Test.YtfjeediecmhedaaCtl1
import Derived.Test.YtfjeediecmhedaaRefKind
set_option linter.unusedVariables false
set_option linter.unusedSimpArgs false
namespace Go.Proofs.Ytfjeediecmhedaa
open Go.RowKit
set_option maxRecDepth 100000 in
set_option maxHeartbeats 16000000 in
theorem rctl32_form (A : Option Addr) (n c : Nat) (At Nu Bl Se : Int) (Wt : Bool) (Gp Dl : Int) (Fl : Bool) (l : List Int) (F : Option Addr) (m cF : Nat) (f : List Int) (t : Int) (w : World) (hfl : f.length = m) (hfb : Bt w F f) (hfB : Byt f) (hfc : m ≤ cF) (hk : kindM f ≠ 3) : Calls Try.prog 32 #[.agg #[.slice A n c, .int .i64 At, .int .i64 Nu, .int .i64 Bl, .int .i64 Se, .bool Wt, .int .i64 Gp, .int .i64 Dl, .bool Fl], .slice F m cF, .int .i64 t] w (S2 szero 3 w) := by
  have K := fun w h => kind45 F m cF f w hfl h hfB hfc
  obtain ⟨kk, hkk⟩ : ∃ kk, kk = kindM f := ⟨_, rfl⟩
  rw [← hkk] at hk
  simp only [← hkk] at K
  have hk3 : (kk != 3) = true := by simp [hk]
  replace K := Lib.hid K
  have HFB := Lib.hid hfb
  clear hkk hk hfb hfB hfl
  go_enter Try.func32, Try.ntmps32
  go_wp2_with fail
  refine (K.out _ (HFB.out.below (by go_grown))).mono ?_
  rintro r w1 ⟨rfl, rfl⟩
  go_wp2_with fail
  refine bodyPost_ret (v := .tuple #[.agg #[.slice none 0 0, .int .i64 0, .int .i64 0, .int .i64 0, .int .i64 0, .bool false, .int .i64 0, .int .i64 0, .bool false], .int .i64 3]) (by simp [results, Try.results32, go_sem] <;> first | rfl | ((repeat' apply And.intro) <;> rfl)) rfl ⟨none, 0, 0, rfl, rfl, by omega, Bt.nil _ _, Fr.none _, by go_grown⟩
set_option maxRecDepth 100000 in
set_option maxHeartbeats 16000000 in
theorem rctl32_state (A : Option Addr) (n c : Nat) (At Nu Bl Se : Int) (Gp Dl : Int) (Fl : Bool) (l : List Int) (F : Option Addr) (cF : Nat) (f : List Int) (t : Int) (w : World) (hfb : Bt w F f) (hfB : Byt f) (hfc : 8 ≤ cF) (hk : kindM f = 3) : Calls Try.prog 32 #[.agg #[.slice A n c, .int .i64 At, .int .i64 Nu, .int .i64 Bl, .int .i64 Se, .bool false, .int .i64 Gp, .int .i64 Dl, .bool Fl], .slice F 8 cF, .int .i64 t] w (S2 szero 6 w) := by
  have K := fun w h => kind45 F 8 cF f w (kind_len (by omega)) h hfB hfc
  simp only [hk] at K
  replace K := Lib.hid K
  have HFB := Lib.hid hfb
  clear hk hfb hfB
  go_enter Try.func32, Try.ntmps32
  go_wp2_with fail
  refine (K.out _ (HFB.out.below (by go_grown))).mono ?_
  rintro r w1 ⟨rfl, rfl⟩
  go_wp2_with fail
  refine bodyPost_ret (v := .tuple #[.agg #[.slice none 0 0, .int .i64 0, .int .i64 0, .int .i64 0, .int .i64 0, .bool false, .int .i64 0, .int .i64 0, .bool false], .int .i64 6]) (by simp [results, Try.results32, go_sem] <;> first | rfl | ((repeat' apply And.intro) <;> rfl)) rfl ⟨none, 0, 0, rfl, rfl, by omega, Bt.nil _ _, Fr.none _, by go_grown⟩
set_option maxRecDepth 100000 in
set_option maxHeartbeats 16000000 in
theorem rctl32_time (A : Option Addr) (n c : Nat) (At Nu Bl Se : Int) (Gp Dl : Int) (Fl : Bool) (l : List Int) (F : Option Addr) (cF : Nat) (f : List Int) (t : Int) (w : World) (hfb : Bt w F f) (hfB : Byt f) (hfc : 8 ≤ cF) (hk : kindM f = 3) (hx : Dl < t) : Calls Try.prog 32 #[.agg #[.slice A n c, .int .i64 At, .int .i64 Nu, .int .i64 Bl, .int .i64 Se, .bool true, .int .i64 Gp, .int .i64 Dl, .bool Fl], .slice F 8 cF, .int .i64 t] w (S2 szero 16 w) := by
  have K := fun w h => kind45 F 8 cF f w (kind_len (by omega)) h hfB hfc
  simp only [hk] at K
  replace K := Lib.hid K
  have HFB := Lib.hid hfb
  have hd : decide (Dl < t) = true := by simp [hx]
  clear hk hx hfb hfB
  go_enter Try.func32, Try.ntmps32
  go_wp2_with fail
  refine (K.out _ (HFB.out.below (by go_grown))).mono ?_
  rintro r w1 ⟨rfl, rfl⟩
  go_wp2_with fail
  refine bodyPost_ret (v := .tuple #[.agg #[.slice none 0 0, .int .i64 0, .int .i64 0, .int .i64 0, .int .i64 0, .bool false, .int .i64 0, .int .i64 0, .bool false], .int .i64 16]) (by simp [results, Try.results32, go_sem] <;> first | rfl | ((repeat' apply And.intro) <;> rfl)) rfl ⟨none, 0, 0, rfl, rfl, by omega, Bt.nil _ _, Fr.none _, by go_grown⟩
end Go.Proofs.Ytfjeediecmhedaa
