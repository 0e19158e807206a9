/-
  The law TransportForeign of every input: plain laws, laws on regions, the walk. No condition but the slices' shape.
-/
import Derived.Test.YtfjeediecmhedaaLosR
import Derived.Test.YtfjeediecmhedaaSame
import Derived.Test.YtfjeediecmhedaaCarP
set_option linter.unusedVariables false
namespace Go.Proofs.Ytfjeediecmhedaa
open Go.RowKit
set_option linter.unusedSimpArgs false
theorem all_len {l : List Int} (h : 8 ≤ l.length) : (allM l 0 0).length = l.length / 7 + 2 := by
  rw [all_free h]; simp
theorem all_pos (l : List Int) : 1 ≤ (allM l 0 0).length := by
  by_cases h : l.length ≤ 7
  · rw [all_short h]; simp
  · rw [all_len (by omega)]; omega
theorem byt_all {l : List Int} (h : Byt l) (h1 : l.length ≤ 1023) : ∀ f ∈ allM l 0 0, Byt f := by
  intro f hf
  by_cases h7 : l.length ≤ 7
  · rw [all_short h7, List.mem_singleton] at hf
    subst hf
    refine byt_pad (fun x hx => ?_)
    rcases List.mem_cons.1 hx with rfl | hx
    · omega
    · exact h x hx
  · rw [all_free (by omega)] at hf
    rcases List.mem_cons.1 hf with rfl | hf
    · exact byt_ffr h h1
    rcases List.mem_cons.1 hf with rfl | hf
    · exact byt_go (by omega) (by omega) (by omega) (by omega)
    · obtain ⟨k, _, rfl⟩ := List.mem_map.1 hf
      exact byt_cfr h k
theorem all_get0 {l : List Int} (h : 8 ≤ l.length) : (allM l 0 0)[0]? = some (ffr l) := by rw [all_free h]; rfl
theorem all_get1 {l : List Int} (h : 8 ≤ l.length) : (allM l 0 0)[1]? = some (pad [48, 0, 0]) := by rw [all_free h]; rfl
theorem all_get {l : List Int} (h : 8 ≤ l.length) (k : Nat) (hk : k < l.length / 7) : (allM l 0 0)[k + 2]? = some (cfr l (k + 1)) := by
  rw [all_free h]
  simp only [List.getElem?_cons_succ, List.getElem?_map]
  rw [List.getElem?_range' hk]
  simp [Nat.add_comm]
/-- what the receiver has after k frames -/
def FR (l : List Int) (k : Nat) (S : RS) : Prop :=
  (k = 0 ∧ S.ok = true ∧ S.Bl = 0) ∨ (8 ≤ l.length ∧ k = 1 ∧ S = mid l 0 1 0 1000000) ∨ (8 ≤ l.length ∧ 2 ≤ k ∧ k < l.length / 7 + 2 ∧ S = mid l 0 (k - 1) 0 1000000) ∨ (1 ≤ k ∧ k = (allM l 0 0).length ∧ S = dn l 0)
theorem FR.ok {l : List Int} {k : Nat} {S : RS} (h1 : 1 ≤ l.length) (h2 : l.length ≤ 1023) (h : FR l k S) : S.ok = true ∧ S.Bl = 0 := by
  rcases h with ⟨_, a, b⟩ | ⟨h8, _, rfl⟩ | ⟨h8, _, _, rfl⟩ | ⟨_, _, rfl⟩
  · exact ⟨a, b⟩
  · exact ⟨mid_ok h8 h2 (by omega) (by omega) (by omega) (by omega) (by omega) (by omega) (.inl rfl) (by omega) (by omega), rfl⟩
  · exact ⟨mid_ok h8 h2 (by omega) (by omega) (by omega) (by omega) (by omega) (by omega) (.inl rfl) (by omega) (by omega), rfl⟩
  · exact ⟨dn_ok h1 h2 (by omega) (by omega), rfl⟩
theorem FR.step {l : List Int} {k : Nat} {S : RS} {f : List Int} (h1 : 1 ≤ l.length) (h2 : l.length ≤ 1023) (h : FR l k S) (hk : k < (allM l 0 0).length) (hf : (allM l 0 0)[k]? = some f) : (rcvM S f 0).2.2 = 0 ∧ FR l (k + 1) (rcvM S f 0).1 := by
  by_cases h7 : l.length ≤ 7
  · have hl : (allM l 0 0).length = 1 := by rw [all_short h7]; rfl
    obtain rfl : k = 0 := by omega
    rw [all_short h7] at hf
    obtain rfl : f = _ := (Option.some.inj hf).symm
    rw [rcv_one h1 h7]
    rcases h with ⟨_, _, b⟩ | ⟨h8, _⟩ | ⟨h8, _⟩ | ⟨h8, _⟩
    · rw [b]
      exact ⟨rfl, .inr (.inr (.inr ⟨by omega, by omega, rfl⟩))⟩
    · omega
    · omega
    · omega
  · have h8 : 8 ≤ l.length := by omega
    have hl := all_len h8
    rcases h with ⟨rfl, _, b⟩ | ⟨_, rfl, rfl⟩ | ⟨_, k2, k3, rfl⟩ | ⟨_, e, _⟩
    · rw [all_get0 h8] at hf
      obtain rfl := Option.some.inj hf
      rw [rcv_first h8 h2, b]
      exact ⟨rfl, .inr (.inl ⟨h8, rfl, rfl⟩)⟩
    · rw [all_get1 h8] at hf
      obtain rfl := Option.some.inj hf
      rw [rcv_flow _ _ (by omega) (by omega) (by omega) (by omega)]
      exact ⟨rfl, .inr (.inr (.inl ⟨h8, by omega, by omega, rfl⟩))⟩
    · obtain ⟨j, rfl⟩ : ∃ j, k = j + 2 := ⟨k - 2, by omega⟩
      rw [all_get h8 j (by omega)] at hf
      obtain rfl := Option.some.inj hf
      have e : j + 2 - 1 = j + 1 := by omega
      rw [e, rcv_next l (j + 1) 0 0 1000000 0 (by omega) (by omega) (by omega)]
      by_cases hx : l.length ≤ 7 * (j + 1 + 1) - 1
      · rw [if_pos hx]
        exact ⟨rfl, .inr (.inr (.inr ⟨by omega, by omega, rfl⟩))⟩
      · rw [if_neg hx, if_pos rfl]
        refine ⟨rfl, .inr (.inr (.inl ⟨h8, by omega, by omega, ?_⟩))⟩
        have e2 : j + 2 + 1 - 1 = j + 1 + 1 := by omega
        rw [e2]
        rfl
    · omega
theorem FR.done {l : List Int} {S : RS} (h : FR l (allM l 0 0).length S) : S = dn l 0 := by
  have hp := all_pos l
  rcases h with ⟨e, _⟩ | ⟨h8, e, _⟩ | ⟨h8, _, e, _⟩ | ⟨_, _, e⟩
  · omega
  · have := all_len h8; omega
  · have := all_len h8; omega
  · exact e
theorem FR.start {l : List Int} {S : RS} (h : S.ok = true ∧ S.Bl = 0) : FR l 0 S := .inl ⟨rfl, h.1, h.2⟩
theorem rzero_ok : rzero.ok = true ∧ rzero.Bl = 0 := ⟨rz_ok (by omega) (by omega), rfl⟩
theorem all_third {l : List Int} (h : 2 < (allM l 0 0).length) : 8 ≤ l.length ∧ (allM l 0 0)[2]? = some (cfr l 1) := by
  by_cases h7 : l.length ≤ 7
  · rw [all_short h7] at h; simp at h
  · exact ⟨by omega, all_get (by omega) 0 (by omega)⟩
set_option linter.unusedSimpArgs false
section
variable {P : Program} {ops : Array Oper} {Q : Exit → Act → World → Prop} {md : Region.Mode} {S : World → Prop} {k : Nat}
/-- k and one other operation may come up -/
theorem K_two {j : Nat} {o oj : Oper} {fuel : Nat} {l : Array Bool} {a : Act} {w : World} (hr : Region.ready md ops l = [k, j]) (hl : (l.setIfInBounds k true).getD k false = true) (ho : ops[k]? = some o) (hoj : ops[j]? = some oj)
    (h1 : ∀ K' : Act → World → Prop, Shut (∀ a w, wpAny P md ops Q fuel (l.setIfInBounds k true) a w → K' a w) → if Region.wanted o (yielded ops a.tmps) = true then Oper.wp P o a w K' Q else K' (a.put o.dst undef) w)
    (h2 : ∀ K' : Act → World → Prop, Shut (∀ a w, S w → (S w → AnyK P md ops Q S k fuel (l.setIfInBounds j true) a w) → K' a w) → if Region.wanted oj (yielded ops a.tmps) = true then Oper.wp P oj a w K' Q else K' (a.put oj.dst undef) w) : AnyK P md ops Q S k (fuel + 1) l a w := by
  refine ⟨fun h0 => (by rw [h0] at hr; cases hr), fun i hi => ?_⟩
  rw [hr] at hi
  rcases List.mem_cons.1 hi with rfl | hi
  · exact wpOp_step ho (fun K' hK => h1 K' (fun a w hW => hK a w ⟨fun h0 => (by rw [hl] at h0; cases h0), K_of_any _ _ _ _ hl hW⟩))
  · obtain rfl : i = j := by simpa using hi
    exact wpOp_step hoj (fun K' hK => h2 K' (fun a w hS hW => hK a w ⟨fun _ => hS, hW hS⟩))
end
theorem Kept.refl (w : World) (R : Nat) : Kept w w R := ⟨Nat.le_refl _, fun _ _ _ => rfl⟩
theorem Kept.below {w w' w2 : World} {R : Nat} (h : Kept w w' R) (hb : Below w'.heap.size w' w2) : Kept w w2 R :=
  ⟨Nat.le_trans h.1 hb.size, fun b hl hn => (hb.block b (Nat.lt_of_lt_of_le hl h.1)).trans (h.2 b hl hn)⟩
theorem Kept.set {w w' : World} {R : Nat} (h : Kept w w' R) (j : Nat) (u : Value) : Kept w (w'.setCell ⟨R, j, none⟩ u) R :=
  ⟨by simpa using h.1, fun b hl hn => (Below.heap_setCell w' ⟨R, j, none⟩ u b hn).trans (h.2 b hl hn)⟩
theorem Kept.set9 {w w' : World} {R : Nat} (h : Kept w w' R) (v0 v1 v2 v3 v4 v5 v6 v7 v8 : Value) : Kept w (((((((((w'.setCell ⟨R, 0, none⟩ v0).setCell ⟨R, 1, none⟩ v1).setCell ⟨R, 2, none⟩ v2).setCell ⟨R, 3, none⟩ v3).setCell ⟨R, 4, none⟩ v4).setCell ⟨R, 5, none⟩ v5).setCell ⟨R, 6, none⟩ v6).setCell ⟨R, 7, none⟩ v7).setCell ⟨R, 8, none⟩ v8) R :=
  (((((((((h.set 0 v0).set 1 v1).set 2 v2).set 3 v3).set 4 v4).set 5 v5).set 6 v6).set 7 v7).set 8 v8)
/-- an outer round's end -/
def OR (lb : List Int) (o : Nat) (S : RS) : Prop := (o = 0 ∧ S = rzero) ∨ (o = 1 ∧ S.ok = true ∧ S.Bl = 0) ∨ (o = 2 ∧ S = dn lb 0)
set_option linter.unusedSimpArgs false
set_option maxRecDepth 100000 in
set_option maxHeartbeats 16000000 in
theorem foreign_a (A : Option Addr) (n c : Nat) (l : List Int) (A2 : Option Addr) (n2 c2 : Nat) (l2 : List Int) (at_ : Int) (w : World) (hl : l.length = n) (hb : Bt w A l) (hB : Byt l) (hc : n ≤ c) (hl2 : l2.length = n2) (hb2 : Bt w A2 l2) (hB2 : Byt l2) (hc2 : n2 ≤ c2) (at0 : 0 ≤ at_) (at1 : at_ ≤ 255) (hm : msgB n = false) : Calls Try.prog 9 #[.slice A n c, .slice A2 n2 c2, .int .u8 at_] w fun x w' => x = .returned (.bool true) ∧ Below w.heap.size w w' := by
  have M := fun w => message11 A n c w
  rw [hm] at M
  replace M := Lib.hid M
  clear hm hl hl2 hb hb2 hB hB2
  go_enter Try.func9, Try.ntmps9
  go_wp2_with fail
  refine (awake10 _).mono ?_
  rintro x w1 ⟨rfl, hb1⟩
  have hg1 := chain (w := w) (by go_grown) hb1
  go_wp2_with fail
  refine (M.out _).mono ?_
  rintro x w2 ⟨rfl, rfl⟩
  go_wp2_with fail
  refine (awake10 _).mono ?_
  rintro x w2 ⟨rfl, hb2⟩
  have hg2 := chain hg1 hb2
  go_wp2
  go_ret
  exact ⟨rfl, hg2⟩
set_option maxRecDepth 100000 in
set_option maxHeartbeats 16000000 in
theorem foreign_b (A : Option Addr) (n c : Nat) (l : List Int) (A2 : Option Addr) (n2 c2 : Nat) (l2 : List Int) (at_ : Int) (w : World) (hl : l.length = n) (hb : Bt w A l) (hB : Byt l) (hc : n ≤ c) (hl2 : l2.length = n2) (hb2 : Bt w A2 l2) (hB2 : Byt l2) (hc2 : n2 ≤ c2) (at0 : 0 ≤ at_) (at1 : at_ ≤ 255) (hm : msgB n = true) (hm2 : msgB n2 = false) : Calls Try.prog 9 #[.slice A n c, .slice A2 n2 c2, .int .u8 at_] w fun x w' => x = .returned (.bool true) ∧ Below w.heap.size w w' := by
  have M := fun w => message11 A n c w
  rw [hm] at M
  replace M := Lib.hid M
  have M2 := fun w => message11 A2 n2 c2 w
  rw [hm2] at M2
  replace M2 := Lib.hid M2
  clear hm hm2 hl hl2 hb hb2 hB hB2
  go_enter Try.func9, Try.ntmps9
  go_wp2_with fail
  refine (awake10 _).mono ?_
  rintro x w1 ⟨rfl, hb1⟩
  have hg1 := chain (w := w) (by go_grown) hb1
  go_wp2_with fail
  refine (M.out _).mono ?_
  rintro x w2 ⟨rfl, rfl⟩
  go_wp2_with fail
  refine (M2.out _).mono ?_
  rintro x w2 ⟨rfl, rfl⟩
  go_wp2_with fail
  refine (awake10 _).mono ?_
  rintro x w2 ⟨rfl, hb2⟩
  have hg2 := chain hg1 hb2
  go_wp2
  go_ret
  exact ⟨rfl, hg2⟩
set_option linter.unusedSimpArgs false
set_option maxRecDepth 100000 in
set_option maxHeartbeats 16000000 in
theorem foreign_ok (A : Option Addr) (n c : Nat) (l : List Int) (A2 : Option Addr) (n2 c2 : Nat) (l2 : List Int) (at_ : Int) (w : World) (hl : l.length = n) (hb : Bt w A l) (hB : Byt l) (hc : n ≤ c) (hl2 : l2.length = n2) (hb2 : Bt w A2 l2) (hB2 : Byt l2) (hc2 : n2 ≤ c2) (at0 : 0 ≤ at_) (at1 : at_ ≤ 255) (hm : msgB n = true) (hm2 : msgB n2 = true) : Calls Try.prog 9 #[.slice A n c, .slice A2 n2 c2, .int .u8 at_] w fun x w' => x = .returned (.bool true) ∧ Below w.heap.size w w' := by
  have M := fun w => message11 A n c w
  rw [hm] at M
  replace M := Lib.hid M
  have M2 := fun w => message11 A2 n2 c2 w
  rw [hm2] at M2
  replace M2 := Lib.hid M2
  obtain ⟨m0, m1⟩ : 1 ≤ n ∧ n ≤ 1023 := by simpa [msgB] using hm
  obtain ⟨m2, m3⟩ : 1 ≤ n2 ∧ n2 ≤ 1023 := by simpa [msgB] using hm2
  have K := fun w h => carry12_ok A n c 0 0 l w hl h hc hm (by omega) (by omega) (by omega) (by omega)
  have K2 := fun w h => carry12_ok A2 n2 c2 0 0 l2 w hl2 h hc2 hm2 (by omega) (by omega) (by omega) (by omega)
  obtain ⟨fs, hfs⟩ : ∃ fs, fs = allM l 0 0 := ⟨_, rfl⟩
  obtain ⟨fs2, hfs2⟩ : ∃ fs, fs = allM l2 0 0 := ⟨_, rfl⟩
  have sz1 : fs.length ≤ 5000 := by have := allM_size l 0 0; rw [hfs]; omega
  have sz2 : fs2.length ≤ 5000 := by have := allM_size l2 0 0; rw [hfs2]; omega
  have ps1 : 1 ≤ fs.length := by rw [hfs]; exact all_pos l
  have ps2 : 1 ≤ fs2.length := by rw [hfs2]; exact all_pos l2
  rw [← hfs] at K
  rw [← hfs2] at K2
  replace K := Lib.hid K
  replace K2 := Lib.hid K2
  have HF := Lib.hid hfs
  have HF2 := Lib.hid hfs2
  have HB := Lib.hid hb
  have HL := Lib.hid hl
  have HBY := Lib.hid hB
  have HB2 := Lib.hid hb2
  have HL2 := Lib.hid hl2
  have HBY2 := Lib.hid hB2
  clear hb hl hB hb2 hl2 hB2 hm hm2 hfs hfs2
  go_enter Try.func9, Try.ntmps9
  go_wp2_with fail
  refine (awake10 _).mono ?_
  rintro x w1 ⟨rfl, hb1⟩
  have hg1 := chain (w := w) (by go_grown) hb1
  go_wp2_with fail
  refine (M.out _).mono ?_
  rintro x w2 ⟨rfl, rfl⟩
  go_wp2_with fail
  refine (M2.out _).mono ?_
  rintro x w2 ⟨rfl, rfl⟩
  go_wp2_with fail
  refine (K.out _ (HB.out.below hg1)).mono ?_
  rintro x w2 ⟨g1, m, d, xs, rfl, hm1, hmd, hg0, hg1l, hcell, hrw, hb2⟩
  have hg2 := chain hg1 hb2
  have HM1 := Lib.hid hm1
  have HCL := Lib.hid hcell
  have HRW := Lib.hid hrw
  have hpm : 1 ≤ m := by omega
  have hm5 : m ≤ 5000 := by omega
  clear hm1 hcell hrw hb1 hg1
  go_wp2_with fail
  refine (K2.out _ (HB2.out.below hg2)).mono ?_
  rintro x w3 ⟨g2, mm, d2, ys, rfl, hm2, hmd2, hg02, hg2l, hcell2, hrw2, hb3⟩
  have hg3 := chain hg2 hb3
  have hz3 := hb3.size
  have hz03 := hg3.size
  have HM2 := Lib.hid hm2
  have hpmm : 1 ≤ mm := by omega
  have hmm5 : mm ≤ 5000 := by omega
  have hg1l3 : g1 < w3.heap.size := by omega
  have HCL3 := Lib.hid (fun (j : Nat) (u : Value) (e : xs[j]? = some u) => ((bcell hb3).1 g1 j hg1l).trans (HCL.out j u e))
  have HRW3 := Lib.hid (HRW.out.below hb3)
  have HCY3 := Lib.hid hcell2
  have HRY3 := Lib.hid hrw2
  have HG3 := Lib.hid hg3
  have e0 : decide (m = 0) = false := by simp; omega
  have e0' : ((m : Int) == 0) = false := by simp; omega
  have e0'' : decide ((m : Int) = 0) = false := by simp; omega
  clear hm2 hcell2 hrw2 hb2 hb3 hg2 hg3 HCL HRW K K2 M M2
  obtain ⟨R, hR⟩ : ∃ R, R = w3.heap.size := ⟨_, rfl⟩
  have C4 := Cl.new (w := w3) hR [.slice none 0 0, .int .i64 0, .int .i64 0, .int .i64 0, .int .i64 0, .bool false, .bool false, .int .i64 0, .bool false] 30
  have G4 : Below R w3 (w3.alloc (.cells #[.slice none 0 0, .int .i64 0, .int .i64 0, .int .i64 0, .int .i64 0, .bool false, .bool false, .int .i64 0, .bool false] 30)) := by rw [hR]; exact (Below.refl _ _).alloc (Nat.le_refl _) _
  have HC4 := Lib.hid C4
  have HG4 := Lib.hid G4
  have HRE := Lib.hid hR
  clear C4 G4 hR
  go_upto_region 8 with fail
  rw [← HRE.out]
  obtain ⟨w8, hw8⟩ : ∃ wx, wx = w3.alloc (.cells #[.slice none 0 0, .int .i64 0, .int .i64 0, .int .i64 0, .int .i64 0, .bool false, .bool false, .int .i64 0, .bool false] 30) := ⟨_, rfl⟩
  have C8 : Cl R w8 [.slice none 0 0, .int .i64 0, .int .i64 0, .int .i64 0, .int .i64 0, .bool false, .bool false, .int .i64 0, .bool false] := by rw [hw8]; exact HC4.out
  have G8 : Below R w3 w8 := by rw [hw8]; exact HG4.out
  have z8 : w8.heap.size = R + 1 := by rw [hw8, HRE.out]; simp
  rw [← hw8]
  have HC8 := Lib.hid C8
  have HG8 := Lib.hid G8
  have hR8 : R < w8.heap.size := by omega
  have hg18 : g1 < w8.heap.size := by have := HRE.out; omega
  have HZ8 := Lib.hid z8
  clear C8 G8 z8 hw8 HC4 HG4
  go_upto_if 57 with fail
  go_cut [12, 13, 14] from 57 to 79 (fun v12 v13 v14 wc => Cl R wc [.slice none 0 0, .int .i64 0, .int .i64 0, .int .i64 0, .int .i64 0, .bool false, .bool false, .int .i64 0, .bool false] ∧ Below R w3 wc)
  case first =>
    by_cases h2 : 2 < m
    · have d2' : decide ((2 : Int) < (m : Int)) = true := by simp; omega
      have d2i : (2 : Int) < (m : Int) := by omega
      have h2f : 2 < fs.length := by have := HM1.out; omega
      obtain ⟨h8, h3⟩ := all_third (l := l) (by rw [← HF.out]; exact h2f)
      rw [← HF.out] at h3
      obtain ⟨hkl, hfk2⟩ := List.getElem?_eq_some_iff.1 h3
      obtain ⟨B, cf, x1, x2, x3, x4⟩ := HRW3.out.get hkl
      rw [hfk2] at x1 x2 x3
      rw [cfr_len] at x1 x2
      have G38 : Below w3.heap.size w3 w8 := by rw [← HRE.out]; exact HG8.out
      have q1 : w8.cell? ⟨g1, 2, none⟩ = some (.slice B 8 cf) := ((bcell G38).1 _ _ hg1l3).trans (HCL3.out 2 _ x1)
      have hF8 := Lib.hid (x3.below G38)
      have hbf : Byt (cfr l 1) := byt_cfr HBY.out 1
      have hxl := cfr_len l 1
      have KR := fun W (hW : (∀ b o, b < w8.heap.size → W.cell? ⟨b, o, none⟩ = w8.cell? ⟨b, o, none⟩) ∧ Below w8.heap.size w8 W) => recv13_ok none 0 0 rzero B 8 cf (cfr l 1) 0 W rfl (Bt.nil _ _) (Nat.le_refl _) hxl (hF8.out.below hW.2) hbf x2 rzero_ok.1 (by decide)
      rw [rcv_idle l 1 rzero 0 rfl] at KR
      replace KR := Lib.hid KR
      have p0 := HC8.out.c 0 rfl
      have p1 := HC8.out.c 1 rfl
      have p2 := HC8.out.c 2 rfl
      have p3 := HC8.out.c 3 rfl
      have p4 := HC8.out.c 4 rfl
      have p5 := HC8.out.c 5 rfl
      have p6 := HC8.out.c 6 rfl
      have p7 := HC8.out.c 7 rfl
      have p8 := HC8.out.c 8 rfl
      have e0 := HC8.out.f 0 rfl
      have e1 := HC8.out.f 1 rfl
      have e2 := HC8.out.f 2 rfl
      have e3 := HC8.out.f 3 rfl
      have e4 := HC8.out.f 4 rfl
      have e5 := HC8.out.f 5 rfl
      have e6 := HC8.out.f 6 rfl
      have e7 := HC8.out.f 7 rfl
      have e8 := HC8.out.f 8 rfl
      clear h3 hkl hfk2 x1 x3 x4 G38 hbf hxl h2f h8 h2
      go_upto_region 9 with fail
      go_cut [12, 13, 14] from 57 to 66 (fun v12 v13 v14 wc => ∃ (Q : Nat) (Aq : Option Addr) (cq : Nat) (Bq : Option Addr) (dq : Nat), w8.heap.size ≤ Q ∧ 0 ≤ cq ∧ v12 = .pointer (some ⟨Q, 0, none⟩) ∧ Cl Q wc [.slice Aq 0 cq, .int .i64 0, .int .i64 0, .int .i64 0, .int .i64 0, .bool false, .bool false, .int .i64 0, .bool false] ∧ v13 = .slice Bq 0 dq ∧ v14 = .int .i64 0 ∧ Below w8.heap.size w8 wc)
      case first =>
        refine region_K (fun W' => (∀ b o, b < w8.heap.size → W'.cell? ⟨b, o, none⟩ = w8.cell? ⟨b, o, none⟩) ∧ Below w8.heap.size w8 W') 4 (by kernel_rfl) (Kp.mk (Below.refl _ _).drew) (fun hHeld => ?_)
        refine K_take' (i := 1) (v := ?_) rfl (by kernel_rfl) (by kernel_rfl) (by kernel_rfl) (by kernel_rfl) (fun _ _ _ h => h) (Or.inl ⟨by kernel_rfl, ?_⟩) hHeld ?_
        rotate_left 1
        · intro W8 hSw
          clear hSw
          go_simp
          all_goals with_reducible rfl
        try simp only [Act.put, List.setIfInBounds_toArray, List.set_cons_zero, List.set_cons_succ]
        refine K_take' (i := 2) (v := ?_) rfl (by kernel_rfl) (by kernel_rfl) (by kernel_rfl) (by kernel_rfl) (fun _ _ _ h => h) (Or.inl ⟨by kernel_rfl, ?_⟩) hHeld ?_
        rotate_left 1
        · intro W8 hSw
          clear hSw
          go_simp
          all_goals with_reducible rfl
        try simp only [Act.put, List.setIfInBounds_toArray, List.set_cons_zero, List.set_cons_succ]
        refine K_take (i := 0) (v := ?_) rfl (by kernel_rfl) (by kernel_rfl) (by kernel_rfl) (by kernel_rfl) (by kernel_rfl) (fun _ _ _ h => h) (Or.inl ⟨by kernel_rfl, ?_⟩) hHeld ?_
        rotate_left 1
        · intro W8 hSw
          (try dsimp only at hSw)
          go_simp
          all_goals with_reducible rfl
        try simp only [Act.put, List.setIfInBounds_toArray, List.set_cons_zero, List.set_cons_succ]
        refine K_take (i := 3) (v := ?_) rfl (by kernel_rfl) (by kernel_rfl) (by kernel_rfl) (by kernel_rfl) (by kernel_rfl) (fun _ _ _ h => h) (Or.inl ⟨by kernel_rfl, ?_⟩) hHeld ?_
        rotate_left 1
        · intro W8 hSw
          (try dsimp only at hSw)
          go_simp
          all_goals with_reducible rfl
        try simp only [Act.put, List.setIfInBounds_toArray, List.set_cons_zero, List.set_cons_succ]
        refine K_two (j := 9) (by kernel_rfl) (by kernel_rfl) rfl rfl (fun K hK => ?_) (fun K hK => ?_)
        · go_simp
          refine (KR.out _ hHeld).mono ?_
          rintro x w9 ⟨Aq, nq, cq, Bq, mq, dq, rfl, hnq, hcq, hbtq, hfrq, hmq, hdq, hbfq, hffq, hb9⟩
          obtain rfl : nq = 0 := hnq
          obtain rfl : mq = 0 := hmq
          clear hbtq hfrq hbfq hffq
          have hb89 : Below w8.heap.size w8 w9 := hHeld.2.trans (hb9.mono hHeld.2.size)
          refine hK.out _ _ ?_
          clear hK K
          try simp only [Act.put, List.setIfInBounds_toArray, List.set_cons_zero, List.set_cons_succ]
          refine wpAny_take (i := 5) (v := ?_) rfl (by kernel_rfl) (by kernel_rfl) (by kernel_rfl) (fun _ _ _ h => h) (Or.inl ⟨by kernel_rfl, ?_⟩) ?_
          rotate_left 1
          · intro W8
            go_simp
            all_goals with_reducible rfl
          try simp only [Act.put, List.setIfInBounds_toArray, List.set_cons_zero, List.set_cons_succ]
          refine wpAny_take (i := 6) (v := ?_) rfl (by kernel_rfl) (by kernel_rfl) (by kernel_rfl) (fun _ _ _ h => h) (Or.inl ⟨by kernel_rfl, ?_⟩) ?_
          rotate_left 1
          · intro W8
            go_simp
            all_goals with_reducible rfl
          try simp only [Act.put, List.setIfInBounds_toArray, List.set_cons_zero, List.set_cons_succ]
          refine wpAny_take (i := 7) (v := ?_) rfl (by kernel_rfl) (by kernel_rfl) (by kernel_rfl) (fun _ _ _ h => h) (Or.inl ⟨by kernel_rfl, ?_⟩) ?_
          rotate_left 1
          · intro W8
            go_simp
            all_goals with_reducible rfl
          try simp only [Act.put, List.setIfInBounds_toArray, List.set_cons_zero, List.set_cons_succ]
          refine wpAny_take (i := 8) (v := ?_) rfl (by kernel_rfl) (by kernel_rfl) (by kernel_rfl) (fun _ _ _ h => h) (Or.inl ⟨by kernel_rfl, ?_⟩) ?_
          rotate_left 1
          · intro W8
            go_simp
            all_goals with_reducible rfl
          try simp only [Act.put, List.setIfInBounds_toArray, List.set_cons_zero, List.set_cons_succ]
          refine wpAny_ready (rs := [9]) (by kernel_rfl) (by simp) (AllReady.cons rfl (fun K hK => ?_) AllReady.nil)
          go_simp
          refine hK _ _ ?_
          clear hK K
          try simp only [Act.put, List.setIfInBounds_toArray, List.set_cons_zero, List.set_cons_succ]
          refine wpAny_ready (rs := [10]) (by kernel_rfl) (by simp) (AllReady.cons rfl (fun K hK => ?_) AllReady.nil)
          go_simp
          refine hK _ _ ?_
          clear hK K
          try simp only [Act.put, List.setIfInBounds_toArray, List.set_cons_zero, List.set_cons_succ]
          refine wpAny_ready (rs := [11]) (by kernel_rfl) (by simp) (AllReady.cons rfl (fun K hK => ?_) AllReady.nil)
          go_simp
          refine hK _ _ ?_
          clear hK K
          try simp only [Act.put, List.setIfInBounds_toArray, List.set_cons_zero, List.set_cons_succ]
          refine wpAny_ready (rs := [12]) (by kernel_rfl) (by simp) (AllReady.cons rfl (fun K hK => ?_) AllReady.nil)
          go_simp
          refine hK _ _ ?_
          clear hK K
          try simp only [Act.put, List.setIfInBounds_toArray, List.set_cons_zero, List.set_cons_succ]
          refine wpAny_done (by kernel_rfl) ?_ _
          have hz9 := hb89.size
          have HB89 := Lib.hid hb89
          clear hb9 hb89 hHeld
          go_wp2_with fail
          go_meet
          case rel => exact ⟨w9.heap.size, Aq, cq, Bq, dq, hz9, hcq, rfl, Cl.new rfl [.slice Aq 0 cq, .int .i64 0, .int .i64 0, .int .i64 0, .int .i64 0, .bool false, .bool false, .int .i64 0, .bool false] 30, rfl, rfl, HB89.out.alloc hz9 _⟩
        · go_simp
          refine hK.out _ _ (Kp.mk (show Below w8.heap.size w8 _ from ((Below.refl _ _).alloc (Nat.le_refl _) _).drew)) (fun hHeld2 => ?_)
          clear hK K
          try simp only [Act.put, List.setIfInBounds_toArray, List.set_cons_zero, List.set_cons_succ]
          refine K_step (by kernel_rfl) (by kernel_rfl) rfl (fun K hK => ?_)
          go_simp
          refine (KR.out _ hHeld2).mono ?_
          rintro x w9 ⟨Aq, nq, cq, Bq, mq, dq, rfl, hnq, hcq, hbtq, hfrq, hmq, hdq, hbfq, hffq, hb9⟩
          obtain rfl : nq = 0 := hnq
          obtain rfl : mq = 0 := hmq
          clear hbtq hfrq hbfq hffq
          have hb89 : Below w8.heap.size w8 w9 := hHeld2.2.trans (hb9.mono hHeld2.2.size)
          have hQ9 : w8.heap.size < w9.heap.size := by have := hb9.size; simp at this; omega
          have CQ : Cl w8.heap.size w9 [.slice none 0 0, .int .i64 0, .int .i64 0, .int .i64 0, .int .i64 0, .bool false, .bool false, .int .i64 0, .bool false] := ((Cl.new (w := w8) rfl [.slice none 0 0, .int .i64 0, .int .i64 0, .int .i64 0, .int .i64 0, .bool false, .bool false, .int .i64 0, .bool false] 30).below (Below.refl _ _).drew).below hb9
          refine hK.out _ _ ?_
          clear hK K
          try simp only [Act.put, List.setIfInBounds_toArray, List.set_cons_zero, List.set_cons_succ]
          refine wpAny_take (i := 5) (v := ?_) rfl (by kernel_rfl) (by kernel_rfl) (by kernel_rfl) (fun _ _ _ h => h) (Or.inl ⟨by kernel_rfl, ?_⟩) ?_
          rotate_left 1
          · intro W8
            go_simp
            all_goals with_reducible rfl
          try simp only [Act.put, List.setIfInBounds_toArray, List.set_cons_zero, List.set_cons_succ]
          refine wpAny_take (i := 6) (v := ?_) rfl (by kernel_rfl) (by kernel_rfl) (by kernel_rfl) (fun _ _ _ h => h) (Or.inl ⟨by kernel_rfl, ?_⟩) ?_
          rotate_left 1
          · intro W8
            go_simp
            all_goals with_reducible rfl
          try simp only [Act.put, List.setIfInBounds_toArray, List.set_cons_zero, List.set_cons_succ]
          refine wpAny_take (i := 7) (v := ?_) rfl (by kernel_rfl) (by kernel_rfl) (by kernel_rfl) (fun _ _ _ h => h) (Or.inl ⟨by kernel_rfl, ?_⟩) ?_
          rotate_left 1
          · intro W8
            go_simp
            all_goals with_reducible rfl
          try simp only [Act.put, List.setIfInBounds_toArray, List.set_cons_zero, List.set_cons_succ]
          refine wpAny_take (i := 8) (v := ?_) rfl (by kernel_rfl) (by kernel_rfl) (by kernel_rfl) (fun _ _ _ h => h) (Or.inl ⟨by kernel_rfl, ?_⟩) ?_
          rotate_left 1
          · intro W8
            go_simp
            all_goals with_reducible rfl
          try simp only [Act.put, List.setIfInBounds_toArray, List.set_cons_zero, List.set_cons_succ]
          have HB89 := Lib.hid hb89
          have HCQ := Lib.hid CQ
          have q0 := CQ.c 0 rfl
          have q1 := CQ.c 1 rfl
          have q2 := CQ.c 2 rfl
          have q3 := CQ.c 3 rfl
          have q4 := CQ.c 4 rfl
          have q5 := CQ.c 5 rfl
          have q6 := CQ.c 6 rfl
          have q7 := CQ.c 7 rfl
          have q8 := CQ.c 8 rfl
          have f0 := CQ.f 0 rfl
          have f1 := CQ.f 1 rfl
          have f2 := CQ.f 2 rfl
          have f3 := CQ.f 3 rfl
          have f4 := CQ.f 4 rfl
          have f5 := CQ.f 5 rfl
          have f6 := CQ.f 6 rfl
          have f7 := CQ.f 7 rfl
          have f8 := CQ.f 8 rfl
          clear hb9 hb89 hHeld hHeld2 CQ
          refine wpAny_ready (rs := [10]) (by kernel_rfl) (by simp) (AllReady.cons rfl (fun K hK => ?_) AllReady.nil)
          go_simp
          refine hK _ _ ?_
          clear hK K
          try simp only [Act.put, List.setIfInBounds_toArray, List.set_cons_zero, List.set_cons_succ]
          clear q0 q1 q2 q3 q4 q5 q6 q7 q8 f0 f1 f2 f3 f4 f5 f6 f7 f8
          refine wpAny_ready (rs := [11]) (by kernel_rfl) (by simp) (AllReady.cons rfl (fun K hK => ?_) AllReady.nil)
          go_simp
          refine hK _ _ ?_
          clear hK K
          try simp only [Act.put, List.setIfInBounds_toArray, List.set_cons_zero, List.set_cons_succ]
          refine wpAny_ready (rs := [12]) (by kernel_rfl) (by simp) (AllReady.cons rfl (fun K hK => ?_) AllReady.nil)
          go_simp
          refine hK _ _ ?_
          clear hK K
          try simp only [Act.put, List.setIfInBounds_toArray, List.set_cons_zero, List.set_cons_succ]
          refine wpAny_done (by kernel_rfl) ?_ _
          go_wp2_with fail
          go_meet
          case rel => exact ⟨w8.heap.size, Aq, cq, Bq, dq, Nat.le_refl _, hcq, rfl, HCQ.out.set9 (.slice Aq 0 cq) (.int .i64 0) (.int .i64 0) (.int .i64 0) (.int .i64 0) (.bool false) (.bool false) (.int .i64 0) (.bool false), rfl, rfl, below_set9 HB89.out (Nat.le_refl _) _ _ _ _ _ _ _ _ _⟩
      case rest =>
        obtain ⟨Q, Aq, cq, Bq, dq, hQ, _, rfl, hCQ, rfl, rfl, hbc⟩ := hcut
        have HCQ := Lib.hid hCQ
        have HBC := Lib.hid hbc
        have HCR := Lib.hid (HC8.out.below hbc)
        have hzc := hbc.size
        have hQl := hCQ.1
        clear hCQ hbc p0 p1 p2 p3 p4 p5 p6 p7 p8 e0 e1 e2 e3 e4 e5 e6 e7 e8 KR
        have q0 := HCQ.out.c 0 rfl
        have q1 := HCQ.out.c 1 rfl
        have q2 := HCQ.out.c 2 rfl
        have q3 := HCQ.out.c 3 rfl
        have q4 := HCQ.out.c 4 rfl
        have q5 := HCQ.out.c 5 rfl
        have q6 := HCQ.out.c 6 rfl
        have q7 := HCQ.out.c 7 rfl
        have q8 := HCQ.out.c 8 rfl
        have p0 := HCR.out.c 0 rfl
        have p1 := HCR.out.c 1 rfl
        have p2 := HCR.out.c 2 rfl
        have p3 := HCR.out.c 3 rfl
        have p4 := HCR.out.c 4 rfl
        have p5 := HCR.out.c 5 rfl
        have p6 := HCR.out.c 6 rfl
        have p7 := HCR.out.c 7 rfl
        have p8 := HCR.out.c 8 rfl
        go_wp2_with fail
        refine (same24 Aq none 0 cq 0 0 0 0 0 false false 0 false [] _ rfl (Bt.nil _ _) (Bt.nil _ _)).mono ?_
        rintro x w5 ⟨rfl, hb5⟩
        have hz5 := hb5.size
        have HX := Lib.hid (HCR.out.below hb5)
        have HY := Lib.hid ((HG8.out.trans (HBC.out.mono (Nat.le_of_lt hR8))).trans (hb5.mono (show R ≤ wc.heap.size by omega)))
        clear hb5 q0 q1 q2 q3 q4 q5 q6 q7 q8 p0 p1 p2 p3 p4 p5 p6 p7 p8
        go_wp2_with fail
        go_meet
        case rel => exact ⟨HX.out, HY.out⟩
    · have d2' : decide ((2 : Int) < (m : Int)) = false := by simp; omega
      go_wp2_with fail
      go_meet
      case rel => exact ⟨HC8.out, HG8.out⟩
  case rest =>
    obtain ⟨hC, hB⟩ := hcut
    have hm0 : ¬ (m : Int) = 0 := by omega
    have f1 := Int.emod_nonneg at_ (show (m : Int) ≠ 0 by omega)
    have f2 := Int.emod_lt_of_pos at_ (show (0 : Int) < (m : Int) by omega)
    have f3 : at_ % (m : Int) ≤ (d : Int) := by omega
    have HC := Lib.hid hC
    have HBb := Lib.hid hB
    clear hC hB HC8 HG8 HZ8
    go_upto_region 13 with fail
    obtain ⟨M, hM⟩ : ∃ M, M = (at_ % (m : Int)).toNat := ⟨_, rfl⟩
    have hMm : M < m := by omega
    rw [← hM]
    obtain ⟨w9, hw9⟩ : ∃ wx, wx = wc.alloc (.cells #[.slice (some ⟨g1, 0, none⟩) M d, .slice (some ⟨g2, 0, none⟩) mm d2] 25) := ⟨_, rfl⟩
    rw [← hw9]
    obtain ⟨G, hG⟩ : ∃ G, G = wc.heap.size := ⟨_, rfl⟩
    rw [← hG]
    have hal : Below wc.heap.size wc w9 := by rw [hw9]; exact (Below.refl _ _).alloc (Nat.le_refl _) _
    have CG : Cl G w9 [.slice (some ⟨g1, 0, none⟩) M d, .slice (some ⟨g2, 0, none⟩) mm d2] := by rw [hw9]; exact Cl.new hG [.slice (some ⟨g1, 0, none⟩) M d, .slice (some ⟨g2, 0, none⟩) mm d2] 25
    have C9 := HC.out.below hal
    have hRwc : R < wc.heap.size := HC.out.1
    have hRG : R < G := by omega
    have G9 : Below w3.heap.size w3 w9 := by
      rw [← HRE.out]
      exact HBb.out.trans (hal.mono (Nat.le_of_lt hRwc))
    have hz9 := G9.size
    have hg1R : g1 < R := by have := HRE.out; omega
    have hg2R : g2 < R := by have := HRE.out; omega
    have hwR : w.heap.size ≤ R := by have := HRE.out; omega
    have HX9 := Lib.hid (fun (j : Nat) (u : Value) (e : xs[j]? = some u) => ((bcell G9).1 g1 j hg1l3).trans (HCL3.out j u e))
    have HY9 := Lib.hid (fun (j : Nat) (u : Value) (e : ys[j]? = some u) => ((bcell G9).1 g2 j hg2l).trans (HCY3.out j u e))
    have HXR := Lib.hid ((HRW3.out.imp (Nb := fun b => b ≠ R) (fun b hb _ => by have := HRE.out; omega)).below G9)
    have HYR := Lib.hid ((HRY3.out.imp (Nb := fun b => b ≠ R) (fun b hb _ => by have := HRE.out; omega)).below G9)
    have HW9 := Lib.hid (HG3.out.trans (G9.mono hz03))
    have HCG := Lib.hid CG
    have HC9 := Lib.hid C9
    have hGl := CG.1
    have hRl9 : R < w9.heap.size := by omega
    clear hw9 hal CG C9 G9 HC HBb hM f1 f2 f3 hm0 HCL3 HCY3 HRW3 HRY3 HG3 e0 e0' e0'' hG
    go_loopg [90] 2 (fun gk v90 wr => ∃ (o : Nat) (S : RS) (A3 : Option Addr) (n3 c3 : Nat), o ≤ 2 ∧ 2 - o ≤ gk ∧ v90 = .int .i64 o ∧ OR l2 o S ∧ Cl R wr [.slice A3 n3 c3, .int .i64 (S).Le, .int .i64 (S).Nu, .int .i64 (S).Bl, .int .i64 (S).Gt, .bool (S).Bu, .bool (S).Dn, .int .i64 (S).Dl, .bool (S).Fl] ∧ n3 = S.l.length ∧ n3 ≤ c3 ∧ Bt wr A3 S.l ∧ (∀ b oo, A3 = some ⟨b, oo, none⟩ → b ≠ R) ∧ Kept w9 wr R ∧ Below w.heap.size w wr)
    case atStart => exact ⟨0, rzero, none, 0, 0, by omega, by omega, rfl, .inl ⟨rfl, rfl⟩, HC9.out, rfl, Nat.le_refl _, Bt.nil _ _, (fun b o e => by cases e), Kept.refl _ _, HW9.out⟩
    case round =>
      obtain ⟨o, S, A3, n3, c3, ho, hgk, rfl, hOR, hC, hn3, hc3, hbt, hA3, hk, hb⟩ := hrel
      clear HC9 HW9
      by_cases hlt : o < 2
      · have hrow : ∃ (l' : List Int) (fs' : List (List Int)) (gg MM DD : Nat) (zs : List Value), w9.cell? ⟨G, o, none⟩ = some (.slice (some ⟨gg, 0, none⟩) MM DD) ∧ MM ≤ DD ∧ MM ≤ 5000 ∧ MM ≤ fs'.length ∧ fs' = allM l' 0 0 ∧ 1 ≤ l'.length ∧ l'.length ≤ 1023 ∧ Byt l' ∧ (∀ j u, zs[j]? = some u → w9.cell? ⟨gg, j, none⟩ = some u) ∧ gg < R ∧ Rw w9 (fun b => b ≠ R) zs fs' ∧ FR l' 0 S ∧ (∀ S', FR l' MM S' → OR l2 (o + 1) S') := by
          rcases hOR with ⟨rfl, rfl⟩ | ⟨rfl, hok⟩ | ⟨rfl, _⟩
          · refine ⟨l, fs, g1, M, d, xs, HCG.out.c 0 rfl, by omega, by omega, by have := HM1.out; omega, HF.out, by rw [HL.out]; exact m0, by rw [HL.out]; exact m1, HBY.out, HX9.out, hg1R, HXR.out, FR.start rzero_ok, fun S' h => .inr (.inl ⟨rfl, h.ok (by rw [HL.out]; exact m0) (by rw [HL.out]; exact m1)⟩)⟩
          · refine ⟨l2, fs2, g2, mm, d2, ys, HCG.out.c 1 rfl, hmd2, hmm5, by have := HM2.out; omega, HF2.out, by rw [HL2.out]; exact m2, by rw [HL2.out]; exact m3, HBY2.out, HY9.out, hg2R, HYR.out, FR.start hok, fun S' h => .inr (.inr ⟨rfl, ?_⟩)⟩
            rw [HM2.out, HF2.out] at h
            exact h.done
          · omega
        obtain ⟨l', fs', gg, MM, DD, zs, cG, hMD, hM5, hMf, hfs', hl1, hl2', hby, hcz, hggR, hrz, hfr, hend⟩ := hrow
        have q1 : wr.cell? ⟨G, o, none⟩ = some (.slice (some ⟨gg, 0, none⟩) MM DD) := (hk.cell hGl (by omega) o).trans cG
        have dlt : decide ((o : Int) < 2) = true := by simp; omega
        have HFS := Lib.hid hfs'
        have HBYl := Lib.hid hby
        have HCZ := Lib.hid hcz
        have HRZ := Lib.hid hrz
        have HEND := Lib.hid hend
        have HS := Lib.hid (show FR l' 0 S ∧ Cl R wr [.slice A3 n3 c3, .int .i64 (S).Le, .int .i64 (S).Nu, .int .i64 (S).Bl, .int .i64 (S).Gt, .bool (S).Bu, .bool (S).Dn, .int .i64 (S).Dl, .bool (S).Fl] ∧ n3 = S.l.length ∧ n3 ≤ c3 ∧ Bt wr A3 S.l ∧ (∀ b oo, A3 = some ⟨b, oo, none⟩ → b ≠ R) ∧ Kept w9 wr R ∧ Below w.heap.size w wr from ⟨hfr, hC, hn3, hc3, hbt, hA3, hk, hb⟩)
        have hz9r := hk.1
        clear cG hfs' hby hcz hrz hend hfr hC hn3 hbt hA3 hk hb hOR
        go_wp2_with fail
        go_loopg [96] MM (fun gk v96 wr => ∃ (k : Nat) (S : RS) (A3 : Option Addr) (n3 c3 : Nat), k ≤ MM ∧ MM - k ≤ gk ∧ v96 = .int .i64 k ∧ FR l' k S ∧ Cl R wr [.slice A3 n3 c3, .int .i64 (S).Le, .int .i64 (S).Nu, .int .i64 (S).Bl, .int .i64 (S).Gt, .bool (S).Bu, .bool (S).Dn, .int .i64 (S).Dl, .bool (S).Fl] ∧ n3 = S.l.length ∧ n3 ≤ c3 ∧ Bt wr A3 S.l ∧ (∀ b oo, A3 = some ⟨b, oo, none⟩ → b ≠ R) ∧ Kept w9 wr R ∧ Below w.heap.size w wr)
        case atStart => exact ⟨0, S, A3, n3, c3, by omega, by omega, rfl, HS.out⟩
        case round =>
          clear HS
          obtain ⟨k, S5, A4, n4, c4, hkM, hgk2, rfl, hfr, hC, hn4, hc4, hbt, hA4, hk, hb⟩ := hrel
          by_cases hkl : k < MM
          · have hkf : k < fs'.length := by omega
            have hfk := List.getElem?_eq_getElem hkf
            have hok := (hfr.ok hl1 hl2').1
            obtain ⟨herr, hnx⟩ := hfr.step (f := fs'[k]) hl1 hl2' (by rw [← HFS.out]; exact hkf) (by rw [← HFS.out]; exact hfk)
            obtain ⟨B, cf, x1, x2, x3, x4⟩ := (HRZ.out.kept hk (by simp)).get hkf
            have hf8 : fs'[k].length = 8 := allM_len8 l' 0 0 _ (by rw [← HFS.out]; exact List.getElem_mem hkf)
            have hbf : Byt fs'[k] := byt_all HBYl.out hl2' _ (by rw [← HFS.out]; exact List.getElem_mem hkf)
            obtain ⟨f, hf⟩ : ∃ f, f = fs'[k] := ⟨_, rfl⟩
            rw [← hf] at herr hnx x1 x2 x3 hf8 hbf
            rw [hf8] at x1 x2
            have q2 : wr.cell? ⟨gg, k, none⟩ = some (.slice B 8 cf) := (hk.cell (by omega) (by omega) k).trans (HCZ.out k _ x1)
            have KR := fun w h h2 => recv13_ok A4 n4 c4 S5 B 8 cf f 0 w hn4.symm h hc4 hf8 h2 hbf x2 hok (by decide)
            rw [herr] at KR
            obtain ⟨S6, hS6⟩ : ∃ S6, S6 = (rcvM S5 f 0).1 := ⟨_, rfl⟩
            rw [← hS6] at KR hnx
            replace KR := Lib.hid KR
            have HNX := Lib.hid hnx
            have HF3 := Lib.hid x3
            have HC := Lib.hid hC
            have HBT := Lib.hid hbt
            have HK := Lib.hid hk
            have HBe := Lib.hid hb
            have hRl := hC.1
            have hwr := hb.size
            clear hfk hfr hkf herr hnx x1 x3 x4 hf hf8 hbf hS6 hC hbt hk hb hok hn4 hA4
            have p0 := HC.out.c 0 rfl
            have p1 := HC.out.c 1 rfl
            have p2 := HC.out.c 2 rfl
            have p3 := HC.out.c 3 rfl
            have p4 := HC.out.c 4 rfl
            have p5 := HC.out.c 5 rfl
            have p6 := HC.out.c 6 rfl
            have p7 := HC.out.c 7 rfl
            have p8 := HC.out.c 8 rfl
            have e0 := HC.out.f 0 rfl
            have e1 := HC.out.f 1 rfl
            have e2 := HC.out.f 2 rfl
            have e3 := HC.out.f 3 rfl
            have e4 := HC.out.f 4 rfl
            have e5 := HC.out.f 5 rfl
            have e6 := HC.out.f 6 rfl
            have e7 := HC.out.f 7 rfl
            have e8 := HC.out.f 8 rfl
            go_wp2_with fail
            refine (KR.out _ HBT.out HF3.out).mono ?_
            rintro x w5 ⟨A5, n5, c5, B5, m5, d5, rfl, hn5, hc5, hbt5, hfr5, hm5, hd5, hbf5, hff5, hb5⟩
            have P5 := HC.out.below hb5
            have HP5 := Lib.hid P5
            have HBT5 := Lib.hid hbt5
            have HFR5 := Lib.hid hfr5
            have HN5 := Lib.hid hn5
            have HK5 := Lib.hid (HK.out.below hb5)
            have HB5 := Lib.hid (chain HBe.out hb5)
            have hR5 := P5.1
            clear p0 p1 p2 p3 p4 p5 p6 p7 p8 e0 e1 e2 e3 e4 e5 e6 e7 e8 hbt5 hfr5 hn5 hm5 hd5 hbf5 hff5 hb5
            have p0 := P5.c 0 rfl
            have p1 := P5.c 1 rfl
            have p2 := P5.c 2 rfl
            have p3 := P5.c 3 rfl
            have p4 := P5.c 4 rfl
            have p5 := P5.c 5 rfl
            have p6 := P5.c 6 rfl
            have p7 := P5.c 7 rfl
            have p8 := P5.c 8 rfl
            have e0 := P5.f 0 rfl
            have e1 := P5.f 1 rfl
            have e2 := P5.f 2 rfl
            have e3 := P5.f 3 rfl
            have e4 := P5.f 4 rfl
            have e5 := P5.f 5 rfl
            have e6 := P5.f 6 rfl
            have e7 := P5.f 7 rfl
            have e8 := P5.f 8 rfl
            clear P5
            go_wp2_with fail
            go_roundg (MM - (k + 1))
            case measure => omega
            case rel =>
              refine ⟨k + 1, S6, A5, n5, c5, by omega, by omega, by go_num, HNX.out, HP5.out.set9 (.slice A5 n5 c5) (.int .i64 S6.Le) (.int .i64 S6.Nu) (.int .i64 S6.Bl) (.int .i64 S6.Gt) (.bool S6.Bu) (.bool S6.Dn) (.int .i64 S6.Dl) (.bool S6.Fl), HN5.out, hc5, ?_, fun b oo q => ?_, HK5.out.set9 _ _ _ _ _ _ _ _ _, below_set9 HB5.out hwR _ _ _ _ _ _ _ _ _⟩
              · exact HBT5.out.set9 (fun b o q h => by have := HFR5.out b o q; omega) _ _ _ _ _ _ _ _ _
              · have := HFR5.out b oo q; omega
          · obtain rfl : k = MM := by omega
            have HO := Lib.hid (HEND.out S5 hfr)
            have HT := Lib.hid (show Cl R wr [.slice A4 n4 c4, .int .i64 (S5).Le, .int .i64 (S5).Nu, .int .i64 (S5).Bl, .int .i64 (S5).Gt, .bool (S5).Bu, .bool (S5).Dn, .int .i64 (S5).Dl, .bool (S5).Fl] ∧ n4 = S5.l.length ∧ n4 ≤ c4 ∧ Bt wr A4 S5.l ∧ (∀ b oo, A4 = some ⟨b, oo, none⟩ → b ≠ R) ∧ Kept w9 wr R ∧ Below w.heap.size w wr from ⟨hC, hn4, hc4, hbt, hA4, hk, hb⟩)
            clear hfr hC hn4 hbt hA4 hk hb HEND
            go_wp2_with fail
            go_roundg (2 - (o + 1))
            case measure => omega
            case rel => exact ⟨o + 1, S5, A4, n4, c4, by omega, by omega, by go_num, HO.out, HT.out⟩
      · obtain rfl : o = 2 := by omega
        have hS : S = dn l2 0 := by
          rcases hOR with ⟨h, _⟩ | ⟨h, _⟩ | ⟨_, h⟩
          · omega
          · omega
          · exact h
        subst hS
        have hn : n3 = n2 := by rw [hn3]; exact HL2.out
        subst hn
        have p6 : wr.cell? ⟨R, 6, none⟩ = some (.bool true) := hC.c 6 rfl
        have p0 : wr.cell? ⟨R, 0, none⟩ = some (.slice A3 n3 c3) := hC.c 0 rfl
        have E := Lib.hid (equal18 A3 A2 n3 c3 c2 l2 wr HL2.out hbt (HB2.out.below hb))
        have HBe := Lib.hid hb
        clear hC hn3 hbt hA3 hk hb hOR
        go_wp2_with fail
        refine E.out.mono ?_
        rintro x w5 ⟨rfl, rfl⟩
        go_wp2
        go_ret
        exact ⟨rfl, HBe.out⟩
theorem foreign9 (A : Option Addr) (n c : Nat) (l : List Int) (A2 : Option Addr) (n2 c2 : Nat) (l2 : List Int) (at_ : Int) (w : World) (hl : l.length = n) (hb : Bt w A l) (hB : Byt l) (hc : n ≤ c) (hl2 : l2.length = n2) (hb2 : Bt w A2 l2) (hB2 : Byt l2) (hc2 : n2 ≤ c2) (at0 : 0 ≤ at_) (at1 : at_ ≤ 255) : Calls Try.prog 9 #[.slice A n c, .slice A2 n2 c2, .int .u8 at_] w fun x w' => x = .returned (.bool true) ∧ Below w.heap.size w w' := by
  cases hm : msgB n
  · exact foreign_a A n c l A2 n2 c2 l2 at_ w hl hb hB hc hl2 hb2 hB2 hc2 at0 at1 hm
  cases hm2 : msgB n2
  · exact foreign_b A n c l A2 n2 c2 l2 at_ w hl hb hB hc hl2 hb2 hB2 hc2 at0 at1 hm hm2
  · exact foreign_ok A n c l A2 n2 c2 l2 at_ w hl hb hB hc hl2 hb2 hB2 hc2 at0 at1 hm hm2
end Go.Proofs.Ytfjeediecmhedaa
