/-
  The contract of the reference's Lists at equal measures. No condition but the slices' shape.
-/
import Derived.Test.YtamajedopofcoaaZE
import Derived.Test.YtamajedopofcoaaZF
set_option linter.unusedVariables false
set_option linter.unusedSimpArgs false
namespace Go.Proofs.Ytamajedopofcoaa
open Go.RowKit
set_option maxRecDepth 100000 in
set_option maxHeartbeats 16000000 in
theorem lists24 (A B : Option Addr) (n c d : Nat) (l l2 : List MV) (w : World) (hl : l.length = n) (he : l.map MV.m = l2.map MV.m) (ha : Cv w A (flatM l)) (hb : Cv w B (flatM l2)) (hma : Mo [] w l) (hmb : Mo [] w l2) (hc : n ≤ c) (hd : n ≤ d) (hs : n ≤ 5000) (hs2 : ∀ x ∈ l, x.m.Ce.length ≤ 5000) : Calls Try.prog 24 #[.slice A n c, .slice B n d] w fun r w' => r = .returned (.bool true) ∧ Below w.heap.size w w' := by
  have HL := Lib.hid hl
  have HE := Lib.hid he
  have HA := Lib.hid ha
  have HB := Lib.hid hb
  have HMA := Lib.hid hma
  have HMB := Lib.hid hmb
  have HS2 := Lib.hid hs2
  have hl2 : l2.length = n := by have := congrArg List.length he; simp at this; omega
  have HL2 := Lib.hid hl2
  clear hl he ha hb hma hmb hs2 hl2
  go_enter Try.func24, Try.ntmps24
  go_upto_region 4 with fail
  go_loopg [5] n (fun gk v wr => ∃ i : Nat, i ≤ n ∧ n - i ≤ gk ∧ v = .int .i64 i ∧ Below w.heap.size w wr)
  case atStart => exact ⟨0, by omega, by omega, rfl, Below.refl _ _⟩
  case round =>
    obtain ⟨i, hi, hgk, rfl, hg⟩ := hrel
    by_cases hlt : i < n
    · have hil : i < l.length := by rw [HL.out]; exact hlt
      have hil2 : i < l2.length := by rw [HL2.out]; exact hlt
      obtain ⟨x, hx⟩ : ∃ x, l[i]? = some x := ⟨_, List.getElem?_eq_getElem hil⟩
      obtain ⟨y, hy⟩ : ∃ y, l2[i]? = some y := ⟨_, List.getElem?_eq_getElem hil2⟩
      have hxy : x.m = y.m := by
        have h1 : (l.map MV.m)[i]? = some x.m := by simp [hx]
        rw [HE.out] at h1
        have h2 : (l2.map MV.m)[i]? = some y.m := by simp [hy]
        rw [h2] at h1
        exact (Option.some.inj h1).symm
      obtain ⟨b, o, rfl, hbl, c0, c1, c2, c3, c4⟩ := (HA.out.below hg).five hx
      obtain ⟨b2, o2, rfl, hbl2, e0, e1, e2, e3, e4⟩ := (HB.out.below hg).five hy
      obtain ⟨m1, m2, _⟩ := HMA.out x (List.mem_of_getElem? hx)
      obtain ⟨m3, m4, _⟩ := HMB.out y (List.mem_of_getElem? hy)
      have hs3 := HS2.out x (List.mem_of_getElem? hx)
      rw [← hxy] at e0 e1 e2 e3 e4 m3 m4
      have K := fun w h h2 => ints31 x.B y.B x.m.Ce.length x.c y.c x.m.Ce w rfl h h2 m1 m3 hs3
      obtain ⟨Ev, hEv⟩ : ∃ q, q = x.m.Ev := ⟨_, rfl⟩
      obtain ⟨Ey, hEy⟩ : ∃ q, q = x.m.Ey := ⟨_, rfl⟩
      obtain ⟨Co, hCo⟩ : ∃ q, q = x.m.Co := ⟨_, rfl⟩
      obtain ⟨Ru, hRu⟩ : ∃ q, q = x.m.Ru := ⟨_, rfl⟩
      obtain ⟨nc, hnc⟩ : ∃ q, q = x.m.Ce.length := ⟨_, rfl⟩
      rw [← hnc] at K c3 e3
      rw [← hEv] at c0 e0
      rw [← hEy] at c1 e1
      rw [← hCo] at c2 e2
      rw [← hRu] at c4 e4
      have KA := fun W' (hH : (∀ b o, b < wr.heap.size → W'.cell? ⟨b, o, none⟩ = wr.cell? ⟨b, o, none⟩) ∧ Below wr.heap.size wr W') => K W' ((m2.below hg).below hH.2) ((m4.below hg).below hH.2)
      replace KA := Lib.hid KA
      have hz := hg.size
      have HG := Lib.hid hg
      clear hx hy hxy hil hil2 m1 m2 m3 m4 hs3 K hEv hEy hCo hRu hnc hg
      go_upto_region 6 with fail
      go_region_held3 (fun W' => (∀ b o, b < wr.heap.size → W'.cell? ⟨b, o, none⟩ = wr.cell? ⟨b, o, none⟩) ∧ Below wr.heap.size wr W')
        (first | exact Kp.mk (Below.refl _ _).drew | (refine Kp.next ?_ hb9; assumption))
        (first | (go_at_call 31; refine (KA.out _ ?_).mono ?_; assumption; rintro r w9 ⟨rfl, hb9⟩))
      rename_i hh
      have HG2 := Lib.hid (chain HG.out hh.2)
      clear hh hb9 HG c0 c1 c2 c3 c4 e0 e1 e2 e3 e4 KA
      go_wp2_with fail
      go_roundg (n - (i + 1))
      case measure => omega
      case rel => exact ⟨i + 1, by omega, by omega, by go_num, HG2.out⟩
    · obtain rfl : i = n := by omega
      go_wp2
      go_ret
      exact ⟨rfl, hg⟩
end Go.Proofs.Ytamajedopofcoaa
