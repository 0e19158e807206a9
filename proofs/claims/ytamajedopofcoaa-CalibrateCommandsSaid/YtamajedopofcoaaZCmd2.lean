/-
  The contract of Command for the command that reads, with no measures. No condition but that it succeeds.
-/
import Derived.Test.YtamajedopofcoaaZD
import Derived.Test.YtamajedopofcoaaZE
import Derived.Test.YtamajedopofcoaaZNew
set_option linter.unusedVariables false
set_option linter.unusedSimpArgs false
namespace Go.Proofs.Ytamajedopofcoaa
open Go.RowKit
set_option maxRecDepth 100000 in
set_option maxHeartbeats 16000000 in
theorem com22_read (A : Option Addr) (n c : Nat) (A2 : Option Addr) (n2 c2 : Nat) (Ac Pe : Int) (A3 : Option Addr) (m c3 : Nat) (R W : List Int) (ch : List (Int × Int)) (b o c5 : Nat) (x y v : Int) (w : World) (hl : R.length = n) (hb : Ik .i64 w A R) (hc : n ≤ c) (hl2 : W.length = n2) (hb2 : Ik .i64 w A2 W) (hc2 : n2 ≤ c2) (hl3 : ch.length = m) (hb3 : Ik .i64 w A3 (flat ch)) (hc3 : m ≤ c3) (hs : n ≤ 5000) (hs2 : n2 ≤ 5000) (hs3 : m ≤ 5000) (hv : vP R W Ac Pe ch = true) (h1 : w.cell? ⟨b, o, none⟩ = some (.int .u8 1)) (h2 : w.cell? ⟨b, o + 1, none⟩ = some (.int .u8 x)) (h3 : w.cell? ⟨b, o + 1 + 1, none⟩ = some (.int .u8 y)) (hbl : b < w.heap.size) (hc5 : 3 ≤ c5) (x0 : 0 ≤ x) (x1 : x ≤ 255) (y0 : 0 ≤ y) (y1 : y ≤ 255) (v0 : -9223372036854775808 ≤ v) (v1 : v ≤ 9223372036854775807) (hr : readM ⟨R, W, Ac, Pe, ch⟩ (x * 256 + y) = (v, 0)) : Calls Try.prog 22 #[.agg #[.slice A n c, .slice A2 n2 c2, .int .i64 Ac, .int .i64 Pe, .slice A3 m c3], .slice none 0 0, .slice (some ⟨b, o, none⟩) 3 c5] w fun r w' => ∃ X1 k1 X2 k2 X3 k3 B cB, r = .returned (.tuple #[.agg #[.slice X1 R.length k1, .slice X2 W.length k2, .int .i64 Ac, .int .i64 Pe, .slice X3 ch.length k3], .slice none 0 0, .slice B 9 cB]) ∧ 9 ≤ cB ∧ Ik .u8 w' B (255 :: byts v) ∧ Below w.heap.size w w' := by
  have hs' : R.length ≤ 5000 := by omega
  have hs2' : W.length ≤ 5000 := by omega
  have hs3' : ch.length ≤ 5000 := by omega
  have KM := fun (X1 : Option Addr) (k1 : Nat) (X2 : Option Addr) (k2 : Nat) (X3 : Option Addr) (k3 : Nat) w i1 e1 i2 e2 i3 e3 g1 g2 g3 g4 => cmd41_read X1 R.length k1 X2 W.length k2 Ac Pe X3 ch.length k3 R W ch none 0 0 b o c5 x y v w rfl i1 e1 rfl i2 e2 rfl i3 e3 hs' hs2' hs3' g1 g2 g3 g4 hc5 x0 x1 y0 y1 v0 v1 hr
  have KV := fun w h h2 h3 => valid11 A n c A2 n2 c2 Ac Pe A3 m c3 R W ch w hl h hc hl2 h2 hc2 hl3 h3 hc3 hs hs2 hs3
  rw [hv] at KV
  replace KV := Lib.hid KV
  have KC := fun w h h2 h3 => copy36 A n c A2 n2 c2 Ac Pe A3 m c3 R W ch w hl h hc hl2 h2 hc2 hl3 h3 hc3 hs hs2 hs3
  replace KC := Lib.hid KC
  replace KM := Lib.hid KM
  have C1 := (Cl.new (w := w) rfl [.slice A n c, .slice A2 n2 c2, .int .i64 Ac, .int .i64 Pe, .slice A3 m c3] 25).below ((Below.refl _ _).alloc (Nat.le_refl _) (.cells #[.slice none 0 0, .slice none 0 0, .int .i64 0, .int .i64 0, .slice none 0 0] 25))
  have C2 := Cl.new (P := w.heap.size + 1) (w := w.alloc (.cells #[.slice A n c, .slice A2 n2 c2, .int .i64 Ac, .int .i64 Pe, .slice A3 m c3] 25)) (by simp) [.slice none 0 0, .slice none 0 0, .int .i64 0, .int .i64 0, .slice none 0 0] 25
  have G8 : Below w.heap.size w ((w.alloc (.cells #[.slice A n c, .slice A2 n2 c2, .int .i64 Ac, .int .i64 Pe, .slice A3 m c3] 25)).alloc (.cells #[.slice none 0 0, .slice none 0 0, .int .i64 0, .int .i64 0, .slice none 0 0] 25)) := by go_grown
  have HB1 := Lib.hid (hb.below G8)
  have HB2 := Lib.hid (hb2.below G8)
  have HB3 := Lib.hid (hb3.below G8)
  have H1 := Lib.hid h1
  have H2 := Lib.hid h2
  have H3 := Lib.hid h3
  have HG8 := Lib.hid G8
  have HC := Lib.hid C1
  have HD := Lib.hid C2
  clear hl hl2 hl3 hb hb2 hb3 hv hr h1 h2 h3 C1 C2 G8 hs' hs2' hs3'
  go_enter Try.func22, Try.ntmps22
  go_wp2_with fail
  refine (KC.out _ HB1.out HB2.out HB3.out).mono ?_
  rintro r w2 ⟨v1', v2', v3', b2, b3, rfl, hB2, hB3, hO1, _, hO2, _, hO3, _, hb2'⟩
  obtain ⟨X1, k1, rfl, hk1, _, hi1, _, _⟩ := own_it hO1
  obtain ⟨X2, k2, rfl, hk2, _, hi2, _, _⟩ := own_it hO2
  obtain ⟨X3, k3, rfl, hk3, _, hi3, _, _⟩ := own_it hO3
  have HG2 := Lib.hid (chain HG8.out hb2')
  have HG2S := Lib.hid (show w.heap.size + 2 ≤ w2.heap.size by have := hb2'.size; simp at this; omega)
  have HC2 := Lib.hid (HC.out.below hb2')
  have HD2 := Lib.hid (HD.out.below hb2')
  have HA1 := Lib.hid (HB1.out.below hb2')
  have HA2 := Lib.hid (HB2.out.below hb2')
  have HA3 := Lib.hid (HB3.out.below hb2')
  have HI1 := Lib.hid hi1
  have HI2 := Lib.hid hi2
  have HI3 := Lib.hid hi3
  clear hO1 hO2 hO3 hi1 hi2 hi3 hb2' HG8 HC HD HB1 HB2 HB3 hB2 hB3 KC
  go_wp2_with fail
  refine (copy39_nil _).mono ?_
  rintro r w3 ⟨rfl, hb3'⟩
  have al4 : Below w3.heap.size w3 (w3.alloc (.cells #[.slice X1 R.length k1, .slice X2 W.length k2, .int .i64 Ac, .int .i64 Pe, .slice X3 ch.length k3] 25)) := (Below.refl _ _).alloc (Nat.le_refl _) _
  have hb4 : Below w2.heap.size w2 (w3.alloc (.cells #[.slice X1 R.length k1, .slice X2 W.length k2, .int .i64 Ac, .int .i64 Pe, .slice X3 ch.length k3] 25)) := chain hb3' al4
  have HS4 := Lib.hid (Cl.new (w := w3) rfl [.slice X1 R.length k1, .slice X2 W.length k2, .int .i64 Ac, .int .i64 Pe, .slice X3 ch.length k3] 25)
  have HC4 := Lib.hid (HC2.out.below hb4)
  have HD4 := Lib.hid (HD2.out.below hb4)
  have HG4 := Lib.hid (chain HG2.out hb4)
  have HA14 := Lib.hid (HA1.out.below hb4)
  have HA24 := Lib.hid (HA2.out.below hb4)
  have HA34 := Lib.hid (HA3.out.below hb4)
  have HI14 := Lib.hid (HI1.out.below hb4)
  have HI24 := Lib.hid (HI2.out.below hb4)
  have HI34 := Lib.hid (HI3.out.below hb4)
  have hz3 : w2.heap.size ≤ w3.heap.size := hb3'.size
  clear HC2 HD2 HG2 HA1 HA2 HA3 HI1 HI2 HI3 al4 hb4 hb3'
  have p0 := HC4.out.c 0 rfl
  have p1 := HC4.out.c 1 rfl
  have p2 := HC4.out.c 2 rfl
  have p3 := HC4.out.c 3 rfl
  have p4 := HC4.out.c 4 rfl
  have zp := HC4.out.1
  go_wp2_with fail
  refine (KV.out _ HA14.out HA24.out HA34.out).mono ?_
  rintro r w5 ⟨rfl, hb5⟩
  clear p0 p1 p2 p3 p4 zp
  go_wp2_with fail
  refine (meas40_nil _).mono ?_
  rintro r w6 ⟨rfl, hb6⟩
  have hb46 := chain hb5 hb6
  have HS6 := Lib.hid (HS4.out.below hb46)
  have HD6 := Lib.hid (HD4.out.below hb46)
  have HG6 := Lib.hid (chain HG4.out hb46)
  have HI16 := Lib.hid (HI14.out.below hb46)
  have HI26 := Lib.hid (HI24.out.below hb46)
  have HI36 := Lib.hid (HI34.out.below hb46)
  have hz6 := hb46.size
  clear HC4 HS4 HD4 HG4 HA14 HA24 HA34 HI14 HI24 HI34 hb5 hb6 hb46 KV
  have p0 := HS6.out.c 0 rfl
  have p1 := HS6.out.c 1 rfl
  have p2 := HS6.out.c 2 rfl
  have p3 := HS6.out.c 3 rfl
  have p4 := HS6.out.c 4 rfl
  have e0 := HS6.out.f 0 rfl
  have e1 := HS6.out.f 1 rfl
  have e2 := HS6.out.f 2 rfl
  have e3 := HS6.out.f 3 rfl
  have e4 := HS6.out.f 4 rfl
  have zp := HS6.out.1
  go_wp2_with fail
  refine (KM.out X1 k1 X2 k2 X3 k3 _ HI16.out hk1 HI26.out hk2 HI36.out hk3 (((bcell HG6.out).1 _ _ hbl).trans H1.out) (((bcell HG6.out).1 _ _ hbl).trans H2.out) (((bcell HG6.out).1 _ _ hbl).trans H3.out) (by have := HG6.out.size; omega)).mono ?_
  rintro r w7 ⟨B7, c7, rfl, hc7, hi7, hfr7, hb7⟩
  have HS7 := Lib.hid (HS6.out.below hb7)
  have HD7 := Lib.hid (HD6.out.below hb7)
  have HG7 := Lib.hid (chain HG6.out hb7)
  have HB7 := Lib.hid hi7
  have hf7 : ∀ b o, B7 = some ⟨b, o, none⟩ → b ≠ w3.heap.size := fun b o e => by have := hfr7 b o e; have := HS6.out.1; omega
  have hz7 := hb7.size
  clear p0 e0 p1 e1 p2 e2 p3 e3 p4 e4 zp HS6 HD6 HG6 HI16 HI26 HI36 hi7 hb7 KM
  have p0 := HS7.out.c 0 rfl
  have p1 := HS7.out.c 1 rfl
  have p2 := HS7.out.c 2 rfl
  have p3 := HS7.out.c 3 rfl
  have p4 := HS7.out.c 4 rfl
  have e0 := HS7.out.f 0 rfl
  have e1 := HS7.out.f 1 rfl
  have e2 := HS7.out.f 2 rfl
  have e3 := HS7.out.f 3 rfl
  have e4 := HS7.out.f 4 rfl
  have zp := HS7.out.1
  go_upto_region 11 with fail
  obtain ⟨w8, hw8⟩ : ∃ wx, wx = ((((w7.setCell ⟨w3.heap.size, 0, none⟩ (.slice X1 R.length k1)).setCell ⟨w3.heap.size, 1, none⟩ (.slice X2 W.length k2)).setCell ⟨w3.heap.size, 2, none⟩ (.int .i64 Ac)).setCell ⟨w3.heap.size, 3, none⟩ (.int .i64 Pe)).setCell ⟨w3.heap.size, 4, none⟩ (.slice X3 ch.length k3) := ⟨_, rfl⟩
  have hwle : w.heap.size ≤ w3.heap.size := by have := HD7.out.1; have := hz3; have := HG2S.out; omega
  have hne8 : w3.heap.size ≠ w.heap.size + 1 := by have := HG2S.out; omega
  have S8 : Cl w3.heap.size w8 [.slice X1 R.length k1, .slice X2 W.length k2, .int .i64 Ac, .int .i64 Pe, .slice X3 ch.length k3] := by rw [hw8]; exact HS7.out.set5 _ _ _ _ _
  have D8 : Cl (w.heap.size + 1) w8 [.slice none 0 0, .slice none 0 0, .int .i64 0, .int .i64 0, .slice none 0 0] := by rw [hw8]; exact HD7.out.far5 hne8 _ _ _ _ _
  have HG8' : Hid (Below w.heap.size w w8) := Lib.hid (by rw [hw8]; exact below_set5 HG7.out hwle _ _ _ _ _)
  have hi8 : Ik .u8 w8 B7 (byts v) := by rw [hw8]; exact ((((HB7.out.set _ (fun b o e => (hf7 b o e).symm) 0 _).set _ (fun b o e => (hf7 b o e).symm) 1 _).set _ (fun b o e => (hf7 b o e).symm) 2 _).set _ (fun b o e => (hf7 b o e).symm) 3 _).set _ (fun b o e => (hf7 b o e).symm) 4 _
  rw [← hw8]
  clear hw8
  obtain ⟨b7, o7, rfl, hb7l⟩ := hi8.addr (by simp [byts])
  have hQ8 : w.heap.size + 1 < w8.heap.size := D8.1
  have HI8 := Lib.hid hi8
  have hS8 := S8.1
  clear p0 e0 p1 e1 p2 e2 p3 e3 p4 e4 zp hi8
  have p0 := S8.c 0 rfl
  have p1 := S8.c 1 rfl
  have p2 := S8.c 2 rfl
  have p3 := S8.c 3 rfl
  have p4 := S8.c 4 rfl
  have D8' := Lib.hid D8
  clear D8
  refine region_K (fun W' => (∀ b o, b < w8.heap.size → W'.cell? ⟨b, o, none⟩ = w8.cell? ⟨b, o, none⟩) ∧ Below w8.heap.size w8 W') 5 (by kernel_rfl) (Kp.mk (Below.refl _ _).drew) (fun hHeld => ?_)
  refine K_take' (i := 1) (v := ?_) rfl (by kernel_rfl) (by kernel_rfl) (by kernel_rfl) (by kernel_rfl) (fun _ _ _ h => h) (Or.inl ⟨by kernel_rfl, ?_⟩) hHeld ?_
  rotate_left 1
  · intro W8 hSw
    clear hSw
    go_simp
    all_goals with_reducible rfl
  try simp only [Act.put, List.setIfInBounds_toArray, List.set_cons_zero, List.set_cons_succ]
  refine K_take' (i := 3) (v := ?_) rfl (by kernel_rfl) (by kernel_rfl) (by kernel_rfl) (by kernel_rfl) (fun _ _ _ h => h) (Or.inl ⟨by kernel_rfl, ?_⟩) hHeld ?_
  rotate_left 1
  · intro W8 hSw
    clear hSw
    go_simp
    all_goals with_reducible rfl
  try simp only [Act.put, List.setIfInBounds_toArray, List.set_cons_zero, List.set_cons_succ]
  refine K_take (i := 0) (v := ?_) rfl (by kernel_rfl) (by kernel_rfl) (by kernel_rfl) (by kernel_rfl) (by kernel_rfl) (fun _ _ _ h => h) (Or.inl ⟨by kernel_rfl, ?_⟩) hHeld ?_
  rotate_left 1
  · intro W8 hSw
    (try dsimp only at hSw)
    go_simp
    all_goals with_reducible rfl
  try simp only [Act.put, List.setIfInBounds_toArray, List.set_cons_zero, List.set_cons_succ]
  refine K_step' (i := 2) (by kernel_rfl) rfl (fun K hK => ?_)
  go_simp
  refine hK.out _ _ (Kp.mk (show Below w8.heap.size w8 _ from ((Below.refl _ _).alloc (Nat.le_refl _) _).drew)) (fun hH2 => ?_)
  clear hK K
  try simp only [Act.put, List.setIfInBounds_toArray, List.set_cons_zero, List.set_cons_succ]
  have hownA := (World.ownsRow_lit w8 (base := w8.heap.size) (e := 5) (size := 1) #[.int .u8 255] 1 (Nat.le_refl _) (by simp [maxLen]) rfl).drew
  have hbW : Below w8.heap.size w8 (w8.alloc (.cells #[.int .u8 255] 5)).drew := ((Below.refl _ _).alloc (Nat.le_refl _) _).drew
  refine K_step' (i := 4) (by kernel_rfl) rfl (fun K hK => ?_)
  refine step_bt (by rfl) (.tmp 50) (.tmp 51) (by rfl) w8.heap.size 1 _ [255] (by simp [Act.eval, Act.put] <;> rfl) hownA b7 o7 8 c7 (byts v) (by simp [Act.eval, Act.put] <;> rfl) rfl (HI8.out.below hbW) (by omega) (by omega) (by simp) 9 rfl ?_
  intro g9 c9 w9 hg9 hgl9 hc9 hi9 hb9
  have hKp9 := Kp.mk (hbW.trans hb9)
  refine hK.out _ _ hKp9 (fun hH4 => ?_)
  clear hK K
  try simp only [Act.put, List.setIfInBounds_toArray, List.set_cons_zero, List.set_cons_succ]
  have D9 := D8'.out.below hKp9.2
  have q0 := D9.c 0 rfl
  have q1 := D9.c 1 rfl
  have q2 := D9.c 2 rfl
  have q3 := D9.c 3 rfl
  have q4 := D9.c 4 rfl
  have f0 := D9.f 0 rfl
  have f1 := D9.f 1 rfl
  have f2 := D9.f 2 rfl
  have f3 := D9.f 3 rfl
  have f4 := D9.f 4 rfl
  have zq := D9.1
  have HB9 := Lib.hid hKp9.2
  clear D9 hKp9 hH4
  refine K_step (by kernel_rfl) (by kernel_rfl) rfl (fun K hK => ?_)
  go_simp
  refine hK.out _ _ ?_
  clear hK K
  try simp only [Act.put, List.setIfInBounds_toArray, List.set_cons_zero, List.set_cons_succ]
  refine wpAny_ready (rs := [6]) (by kernel_rfl) (by simp) (AllReady.cons rfl (fun K hK => ?_) AllReady.nil)
  go_simp
  refine hK _ _ ?_
  clear hK K
  try simp only [Act.put, List.setIfInBounds_toArray, List.set_cons_zero, List.set_cons_succ]
  refine wpAny_ready (rs := [7]) (by kernel_rfl) (by simp) (AllReady.cons rfl (fun K hK => ?_) AllReady.nil)
  go_simp
  refine hK _ _ ?_
  clear hK K
  try simp only [Act.put, List.setIfInBounds_toArray, List.set_cons_zero, List.set_cons_succ]
  refine wpAny_done (by kernel_rfl) ?_ _
  have HG9 := Lib.hid (chain HG8'.out HB9.out)
  have HI9 := Lib.hid hi9
  have hg9' : w.heap.size + 1 < g9 := by omega
  clear p0 p1 p2 p3 p4 hi9 hHeld hH2 hownA hbW hb9 S8 D8' HI8 HB7 hf7 hfr7 HS7 HD7 HG7 HG8' HB9 H1 H2 H3 HG2S hz3 hz6 hz7
  go_wp2_with fail
  refine bodyPost_ret (v := .tuple #[.agg #[.slice X1 R.length k1, .slice X2 W.length k2, .int .i64 Ac, .int .i64 Pe, .slice X3 ch.length k3], .slice none 0 0, .slice (some ⟨g9, 0, none⟩) 9 c9]) (by simp [results, Try.results22, go_sem, q0, f0, q1, f1, q2, f2, q3, f3, q4, f4, zq] <;> first | rfl | ((repeat' apply And.intro) <;> rfl)) rfl ⟨X1, k1, X2, k2, X3, k3, some ⟨g9, 0, none⟩, c9, rfl, hc9, ?_, below_set5 HG9.out (by omega) _ _ _ _ _⟩
  exact HI9.out.fr5 (fr_at (Nat.le_refl g9)) hg9' _ _ _ _ _
end Go.Proofs.Ytamajedopofcoaa
