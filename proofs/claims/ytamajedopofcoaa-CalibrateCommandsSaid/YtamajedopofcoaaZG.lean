/-
  The contract of the reference's Command in general. No condition but the slices' shape.
  The contract of the reference's Command where its command answers. No condition but the slices' shape.
  What command may suppose. No condition.
-/
import Derived.Test.YtamajedopofcoaaZR4E
import Derived.Test.YtamajedopofcoaaZF
set_option linter.unusedVariables false
set_option linter.unusedSimpArgs false
namespace Go.Proofs.Ytamajedopofcoaa
open Go.RowKit
/-- pages, measures and an answer -/
def CP2 (q : PG) (ms : List MS) (an : List Int) (w : World) (r : Ending) (w' : World) : Prop :=
  ∃ X1 k1 X2 k2 X3 k3 A4 c4 B cB, r = .returned (.tuple #[.agg #[.slice X1 q.R.length k1, .slice X2 q.W.length k2, .int .i64 q.Ac, .int .i64 q.Pe, .slice X3 q.Ch.length k3], .slice A4 ms.length c4, .slice B an.length cB]) ∧ (q.R.length ≤ k1 ∧ q.W.length ≤ k2 ∧ q.Ch.length ≤ k3) ∧ (Ik .i64 w' X1 q.R ∧ Ik .i64 w' X2 q.W ∧ Ik .i64 w' X3 (flat q.Ch)) ∧ LO [] w' A4 ms c4 ∧ Ik .u8 w' B an ∧ an.length ≤ cB ∧ Below w.heap.size w w'
/-- numbers in memory, apart from the blocks S -/
def Iy (S : List Nat) (k : IntKind) (w : World) (A : Option Addr) (l : List Int) : Prop := Ik k w A l ∧ (0 < l.length → ∀ b o, A = some ⟨b, o, none⟩ → b ∉ S)
/-- what command answers where it does not refuse -/
def OQ (q : PG) (ms : List MS) (an : List Int) (S : List Nat) (r : Ending) (w' : World) : Prop :=
  ∃ X1 k1 X2 k2 X3 k3 A5 c5 Bq cq, r = .returned (.tuple #[.agg #[.slice X1 q.R.length k1, .slice X2 q.W.length k2, .int .i64 q.Ac, .int .i64 q.Pe, .slice X3 q.Ch.length k3], .slice A5 ms.length c5, .slice Bq an.length cq, .int .i64 0]) ∧ (q.R.length ≤ k1 ∧ q.W.length ≤ k2 ∧ q.Ch.length ≤ k3) ∧ (Iy S .i64 w' X1 q.R ∧ Iy S .i64 w' X2 q.W ∧ Iy S .i64 w' X3 (flat q.Ch)) ∧ LO S w' A5 ms c5 ∧ Iy S .u8 w' Bq an ∧ an.length ≤ cq ∧ (an.length = 0 → Bq = none)
theorem Iy.set5 {S : List Nat} {k : IntKind} {w : World} {A : Option Addr} {l : List Int} (h : Iy S k w A l) {P : Nat} (hP : P ∈ S) (v0 v1 v2 v3 v4 : Value) : Iy S k (((((w.setCell ⟨P, 0, none⟩ v0).setCell ⟨P, 1, none⟩ v1).setCell ⟨P, 2, none⟩ v2).setCell ⟨P, 3, none⟩ v3).setCell ⟨P, 4, none⟩ v4) A l := by
  have g : 0 < l.length → ∀ b o, A = some ⟨b, o, none⟩ → P ≠ b := fun h0 b o e he => h.2 h0 b o e (he ▸ hP)
  exact ⟨((((h.1.set0 P g 0 v0).set0 P g 1 v1).set0 P g 2 v2).set0 P g 3 v3).set0 P g 4 v4, h.2⟩
theorem Iy.below {S : List Nat} {k : IntKind} {w w' : World} {A : Option Addr} {l : List Int} (h : Iy S k w A l) (hb : Below w.heap.size w w') : Iy S k w' A l := ⟨h.1.below hb, h.2⟩
theorem Ik.old {k : IntKind} {w w' : World} {A : Option Addr} {l : List Int} (h : Ik k w A l) (hb : Below w.heap.size w w') : Ik k w' A l := h.below hb
set_option maxRecDepth 100000 in
set_option maxHeartbeats 16000000 in
theorem r23_err (A : Option Addr) (n c : Nat) (A2 : Option Addr) (n2 c2 : Nat) (Ac Pe : Int) (A3 : Option Addr) (m c3 : Nat) (R W : List Int) (ch : List (Int × Int)) (A4 : Option Addr) (mm c4 : Nat) (l : List MV) (B : Option Addr) (nb c5 : Nat) (e : Int) (w : World) (hl : R.length = n) (hb : Ik .i64 w A R) (hc : n ≤ c) (hl2 : W.length = n2) (hb2 : Ik .i64 w A2 W) (hc2 : n2 ≤ c2) (hl3 : ch.length = m) (hb3 : Ik .i64 w A3 (flat ch)) (hc3 : m ≤ c3) (hlm : l.length = mm) (hcv : Cv w A4 (flatM l)) (hmo : Mo [] w l) (hcm : mm ≤ c4) (K42 : ∀ w1, Below w.heap.size w w1 → Calls Try.prog 42 #[.agg #[.slice A n c, .slice A2 n2 c2, .int .i64 Ac, .int .i64 Pe, .slice A3 m c3], .slice A4 mm c4, .slice B nb c5] w1 (fun r w' => ∃ X1 n1' k1 X2 n2' k2 a1 a2 X3 n3' k3 vm va, r = .returned (.tuple #[.agg #[.slice X1 n1' k1, .slice X2 n2' k2, .int .i64 a1, .int .i64 a2, .slice X3 n3' k3], vm, va, .int .i64 e]) ∧ Below w1.heap.size w1 w')) (he : e ≠ 0) (e0 : 0 ≤ e) (e1 : e ≤ 255) : Calls Try.prog 23 #[.agg #[.slice A n c, .slice A2 n2 c2, .int .i64 Ac, .int .i64 Pe, .slice A3 m c3], .slice A4 mm c4, .slice B nb c5] w (CP2 ⟨R, W, Ac, Pe, ch⟩ (l.map MV.m) [254, e] w) := by
  have HB1 := Lib.hid hb
  have HB2 := Lib.hid hb2
  have HB3 := Lib.hid hb3
  have HL := Lib.hid (And.intro hl (And.intro hl2 hl3))
  have HLM := Lib.hid hlm
  have HCV := Lib.hid hcv
  have HMO := Lib.hid hmo
  replace K42 := Lib.hid K42
  have e2 : (e != 0) = true := by simp [he]
  have e3 : decide (e = 0) = false := by simp [he]
  have e4 : (e == 0) = false := by simp [he]
  have e5 : IntKind.u8.wrap e = e := by simp [IntKind.wrap, IntKind.signed, IntKind.bits]; omega
  have HP0 := Lib.hid ((Cl.new (w := w) rfl [.slice A n c, .slice A2 n2 c2, .int .i64 Ac, .int .i64 Pe, .slice A3 m c3] 25).below ((Below.refl _ _).alloc (Nat.le_refl _) (.cells #[.slice none 0 0, .slice none 0 0, .int .i64 0, .int .i64 0, .slice none 0 0] 25)))
  have HQ0 := Lib.hid (Cl.new (P := w.heap.size + 1) (w := w.alloc (.cells #[.slice A n c, .slice A2 n2 c2, .int .i64 Ac, .int .i64 Pe, .slice A3 m c3] 25)) (by simp) [.slice none 0 0, .slice none 0 0, .int .i64 0, .int .i64 0, .slice none 0 0] 25)
  have HG0 := Lib.hid (show Below w.heap.size w ((w.alloc (.cells #[.slice A n c, .slice A2 n2 c2, .int .i64 Ac, .int .i64 Pe, .slice A3 m c3] 25)).alloc (.cells #[.slice none 0 0, .slice none 0 0, .int .i64 0, .int .i64 0, .slice none 0 0] 25)) by go_grown)
  clear hl hl2 hl3 hb hb2 hb3 hlm hcv hmo he
  go_enter Try.func23, Try.ntmps23
  have p0 := HP0.out.c 0 rfl
  have p1 := HP0.out.c 1 rfl
  have p2 := HP0.out.c 2 rfl
  have p3 := HP0.out.c 3 rfl
  have p4 := HP0.out.c 4 rfl
  have zp := HP0.out.1
  go_wp2_with fail
  refine (K42.out _ HG0.out).mono ?_
  rintro r w1 ⟨X1, n1', k1, X2, n2', k2, a1, a2, X3, n3', k3, vm, va, rfl, hbw1⟩
  have al : Below w1.heap.size w1 (w1.alloc (.cells #[.slice X1 n1' k1, .slice X2 n2' k2, .int .i64 a1, .int .i64 a2, .slice X3 n3' k3] 25)) := (Below.refl _ _).alloc (Nat.le_refl _) _
  have HP1 := Lib.hid ((HP0.out.below hbw1).below al)
  have HQ1 := Lib.hid ((HQ0.out.below hbw1).below al)
  have HG1 := Lib.hid (chain (chain HG0.out hbw1) al)
  clear p0 p1 p2 p3 p4 zp HP0 HQ0 HG0 hbw1 al K42
  obtain ⟨u1, hu⟩ : ∃ u, u = w1.alloc (.cells #[.slice X1 n1' k1, .slice X2 n2' k2, .int .i64 a1, .int .i64 a2, .slice X3 n3' k3] 25) := ⟨_, rfl⟩
  go_upto_region 2 with fail
  rw [← hu] at HP1 HQ1 HG1
  rw [← hu]
  clear hu
  have p0 := HP1.out.c 0 rfl
  have p1 := HP1.out.c 1 rfl
  have p2 := HP1.out.c 2 rfl
  have p3 := HP1.out.c 3 rfl
  have p4 := HP1.out.c 4 rfl
  have q0 := HQ1.out.c 0 rfl
  have q1 := HQ1.out.c 1 rfl
  have q2 := HQ1.out.c 2 rfl
  have q3 := HQ1.out.c 3 rfl
  have q4 := HQ1.out.c 4 rfl
  have f0 := HQ1.out.f 0 rfl
  have f1 := HQ1.out.f 1 rfl
  have f2 := HQ1.out.f 2 rfl
  have f3 := HQ1.out.f 3 rfl
  have f4 := HQ1.out.f 4 rfl
  have zp := HP1.out.1
  have zq := HQ1.out.1
  go_wp2_with fail
  obtain ⟨u2, hu2⟩ : ∃ u, u = ((((((u1).setCell ⟨w.heap.size + 1, 0, none⟩ (.slice A n c)).setCell ⟨w.heap.size + 1, 1, none⟩ (.slice A2 n2 c2)).setCell ⟨w.heap.size + 1, 2, none⟩ (.int .i64 Ac)).setCell ⟨w.heap.size + 1, 3, none⟩ (.int .i64 Pe)).setCell ⟨w.heap.size + 1, 4, none⟩ (.slice A3 m c3)) := ⟨_, rfl⟩
  have hB2 : Below w.heap.size w u2 := by rw [hu2]; exact below_set5 HG1.out (by omega) _ _ _ _ _
  have hu12 : u1.heap.size = u2.heap.size := by rw [hu2]; simp
  rw [← hu2]
  have al2 : Below u2.heap.size u2 (u2.alloc (.cells #[.int .u8 254, .int .u8 e] 5)) := (Below.refl _ _).alloc (Nat.le_refl _) _
  have hBF := chain hB2 al2
  have hEI : Ik .u8 (u2.alloc (.cells #[.int .u8 254, .int .u8 e] 5)) (some ⟨u1.heap.size, 0, none⟩) [254, e] := by rw [hu12]; exact Ik.of_block (k := .u8) (l := [254, e]) (new_at (W := u2) rfl (.cells #[.int .u8 254, .int .u8 e] 5))
  have HQ2 : Hid (Cl (w.heap.size + 1) (u2.alloc (.cells #[.int .u8 254, .int .u8 e] 5)) [.slice A n c, .slice A2 n2 c2, .int .i64 Ac, .int .i64 Pe, .slice A3 m c3]) := Lib.hid (by rw [hu2]; exact (HQ1.out.set5 _ _ _ _ _).below ((Below.refl _ _).alloc (Nat.le_refl _) _))
  clear hu2
  refine bodyPost_ret (v := .tuple #[.agg #[.slice A n c, .slice A2 n2 c2, .int .i64 Ac, .int .i64 Pe, .slice A3 m c3], .slice A4 mm c4, .slice (some ⟨u1.heap.size, 0, none⟩) 2 2]) (by simp [results, Try.results23, go_sem, HQ2.out.c 0 rfl, HQ2.out.c 1 rfl, HQ2.out.c 2 rfl, HQ2.out.c 3 rfl, HQ2.out.c 4 rfl] <;> first | rfl | ((repeat' apply And.intro) <;> rfl)) rfl ⟨A, c, A2, c2, A3, c3, A4, c4, some ⟨u1.heap.size, 0, none⟩, 2, ?_, ⟨by rw [HL.out.1]; exact hc, by rw [HL.out.2.1]; exact hc2, by rw [HL.out.2.2]; exact hc3⟩, ⟨HB1.out.below hBF, HB2.out.below hBF, HB3.out.below hBF⟩, ⟨l, rfl, by rw [List.length_map, HLM.out]; exact hcm, HCV.out.below hBF, by intro _ b o _; exact List.not_mem_nil, HMO.out.below hBF⟩, hEI, by simp, hBF⟩
  rw [HL.out.1, HL.out.2.1, HL.out.2.2, List.length_map, HLM.out]; rfl
end Go.Proofs.Ytamajedopofcoaa
set_option linter.unusedVariables false
set_option linter.unusedSimpArgs false
namespace Go.Proofs.Ytamajedopofcoaa
open Go.RowKit
/-- append of nothing in a drawn region -/
theorem step_bt0 {ops : Array Oper} {o : Oper} {a : Act} {K : Act → World → Prop} {Q : Exit → Act → World → Prop} {E : Prop} {w : World} (hgd : o.guard = none) (s x : Operand)
    (ho : o.op = .call { callee := .builtin .append, args := #[s, x], argTypes := #[46, 46] }) (base n : Nat) (v : Value) (l : List Value) (hs : a.eval s = v) (hown : w.ownsRow base 5 1 v n l) (c : Nat) (hx : a.eval x = .slice none 0 c)
    (h : K (a.put o.dst v) w) : if Region.wanted o (yielded ops a.tmps) = true then Oper.wp Try.prog o a w K Q else E := by
  have hw : Region.wanted o (yielded ops a.tmps) = true := by simp [Region.wanted, hgd]
  rw [if_pos hw]
  have hrun := none_bt (c := c) o.type hown
  unfold Oper.wp
  simp [execOp, ho, resolve, invoke, builtin, hs, hx, hrun, Result.andThen]
  exact h
theorem LO.below {S : List Nat} {w w' : World} {A : Option Addr} {ms : List MS} {c : Nat} (h : LO S w A ms c) (hb : Below w.heap.size w w') : LO S w' A ms c := by
  obtain ⟨l', h1, h2, h3, h4, h5⟩ := h
  exact ⟨l', h1, h2, h3.below hb, h4, h5.below hb⟩
theorem LO.set5 {S : List Nat} {w : World} {A : Option Addr} {ms : List MS} {c : Nat} (h : LO S w A ms c) {P : Nat} (hP : P ∈ S) (v0 v1 v2 v3 v4 : Value) : LO [] (((((w.setCell ⟨P, 0, none⟩ v0).setCell ⟨P, 1, none⟩ v1).setCell ⟨P, 2, none⟩ v2).setCell ⟨P, 3, none⟩ v3).setCell ⟨P, 4, none⟩ v4) A ms c := by
  obtain ⟨l', h1, h2, h3, h4, h5⟩ := h
  refine ⟨l', h1, h2, fun h0 => ?_, fun _ _ _ _ => List.not_mem_nil, ?_⟩
  · have hms : 0 < ms.length := by
      rw [← h1, List.length_map]
      rw [flatM_len] at h0; omega
    exact Cv.far5 h3 (fun b o e he => h4 hms b o e (he ▸ hP)) v0 v1 v2 v3 v4 h0
  · exact (((((h5.set hP 0 v0).set hP 1 v1).set hP 2 v2).set hP 3 v3).set hP 4 v4).sub (fun s hs => by cases hs)
set_option maxRecDepth 100000 in
set_option maxHeartbeats 16000000 in
theorem r23_ok8 (A : Option Addr) (n c : Nat) (A2 : Option Addr) (n2 c2 : Nat) (Ac Pe : Int) (A3 : Option Addr) (m c3 : Nat) (R W : List Int) (ch : List (Int × Int)) (A4 : Option Addr) (mm c4 : Nat) (l : List MV) (B : Option Addr) (nb c5 : Nat) (q : PG) (ms : List MS) (an : List Int) (w : World) (hl : R.length = n) (hb : Ik .i64 w A R) (hc : n ≤ c) (hl2 : W.length = n2) (hb2 : Ik .i64 w A2 W) (hc2 : n2 ≤ c2) (hl3 : ch.length = m) (hb3 : Ik .i64 w A3 (flat ch)) (hc3 : m ≤ c3) (han : 0 < an.length) (hans : an.length ≤ 1000) (K42 : ∀ w1, Below w.heap.size w w1 → w.heap.size + 2 ≤ w1.heap.size → Calls Try.prog 42 #[.agg #[.slice A n c, .slice A2 n2 c2, .int .i64 Ac, .int .i64 Pe, .slice A3 m c3], .slice A4 mm c4, .slice B nb c5] w1 fun r w' => OQ q ms an [w.heap.size + 1] r w' ∧ Below w1.heap.size w1 w') : Calls Try.prog 23 #[.agg #[.slice A n c, .slice A2 n2 c2, .int .i64 Ac, .int .i64 Pe, .slice A3 m c3], .slice A4 mm c4, .slice B nb c5] w (CP2 q ms (255 :: an) w) := by
  obtain ⟨Rq, Wq, Acq, Peq, Chq⟩ := q
  have HB1 := Lib.hid hb
  have HB2 := Lib.hid hb2
  have HB3 := Lib.hid hb3
  replace K42 := Lib.hid K42
  have HP0 := Lib.hid ((Cl.new (w := w) rfl [.slice A n c, .slice A2 n2 c2, .int .i64 Ac, .int .i64 Pe, .slice A3 m c3] 25).below ((Below.refl _ _).alloc (Nat.le_refl _) (.cells #[.slice none 0 0, .slice none 0 0, .int .i64 0, .int .i64 0, .slice none 0 0] 25)))
  have HQ0 := Lib.hid (Cl.new (P := w.heap.size + 1) (w := w.alloc (.cells #[.slice A n c, .slice A2 n2 c2, .int .i64 Ac, .int .i64 Pe, .slice A3 m c3] 25)) (by simp) [.slice none 0 0, .slice none 0 0, .int .i64 0, .int .i64 0, .slice none 0 0] 25)
  have HG0 := Lib.hid (show Below w.heap.size w ((w.alloc (.cells #[.slice A n c, .slice A2 n2 c2, .int .i64 Ac, .int .i64 Pe, .slice A3 m c3] 25)).alloc (.cells #[.slice none 0 0, .slice none 0 0, .int .i64 0, .int .i64 0, .slice none 0 0] 25)) by go_grown)
  clear hl hl2 hl3 hb hb2 hb3
  go_enter Try.func23, Try.ntmps23
  have p0 := HP0.out.c 0 rfl
  have p1 := HP0.out.c 1 rfl
  have p2 := HP0.out.c 2 rfl
  have p3 := HP0.out.c 3 rfl
  have p4 := HP0.out.c 4 rfl
  have zp := HP0.out.1
  go_wp2_with fail
  refine (K42.out _ HG0.out (by simp)).mono ?_
  rintro r w1 ⟨⟨X1, k1, X2, k2, X3, k3, A5, c5', Bq, cq, rfl, hlen, hI, hLO, hIB, hcq, hBn⟩, hbw1⟩
  obtain ⟨b7, o7, rfl, hb7l⟩ := hIB.1.addr han
  clear hBn
  have al : Below w1.heap.size w1 (w1.alloc (.cells #[.slice X1 Rq.length k1, .slice X2 Wq.length k2, .int .i64 Acq, .int .i64 Peq, .slice X3 Chq.length k3] 25)) := (Below.refl _ _).alloc (Nat.le_refl _) _
  have hT1 := Cl.new (w := w1) rfl [.slice X1 Rq.length k1, .slice X2 Wq.length k2, .int .i64 Acq, .int .i64 Peq, .slice X3 Chq.length k3] 25
  have HQ1 := Lib.hid ((HQ0.out.below hbw1).below al)
  have HG1 := Lib.hid (chain (chain HG0.out hbw1) al)
  have HI := Lib.hid (And.intro (hI.1.below al) (And.intro (hI.2.1.below al) (hI.2.2.below al)))
  have HLO := Lib.hid (hLO.below al)
  have HIB := Lib.hid (hIB.below al)
  have hTQ : w1.heap.size ≠ w.heap.size + 1 := by have := (HQ0.out.below hbw1).1; omega
  obtain ⟨T, hT⟩ : ∃ T, T = w1.heap.size := ⟨_, rfl⟩
  obtain ⟨u1, hu⟩ : ∃ u, u = w1.alloc (.cells #[.slice X1 Rq.length k1, .slice X2 Wq.length k2, .int .i64 Acq, .int .i64 Peq, .slice X3 Chq.length k3] 25) := ⟨_, rfl⟩
  rw [← hT] at hT1 hTQ
  rw [← hu] at hT1 HQ1 HG1 HI HLO HIB
  have HT1 := Lib.hid hT1
  clear p0 p1 p2 p3 p4 zp HP0 HQ0 HG0 hbw1 al K42 hI hLO hIB hT1
  go_upto_region 4 with fail
  rw [← hu, ← hT]
  clear hu hT
  have t0 := HT1.out.c 0 rfl
  have t1 := HT1.out.c 1 rfl
  have t2 := HT1.out.c 2 rfl
  have t3 := HT1.out.c 3 rfl
  have t4 := HT1.out.c 4 rfl
  have zt := HT1.out.1
  refine region_K (fun W' => (∀ b o, b < u1.heap.size → W'.cell? ⟨b, o, none⟩ = u1.cell? ⟨b, o, none⟩) ∧ Below u1.heap.size u1 W') 5 (by kernel_rfl) (Kp.mk (Below.refl _ _).drew) (fun hHeld => ?_)
  refine K_take' (i := 1) (v := ?_) rfl (by kernel_rfl) (by kernel_rfl) (by kernel_rfl) (by kernel_rfl) (fun _ _ _ h => h) (Or.inl ⟨by kernel_rfl, ?_⟩) hHeld ?_
  rotate_left 1
  · intro W8 hSw
    clear hSw
    go_simp
    all_goals with_reducible rfl
  try simp only [Act.put, List.setIfInBounds_toArray, List.set_cons_zero, List.set_cons_succ]
  refine K_take' (i := 3) (v := ?_) rfl (by kernel_rfl) (by kernel_rfl) (by kernel_rfl) (by kernel_rfl) (fun _ _ _ h => h) (Or.inl ⟨by kernel_rfl, ?_⟩) hHeld ?_
  rotate_left 1
  · intro W8 hSw
    clear hSw
    go_simp
    all_goals with_reducible rfl
  try simp only [Act.put, List.setIfInBounds_toArray, List.set_cons_zero, List.set_cons_succ]
  refine K_take (i := 0) (v := ?_) rfl (by kernel_rfl) (by kernel_rfl) (by kernel_rfl) (by kernel_rfl) (by kernel_rfl) (fun _ _ _ h => h) (Or.inl ⟨by kernel_rfl, ?_⟩) hHeld ?_
  rotate_left 1
  · intro W8 hSw
    (try dsimp only at hSw)
    go_simp
    all_goals with_reducible rfl
  try simp only [Act.put, List.setIfInBounds_toArray, List.set_cons_zero, List.set_cons_succ]
  refine K_step' (i := 2) (by kernel_rfl) rfl (fun K hK => ?_)
  go_simp
  refine hK.out _ _ (Kp.mk (show Below u1.heap.size u1 _ from ((Below.refl _ _).alloc (Nat.le_refl _) _).drew)) (fun hH2 => ?_)
  clear hK K
  try simp only [Act.put, List.setIfInBounds_toArray, List.set_cons_zero, List.set_cons_succ]
  have hownA := (World.ownsRow_lit u1 (base := u1.heap.size) (e := 5) (size := 1) #[.int .u8 255] 1 (Nat.le_refl _) (by simp [maxLen]) rfl).drew
  have hbW : Below u1.heap.size u1 (u1.alloc (.cells #[.int .u8 255] 5)).drew := ((Below.refl _ _).alloc (Nat.le_refl _) _).drew
  refine K_step' (i := 4) (by kernel_rfl) rfl (fun K hK => ?_)
  refine step_bt (by rfl) (.tmp 31) (.tmp 32) (by rfl) u1.heap.size 1 _ [255] (by simp [Act.eval, Act.put] <;> rfl) hownA b7 o7 an.length cq an (by simp [Act.eval, Act.put] <;> rfl) rfl (HIB.out.1.below hbW) han (by omega) (by simp) (1 + an.length) rfl ?_
  intro g9 c9 w9 hg9 hgl9 hc9 hi9 hb9
  have hKp9 := Kp.mk (hbW.trans hb9)
  refine hK.out _ _ hKp9 (fun hH4 => ?_)
  clear hK K hH4
  try simp only [Act.put, List.setIfInBounds_toArray, List.set_cons_zero, List.set_cons_succ]
  have HQ9 := Lib.hid (HQ1.out.below hKp9.2)
  have HB9 := Lib.hid hKp9.2
  clear hKp9 hH2 hHeld t0 t1 t2 t3 t4 zt
  have q0 := HQ9.out.c 0 rfl
  have q1 := HQ9.out.c 1 rfl
  have q2 := HQ9.out.c 2 rfl
  have q3 := HQ9.out.c 3 rfl
  have q4 := HQ9.out.c 4 rfl
  have f0 := HQ9.out.f 0 rfl
  have f1 := HQ9.out.f 1 rfl
  have f2 := HQ9.out.f 2 rfl
  have f3 := HQ9.out.f 3 rfl
  have f4 := HQ9.out.f 4 rfl
  have zq := HQ9.out.1
  refine K_step (by kernel_rfl) (by kernel_rfl) rfl (fun K hK => ?_)
  go_simp
  refine hK.out _ _ ?_
  clear hK K
  try simp only [Act.put, List.setIfInBounds_toArray, List.set_cons_zero, List.set_cons_succ]
  refine wpAny_ready (rs := [6]) (by kernel_rfl) (by simp) (AllReady.cons rfl (fun K hK => ?_) AllReady.nil)
  go_simp
  refine hK _ _ ?_
  clear hK K
  try simp only [Act.put, List.setIfInBounds_toArray, List.set_cons_zero, List.set_cons_succ]
  refine wpAny_ready (rs := [7]) (by kernel_rfl) (by simp) (AllReady.cons rfl (fun K hK => ?_) AllReady.nil)
  go_simp
  refine hK _ _ ?_
  clear hK K
  try simp only [Act.put, List.setIfInBounds_toArray, List.set_cons_zero, List.set_cons_succ]
  refine wpAny_done (by kernel_rfl) ?_ _
  have HG9 := Lib.hid (chain HG1.out HB9.out)
  have HI9 := Lib.hid hi9
  have hg9' : w.heap.size + 1 < g9 := by have := HQ1.out.1; omega
  have hMe : w.heap.size + 1 ∈ [w.heap.size + 1] := List.mem_cons_self
  clear hi9 hb9 hownA hbW HQ1 HG1 HT1
  go_wp2_with fail
  refine bodyPost_ret (v := .tuple #[.agg #[.slice X1 Rq.length k1, .slice X2 Wq.length k2, .int .i64 Acq, .int .i64 Peq, .slice X3 Chq.length k3], .slice A5 ms.length c5', .slice (some ⟨g9, 0, none⟩) (1 + an.length) c9]) (by simp [results, Try.results23, go_sem, q0, f0, q1, f1, q2, f2, q3, f3, q4, f4, zq] <;> first | rfl | ((repeat' apply And.intro) <;> rfl)) rfl ⟨X1, k1, X2, k2, X3, k3, A5, c5', some ⟨g9, 0, none⟩, c9, by rw [List.length_cons, Nat.add_comm], hlen, ⟨((HI.out.1.below HB9.out).set5 hMe _ _ _ _ _).1, ((HI.out.2.1.below HB9.out).set5 hMe _ _ _ _ _).1, ((HI.out.2.2.below HB9.out).set5 hMe _ _ _ _ _).1⟩, (HLO.out.below HB9.out).set5 hMe _ _ _ _ _, HI9.out.fr5 (fr_at (Nat.le_refl g9)) hg9' _ _ _ _ _, by rw [List.length_cons]; omega, below_set5 HG9.out (by omega) _ _ _ _ _⟩
set_option maxRecDepth 100000 in
set_option maxHeartbeats 16000000 in
theorem r23_ok0 (A : Option Addr) (n c : Nat) (A2 : Option Addr) (n2 c2 : Nat) (Ac Pe : Int) (A3 : Option Addr) (m c3 : Nat) (R W : List Int) (ch : List (Int × Int)) (A4 : Option Addr) (mm c4 : Nat) (l : List MV) (B : Option Addr) (nb c5 : Nat) (q : PG) (ms : List MS) (an : List Int) (w : World) (hl : R.length = n) (hb : Ik .i64 w A R) (hc : n ≤ c) (hl2 : W.length = n2) (hb2 : Ik .i64 w A2 W) (hc2 : n2 ≤ c2) (hl3 : ch.length = m) (hb3 : Ik .i64 w A3 (flat ch)) (hc3 : m ≤ c3) (han : an = []) (K42 : ∀ w1, Below w.heap.size w w1 → w.heap.size + 2 ≤ w1.heap.size → Calls Try.prog 42 #[.agg #[.slice A n c, .slice A2 n2 c2, .int .i64 Ac, .int .i64 Pe, .slice A3 m c3], .slice A4 mm c4, .slice B nb c5] w1 fun r w' => OQ q ms an [w.heap.size + 1] r w' ∧ Below w1.heap.size w1 w') : Calls Try.prog 23 #[.agg #[.slice A n c, .slice A2 n2 c2, .int .i64 Ac, .int .i64 Pe, .slice A3 m c3], .slice A4 mm c4, .slice B nb c5] w (CP2 q ms (255 :: an) w) := by
  obtain ⟨Rq, Wq, Acq, Peq, Chq⟩ := q
  have HB1 := Lib.hid hb
  have HB2 := Lib.hid hb2
  have HB3 := Lib.hid hb3
  replace K42 := Lib.hid K42
  have HP0 := Lib.hid ((Cl.new (w := w) rfl [.slice A n c, .slice A2 n2 c2, .int .i64 Ac, .int .i64 Pe, .slice A3 m c3] 25).below ((Below.refl _ _).alloc (Nat.le_refl _) (.cells #[.slice none 0 0, .slice none 0 0, .int .i64 0, .int .i64 0, .slice none 0 0] 25)))
  have HQ0 := Lib.hid (Cl.new (P := w.heap.size + 1) (w := w.alloc (.cells #[.slice A n c, .slice A2 n2 c2, .int .i64 Ac, .int .i64 Pe, .slice A3 m c3] 25)) (by simp) [.slice none 0 0, .slice none 0 0, .int .i64 0, .int .i64 0, .slice none 0 0] 25)
  have HG0 := Lib.hid (show Below w.heap.size w ((w.alloc (.cells #[.slice A n c, .slice A2 n2 c2, .int .i64 Ac, .int .i64 Pe, .slice A3 m c3] 25)).alloc (.cells #[.slice none 0 0, .slice none 0 0, .int .i64 0, .int .i64 0, .slice none 0 0] 25)) by go_grown)
  clear hl hl2 hl3 hb hb2 hb3
  go_enter Try.func23, Try.ntmps23
  have p0 := HP0.out.c 0 rfl
  have p1 := HP0.out.c 1 rfl
  have p2 := HP0.out.c 2 rfl
  have p3 := HP0.out.c 3 rfl
  have p4 := HP0.out.c 4 rfl
  have zp := HP0.out.1
  go_wp2_with fail
  refine (K42.out _ HG0.out (by simp)).mono ?_
  rintro r w1 ⟨⟨X1, k1, X2, k2, X3, k3, A5, c5', Bq, cq, rfl, hlen, hI, hLO, hIB, hcq, hBn⟩, hbw1⟩
  obtain rfl : Bq = none := hBn (by rw [han]; rfl)
  subst han
  clear hBn
  have al : Below w1.heap.size w1 (w1.alloc (.cells #[.slice X1 Rq.length k1, .slice X2 Wq.length k2, .int .i64 Acq, .int .i64 Peq, .slice X3 Chq.length k3] 25)) := (Below.refl _ _).alloc (Nat.le_refl _) _
  have hT1 := Cl.new (w := w1) rfl [.slice X1 Rq.length k1, .slice X2 Wq.length k2, .int .i64 Acq, .int .i64 Peq, .slice X3 Chq.length k3] 25
  have HQ1 := Lib.hid ((HQ0.out.below hbw1).below al)
  have HG1 := Lib.hid (chain (chain HG0.out hbw1) al)
  have HI := Lib.hid (And.intro (hI.1.below al) (And.intro (hI.2.1.below al) (hI.2.2.below al)))
  have HLO := Lib.hid (hLO.below al)
  have HIB := Lib.hid (hIB.below al)
  have hTQ : w1.heap.size ≠ w.heap.size + 1 := by have := (HQ0.out.below hbw1).1; omega
  obtain ⟨T, hT⟩ : ∃ T, T = w1.heap.size := ⟨_, rfl⟩
  obtain ⟨u1, hu⟩ : ∃ u, u = w1.alloc (.cells #[.slice X1 Rq.length k1, .slice X2 Wq.length k2, .int .i64 Acq, .int .i64 Peq, .slice X3 Chq.length k3] 25) := ⟨_, rfl⟩
  rw [← hT] at hT1 hTQ
  rw [← hu] at hT1 HQ1 HG1 HI HLO HIB
  have HT1 := Lib.hid hT1
  clear p0 p1 p2 p3 p4 zp HP0 HQ0 HG0 hbw1 al K42 hI hLO hIB hT1
  go_upto_region 4 with fail
  rw [← hu, ← hT]
  clear hu hT
  have t0 := HT1.out.c 0 rfl
  have t1 := HT1.out.c 1 rfl
  have t2 := HT1.out.c 2 rfl
  have t3 := HT1.out.c 3 rfl
  have t4 := HT1.out.c 4 rfl
  have zt := HT1.out.1
  refine region_K (fun W' => (∀ b o, b < u1.heap.size → W'.cell? ⟨b, o, none⟩ = u1.cell? ⟨b, o, none⟩) ∧ Below u1.heap.size u1 W') 5 (by kernel_rfl) (Kp.mk (Below.refl _ _).drew) (fun hHeld => ?_)
  refine K_take' (i := 1) (v := ?_) rfl (by kernel_rfl) (by kernel_rfl) (by kernel_rfl) (by kernel_rfl) (fun _ _ _ h => h) (Or.inl ⟨by kernel_rfl, ?_⟩) hHeld ?_
  rotate_left 1
  · intro W8 hSw
    clear hSw
    go_simp
    all_goals with_reducible rfl
  try simp only [Act.put, List.setIfInBounds_toArray, List.set_cons_zero, List.set_cons_succ]
  refine K_take' (i := 3) (v := ?_) rfl (by kernel_rfl) (by kernel_rfl) (by kernel_rfl) (by kernel_rfl) (fun _ _ _ h => h) (Or.inl ⟨by kernel_rfl, ?_⟩) hHeld ?_
  rotate_left 1
  · intro W8 hSw
    clear hSw
    go_simp
    all_goals with_reducible rfl
  try simp only [Act.put, List.setIfInBounds_toArray, List.set_cons_zero, List.set_cons_succ]
  refine K_take (i := 0) (v := ?_) rfl (by kernel_rfl) (by kernel_rfl) (by kernel_rfl) (by kernel_rfl) (by kernel_rfl) (fun _ _ _ h => h) (Or.inl ⟨by kernel_rfl, ?_⟩) hHeld ?_
  rotate_left 1
  · intro W8 hSw
    (try dsimp only at hSw)
    go_simp
    all_goals with_reducible rfl
  try simp only [Act.put, List.setIfInBounds_toArray, List.set_cons_zero, List.set_cons_succ]
  refine K_step' (i := 2) (by kernel_rfl) rfl (fun K hK => ?_)
  go_simp
  refine hK.out _ _ (Kp.mk (show Below u1.heap.size u1 _ from ((Below.refl _ _).alloc (Nat.le_refl _) _).drew)) (fun hH2 => ?_)
  clear hK K
  try simp only [Act.put, List.setIfInBounds_toArray, List.set_cons_zero, List.set_cons_succ]
  have hownA := (World.ownsRow_lit u1 (base := u1.heap.size) (e := 5) (size := 1) #[.int .u8 255] 1 (Nat.le_refl _) (by simp [maxLen]) rfl).drew
  have hbW : Below u1.heap.size u1 (u1.alloc (.cells #[.int .u8 255] 5)).drew := ((Below.refl _ _).alloc (Nat.le_refl _) _).drew
  refine K_step' (i := 4) (by kernel_rfl) rfl (fun K hK => ?_)
  refine step_bt0 (by rfl) (.tmp 31) (.tmp 32) (by rfl) u1.heap.size 1 _ _ (by simp [Act.eval, Act.put] <;> rfl) hownA cq (by simp [Act.eval, Act.put] <;> rfl) ?_
  refine hK.out _ _ (Kp.mk hbW) (fun hH4 => ?_)
  clear hK K hH4
  try simp only [Act.put, List.setIfInBounds_toArray, List.set_cons_zero, List.set_cons_succ]
  obtain ⟨w9, hw9⟩ : ∃ w9, w9 = (u1.alloc (.cells #[.int .u8 255] 5)).drew := ⟨_, rfl⟩
  have hi9 : Ik .u8 w9 (some ⟨u1.heap.size, 0, none⟩) [255] := by rw [hw9]; exact (Ik.of_block (k := .u8) (l := [255]) (new_at (W := u1) rfl (.cells #[.int .u8 255] 5))).below ((Below.refl _ _).drew)
  rw [← hw9] at hbW
  rw [← hw9]
  have HQ9 := Lib.hid (HQ1.out.below hbW)
  have HB9 := Lib.hid hbW
  have hqu : w.heap.size + 1 < u1.heap.size := HQ1.out.1
  clear hw9 hownA hH2 hHeld t0 t1 t2 t3 t4 zt hbW
  have q0 := HQ9.out.c 0 rfl
  have q1 := HQ9.out.c 1 rfl
  have q2 := HQ9.out.c 2 rfl
  have q3 := HQ9.out.c 3 rfl
  have q4 := HQ9.out.c 4 rfl
  have f0 := HQ9.out.f 0 rfl
  have f1 := HQ9.out.f 1 rfl
  have f2 := HQ9.out.f 2 rfl
  have f3 := HQ9.out.f 3 rfl
  have f4 := HQ9.out.f 4 rfl
  have zq := HQ9.out.1
  refine K_step (by kernel_rfl) (by kernel_rfl) rfl (fun K hK => ?_)
  go_simp
  refine hK.out _ _ ?_
  clear hK K
  try simp only [Act.put, List.setIfInBounds_toArray, List.set_cons_zero, List.set_cons_succ]
  refine wpAny_ready (rs := [6]) (by kernel_rfl) (by simp) (AllReady.cons rfl (fun K hK => ?_) AllReady.nil)
  go_simp
  refine hK _ _ ?_
  clear hK K
  try simp only [Act.put, List.setIfInBounds_toArray, List.set_cons_zero, List.set_cons_succ]
  refine wpAny_ready (rs := [7]) (by kernel_rfl) (by simp) (AllReady.cons rfl (fun K hK => ?_) AllReady.nil)
  go_simp
  refine hK _ _ ?_
  clear hK K
  try simp only [Act.put, List.setIfInBounds_toArray, List.set_cons_zero, List.set_cons_succ]
  refine wpAny_done (by kernel_rfl) ?_ _
  have HG9 := Lib.hid (chain HG1.out HB9.out)
  have HI9 := Lib.hid hi9
  have hMe : w.heap.size + 1 ∈ [w.heap.size + 1] := List.mem_cons_self
  clear hi9 HQ1 HG1 HT1
  go_wp2_with fail
  refine bodyPost_ret (v := .tuple #[.agg #[.slice X1 Rq.length k1, .slice X2 Wq.length k2, .int .i64 Acq, .int .i64 Peq, .slice X3 Chq.length k3], .slice A5 ms.length c5', .slice (some ⟨u1.heap.size, 0, none⟩) 1 1]) (by simp [results, Try.results23, go_sem, q0, f0, q1, f1, q2, f2, q3, f3, q4, f4, zq] <;> first | rfl | ((repeat' apply And.intro) <;> rfl)) rfl ⟨X1, k1, X2, k2, X3, k3, A5, c5', some ⟨u1.heap.size, 0, none⟩, 1, rfl, hlen, ⟨((HI.out.1.below HB9.out).set5 hMe _ _ _ _ _).1, ((HI.out.2.1.below HB9.out).set5 hMe _ _ _ _ _).1, ((HI.out.2.2.below HB9.out).set5 hMe _ _ _ _ _).1⟩, (HLO.out.below HB9.out).set5 hMe _ _ _ _ _, HI9.out.fr5 (fr_at (Nat.le_refl u1.heap.size)) hqu _ _ _ _ _, by simp, below_set5 HG9.out (by omega) _ _ _ _ _⟩
end Go.Proofs.Ytamajedopofcoaa
set_option linter.unusedVariables false
set_option linter.unusedSimpArgs false
namespace Go.Proofs.Ytamajedopofcoaa
open Go.RowKit
theorem Mc.mo {B : Nat} {g : Option Nat} {w : World} {l : List MV} (h : Mc B g w l) (S : List Nat) (hS : ∀ s ∈ S, s < B ∨ some s = g ∨ w.heap.size ≤ s) : Mo S w l := fun x hx => ⟨(h x hx).1, (h x hx).2.1, fun h0 b o e hb => by
  obtain ⟨h1, h2⟩ := (h x hx).2.2 h0 b o e
  rcases hS b hb with h3 | h3 | h3
  · omega
  · exact h2 h3
  · obtain ⟨b', o', e', hl⟩ := (h x hx).2.1.addr h0
    rw [e] at e'
    injection e' with e'; injection e' with e1 _
    omega⟩
theorem own_lo {w : World} {B n c : Nat} {A : Option Addr} {l : List MV} (ho : w.ownsRow B 66 5 (.slice A n c) n (flatM l)) (hl : l.length = n) (hm : Mc B (Value.slice A n c).ownBlock w l) (S : List Nat) (hS : ∀ s ∈ S, s < B) : LO S w A (l.map MV.m) c := by
  obtain ⟨A', c', hv, hA, hnc, _⟩ := own_slice ho
  injection hv with hv _ hc
  subst hv; subst hc
  refine ⟨l, rfl, by rw [List.length_map, hl]; exact hnc, own_cv ho, fun h0 b o e hb => ?_, hm.mo S (fun s hs => .inl (hS s hs))⟩
  have := own_ge ho b (by rw [e]; rfl)
  have := hS b hb
  omega
theorem LO.keep5 {S : List Nat} {w : World} {A : Option Addr} {ms : List MS} {c : Nat} (h : LO S w A ms c) {P : Nat} (hP : P ∈ S) (v0 v1 v2 v3 v4 : Value) : LO S (((((w.setCell ⟨P, 0, none⟩ v0).setCell ⟨P, 1, none⟩ v1).setCell ⟨P, 2, none⟩ v2).setCell ⟨P, 3, none⟩ v3).setCell ⟨P, 4, none⟩ v4) A ms c := by
  obtain ⟨l', h1, h2, h3, h4, h5⟩ := h
  refine ⟨l', h1, h2, fun h0 => ?_, h4, ?_⟩
  · have hms : 0 < ms.length := by
      rw [← h1, List.length_map]
      rw [flatM_len] at h0; omega
    exact Cv.far5 h3 (fun b o e he => h4 hms b o e (he ▸ hP)) v0 v1 v2 v3 v4 h0
  · exact ((((h5.set hP 0 v0).set hP 1 v1).set hP 2 v2).set hP 3 v3).set hP 4 v4
/-- what command may suppose: pages that are copies, measures that are a row of the call's own, the blocks S -/
def In41 (R W : List Int) (ch : List (Int × Int)) (ms : List MS) (mm : Nat) (S : List Nat) (X1 : Option Addr) (k1 : Nat) (X2 : Option Addr) (k2 : Nat) (X3 : Option Addr) (k3 : Nat) (A5 : Option Addr) (c6 : Nat) (l' : List MV) (G : Option Nat) (w0 w1 : World) : Prop :=
  (R.length ≤ k1 ∧ W.length ≤ k2 ∧ ch.length ≤ k3) ∧ (Iy (G.toList ++ S) .i64 w1 X1 R ∧ Iy (G.toList ++ S) .i64 w1 X2 W ∧ Iy (G.toList ++ S) .i64 w1 X3 (flat ch)) ∧ l'.map MV.m = ms ∧ l'.length = mm ∧ Mo (G.toList ++ S) w1 l' ∧ (∃ B0, B0 ≤ w1.heap.size ∧ w1.ownsRow B0 66 5 (.slice A5 mm c6) mm (flatM l')) ∧ (∀ b o, A5 = some ⟨b, o, none⟩ → some b = G) ∧ (∀ g, G = some g → g < w1.heap.size ∧ g ∉ S ∧ w0.heap.size ≤ g) ∧ (∀ s ∈ S, s < w1.heap.size ∧ w0.heap.size ≤ s) ∧ Below w0.heap.size w0 w1
theorem mem_gs {G : Option Nat} {S : List Nat} {b : Nat} (h : b ∈ G.toList ++ S) : some b = G ∨ b ∈ S := by
  rcases List.mem_append.1 h with h | h
  · left
    cases G with
    | none => cases h
    | some g => rw [Option.toList_some, List.mem_singleton] at h; rw [h]
  · exact .inr h
theorem two_mem {a b s : Nat} (h : s ∈ [a, b]) : s = a ∨ s = b := by simpa using h
end Go.Proofs.Ytamajedopofcoaa
