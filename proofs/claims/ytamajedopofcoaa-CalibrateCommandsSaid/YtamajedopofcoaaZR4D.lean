/-
  The contract of the reference's command for the commands that run and stop a measure. No condition but the slices' shape.
-/
import Derived.Test.YtamajedopofcoaaZR4A
set_option linter.unusedVariables false
set_option linter.unusedSimpArgs false
namespace Go.Proofs.Ytamajedopofcoaa
open Go.RowKit
theorem none_mv {w : World} {base n c : Nat} {v : Value} {xs : List Value} (t : TypeId) (hown : w.ownsRow base 66 5 v n xs) :
    (Builtin.append_ #[45, 45] t #[v, .slice none 0 c]).run Try.prog w = .ok v w := by
  obtain ⟨i, hi, _⟩ := info_parts info66
  obtain ⟨_, hf⟩ := hown
  rcases hf with ⟨rfl, rfl⟩ | ⟨g, cap, cur, rfl, _, _, hle, _⟩
  · simp [Builtin.append_, run_underlying Try.underlying45, sizeOf, typeInfo, hi, Builtin.lenOf, Builtin.firstCells]
  · simp [Builtin.append_, run_underlying Try.underlying45, sizeOf, typeInfo, hi, Builtin.lenOf, Builtin.firstCells, hle, storeCells]
/-- append of values of measures in a walk; the source may be nil -/
theorem app_mv {ops : Array Oper} {rest : List Oper} {o : Oper} {a : Act} {Q : Exit → Act → World → Prop} {w : World} (hgd : o.guard = none) (s x : Operand)
    (ho : o.op = .call { callee := .builtin .append, args := #[s, x], argTypes := #[45, 45] }) (base n : Nat) (v : Value) (xs : List Value) (hs : a.eval s = v) (hown : w.ownsRow base 66 5 v n xs)
    (A : Option Addr) (m c : Nat) (vs : List Value) (hx : a.eval x = .slice A m c) (hl : vs.length = m * 5) (hb : Cv w A vs) (h1 : ∀ u ∈ vs, u.oneCell' = true) (hsm : n + m ≤ 1000000) (hbase : base ≤ w.heap.size)
    (h : ∀ v' w', w'.ownsRow base 66 5 v' (n + m) (xs ++ vs) → Below base w w' → wpList Try.prog ops Q rest (a.put o.dst v') w') : wpList Try.prog ops Q (o :: rest) a w := by
  obtain ⟨i0, hi, hz0, hz1, hz2⟩ := info_parts info66
  cases A with
  | none =>
    have h0 : vs = [] := by
      rcases hq : vs with _ | ⟨y, t⟩
      · rfl
      · obtain ⟨b, q, e, _⟩ := hb (by rw [hq]; simp); cases e
    obtain rfl : m = 0 := by rw [h0] at hl; simp at hl; omega
    refine wpList_plain hgd fun K hK => ?_
    have hrun := none_mv (c := c) o.type hown
    unfold Oper.wp
    simp [execOp, ho, resolve, invoke, builtin, hs, hx, hrun, Result.andThen]
    exact hK _ _ (h v w (by rw [h0]; simpa using hown) (Below.refl _ _))
  | some ad =>
    refine wpList_append_own w hgd s x 45 ho base 66 i0 (.agg #[.int .i64 0, .int .i64 0, .int .i64 0, .slice none 0 0, .bool false]) 5 56 Try.underlying45 hi hz0 hz1 hz2 rfl (by decide) v n xs hs hown ad m c vs hx hl (fun j u hj => ?_) h1 (by unfold maxLen; omega) (by omega) hbase
      (fun v' w' h1 h2 _ => h v' w' h1 (grown_below hown h2 hbase))
    obtain ⟨b, q, e, _, _⟩ := id hb (Nat.lt_of_le_of_lt (Nat.zero_le _) (List.getElem?_eq_some_iff.1 hj).1)
    injection e with e; subst e
    exact hb.news j u hj
set_option maxRecDepth 100000 in
set_option maxHeartbeats 16000000 in
theorem r42_range5 (A : Option Addr) (n c : Nat) (A2 : Option Addr) (n2 c2 : Nat) (Ac Pe : Int) (A3 : Option Addr) (m c3 : Nat) (R W : List Int) (ch : List (Int × Int)) (A4 : Option Addr) (mm c4 : Nat) (l : List MV) (b o c5 : Nat) (a : Nat) (w : World) (hl : R.length = n) (hb : Ik .i64 w A R) (hc : n ≤ c) (hl2 : W.length = n2) (hb2 : Ik .i64 w A2 W) (hc2 : n2 ≤ c2) (hl3 : ch.length = m) (hb3 : Ik .i64 w A3 (flat ch)) (hc3 : m ≤ c3) (hs : n ≤ 5000) (hs2 : n2 ≤ 5000) (hs3 : m ≤ 5000) (hlm : l.length = mm) (hcv : Cv w A4 (flatM l)) (hmo : Mo [] w l) (hcm : mm ≤ c4) (hmm : mm ≤ 100) (hv : vP R W Ac Pe ch = true) (hm8 : (decide (mm ≤ 8) && !l.any bV) = true) (K56 : ∀ w1, Below w.heap.size w w1 → Calls Try.prog 56 #[.slice (some ⟨b, o, none⟩) 2 c5] w1 fun r w' => r = .returned (.bool true) ∧ w1 = w') (h0 : w.cell? ⟨b, o, none⟩ = some (.int .u8 5)) (hbl : b < w.heap.size) (hc5 : 2 ≤ c5) (h1 : w.cell? ⟨b, o + 1, none⟩ = some (.int .u8 (a : Int))) (ha : a ≤ 255) (hx : mm ≤ a) : Calls Try.prog 42 #[.agg #[.slice A n c, .slice A2 n2 c2, .int .i64 Ac, .int .i64 Pe, .slice A3 m c3], .slice A4 mm c4, .slice (some ⟨b, o, none⟩) 2 c5] w (fun r w' => ∃ X1 n1' k1 X2 n2' k2 a1 a2 X3 n3' k3 vm va, r = .returned (.tuple #[.agg #[.slice X1 n1' k1, .slice X2 n2' k2, .int .i64 a1, .int .i64 a2, .slice X3 n3' k3], vm, va, .int .i64 2]) ∧ Below w.heap.size w w') := by
  have KV := fun w h h2 h3 => rvalid12 A n c A2 n2 c2 Ac Pe A3 m c3 R W ch w hl h hc hl2 h2 hc2 hl3 h3 hc3 hs hs2 hs3
  rw [hv] at KV
  replace KV := Lib.hid KV
  have KM := fun w h h' => rmeas55 A4 mm c4 l w hlm h h' hcm
  rw [hm8] at KM
  replace KM := Lib.hid KM
  have HCV := Lib.hid hcv
  have HMO := Lib.hid hmo
  have HB1 := Lib.hid hb
  have HB2 := Lib.hid hb2
  have HB3 := Lib.hid hb3
  have HP0 := Lib.hid ((Cl.new (w := w) rfl [.slice A n c, .slice A2 n2 c2, .int .i64 Ac, .int .i64 Pe, .slice A3 m c3] 25).below ((Below.refl _ _).alloc (Nat.le_refl _) (.cells #[.slice none 0 0, .slice none 0 0, .int .i64 0, .int .i64 0, .slice none 0 0] 25)))
  have HQ0 := Lib.hid (Cl.new (P := w.heap.size + 1) (w := w.alloc (.cells #[.slice A n c, .slice A2 n2 c2, .int .i64 Ac, .int .i64 Pe, .slice A3 m c3] 25)) (by simp) [.slice none 0 0, .slice none 0 0, .int .i64 0, .int .i64 0, .slice none 0 0] 25)
  have HG0 := Lib.hid (show Below w.heap.size w ((w.alloc (.cells #[.slice A n c, .slice A2 n2 c2, .int .i64 Ac, .int .i64 Pe, .slice A3 m c3] 25)).alloc (.cells #[.slice none 0 0, .slice none 0 0, .int .i64 0, .int .i64 0, .slice none 0 0] 25)) by go_grown)
  have HLM := Lib.hid hlm
  replace K56 := Lib.hid K56
  clear hl hl2 hl3 hb hb2 hb3 hlm hcv hmo hm8
  go_enter Try.func42, Try.ntmps42
  have p0 := HP0.out.c 0 rfl
  have p1 := HP0.out.c 1 rfl
  have p2 := HP0.out.c 2 rfl
  have p3 := HP0.out.c 3 rfl
  have p4 := HP0.out.c 4 rfl
  have zp := HP0.out.1
  go_wp2_with fail
  refine (KV.out _ (HB1.out.below HG0.out) (HB2.out.below HG0.out) (HB3.out.below HG0.out)).mono ?_
  rintro r w1 ⟨rfl, hbw1⟩
  have HP1 := Lib.hid (HP0.out.below hbw1)
  have HQ1 := Lib.hid (HQ0.out.below hbw1)
  have HG1 := Lib.hid (chain HG0.out hbw1)
  clear hbw1 HP0 HQ0 HG0
  clear p0 p1 p2 p3 p4 zp KV
  go_wp2_with fail
  refine (KM.out _ (HCV.out.below HG1.out) (HMO.out.below HG1.out)).mono ?_
  rintro r m5 ⟨rfl, hbm5⟩
  have HP5 := Lib.hid (HP1.out.below hbm5)
  have HQ5 := Lib.hid (HQ1.out.below hbm5)
  have HG5 := Lib.hid (chain HG1.out hbm5)
  clear hbm5 HP1 HQ1 HG1
  clear KM
  go_wp2_with fail
  refine (K56.out _ HG5.out).mono ?_
  rintro r w3 ⟨rfl, rfl⟩
  have hb5 : b < m5.heap.size := by have := HG5.out.size; omega
  have hPm : w.heap.size < m5.heap.size := HP5.out.1
  have hm2 : w.heap.size + 2 ≤ m5.heap.size := HQ5.out.1
  have s1 : m5.cell? ⟨b, o, none⟩ = some (.int .u8 5) := ((bcell HG5.out).1 b _ hbl).trans h0
  have s2 : m5.cell? ⟨b, o + 1, none⟩ = some (.int .u8 (a : Int)) := ((bcell HG5.out).1 b _ hbl).trans h1
  clear h0 h1
  have d1 : decide ((mm : Int) ≤ (a : Int)) = true := by simp; omega
  go_wp2_with (at_builtin; go_loud (refine app_mv rfl _ _ rfl m5.heap.size 0 _ [] rfl (World.ownsRow_made m5 #[] 0 (Nat.le_refl _) (by simp [maxLen]) rfl) _ mm c4 (flatM l) rfl (by rw [flatM_len, HLM.out]) ((HCV.out.below HG5.out).below ((Below.refl _ _).alloc (Nat.le_refl _) _)) (flatM_one_cell _) (by omega) (by simp) ?_))
  intro vn wn hown hbn
  have HO := Lib.hid hown
  have hbN : Below m5.heap.size m5 wn := ((Below.refl _ _).alloc (Nat.le_refl _) _).trans hbn
  have HPN := Lib.hid (HP5.out.below hbN)
  have HQN := Lib.hid (HQ5.out.below hbN)
  have HGN := Lib.hid (chain HG5.out hbN)
  have HBN := Lib.hid hbN
  obtain ⟨An, cn, rfl, hAn, hcn, _⟩ := own_slice hown
  clear hown hbn hbN hAn
  have s1' : wn.cell? ⟨b, o, none⟩ = some (.int .u8 5) := ((bcell HBN.out).1 b _ hb5).trans s1
  clear s1 s2
  have p0 := HPN.out.c 0 rfl
  have p1 := HPN.out.c 1 rfl
  have p2 := HPN.out.c 2 rfl
  have p3 := HPN.out.c 3 rfl
  have p4 := HPN.out.c 4 rfl
  have q0 := HQN.out.c 0 rfl
  have q1 := HQN.out.c 1 rfl
  have q2 := HQN.out.c 2 rfl
  have q3 := HQN.out.c 3 rfl
  have q4 := HQN.out.c 4 rfl
  have f0 := HQN.out.f 0 rfl
  have f1 := HQN.out.f 1 rfl
  have f2 := HQN.out.f 2 rfl
  have f3 := HQN.out.f 3 rfl
  have f4 := HQN.out.f 4 rfl
  have zp := HPN.out.1
  have zq := HQN.out.1
  go_wp2_with fail
  refine bodyPost_ret (v := .tuple #[.agg #[.slice A n c, .slice A2 n2 c2, .int .i64 Ac, .int .i64 Pe, .slice A3 m c3], .slice A4 mm c4, .slice none 0 0, .int .i64 2]) (by simp [results, Try.results42, go_sem, q0, f0, q1, f1, q2, f2, q3, f3, q4, f4, zq] <;> first | rfl | ((repeat' apply And.intro) <;> rfl)) rfl ⟨A, n, c, A2, n2, c2, Ac, Pe, A3, m, c3, _, _, rfl, below_set5 HGN.out (by omega) _ _ _ _ _⟩
set_option maxRecDepth 100000 in
set_option maxHeartbeats 16000000 in
theorem r42_run5 (A : Option Addr) (n c : Nat) (A2 : Option Addr) (n2 c2 : Nat) (Ac Pe : Int) (A3 : Option Addr) (m c3 : Nat) (R W : List Int) (ch : List (Int × Int)) (A4 : Option Addr) (mm c4 : Nat) (l : List MV) (b o c5 : Nat) (S : List Nat) (ms : List MS) (a : Nat) (w : World) (hl : R.length = n) (hb : Ik .i64 w A R) (hc : n ≤ c) (hl2 : W.length = n2) (hb2 : Ik .i64 w A2 W) (hc2 : n2 ≤ c2) (hl3 : ch.length = m) (hb3 : Ik .i64 w A3 (flat ch)) (hc3 : m ≤ c3) (hs : n ≤ 5000) (hs2 : n2 ≤ 5000) (hs3 : m ≤ 5000) (hlm : l.length = mm) (hcv : Cv w A4 (flatM l)) (hmo : Mo [] w l) (hcm : mm ≤ c4) (hms : Mo S w l) (hSw : ∀ s ∈ S, s < w.heap.size) (hme : ms = (l.map MV.m).set a (runS ((l.map MV.m).getD a ⟨0, 0, 0, [], false⟩) true)) (hmm : mm ≤ 100) (hv : vP R W Ac Pe ch = true) (hm8 : (decide (mm ≤ 8) && !l.any bV) = true) (K56 : ∀ w1, Below w.heap.size w w1 → Calls Try.prog 56 #[.slice (some ⟨b, o, none⟩) 2 c5] w1 fun r w' => r = .returned (.bool true) ∧ w1 = w') (h0 : w.cell? ⟨b, o, none⟩ = some (.int .u8 5)) (hbl : b < w.heap.size) (hc5 : 2 ≤ c5) (h1 : w.cell? ⟨b, o + 1, none⟩ = some (.int .u8 (a : Int))) (ha : a ≤ 255) (hx : a < mm) : Calls Try.prog 42 #[.agg #[.slice A n c, .slice A2 n2 c2, .int .i64 Ac, .int .i64 Pe, .slice A3 m c3], .slice A4 mm c4, .slice (some ⟨b, o, none⟩) 2 c5] w (fun r w' => ∃ A5 c5', r = .returned (.tuple #[.agg #[.slice A n c, .slice A2 n2 c2, .int .i64 Ac, .int .i64 Pe, .slice A3 m c3], .slice A5 (ms).length c5', .slice none 0 0, .int .i64 0]) ∧ LO S w' A5 (ms) c5' ∧ Below w.heap.size w w') := by
  have HSW := Lib.hid hSw
  have HME := Lib.hid hme
  clear hSw hme
  have KV := fun w h h2 h3 => rvalid12 A n c A2 n2 c2 Ac Pe A3 m c3 R W ch w hl h hc hl2 h2 hc2 hl3 h3 hc3 hs hs2 hs3
  rw [hv] at KV
  replace KV := Lib.hid KV
  have KM := fun w h h' => rmeas55 A4 mm c4 l w hlm h h' hcm
  rw [hm8] at KM
  replace KM := Lib.hid KM
  have HCV := Lib.hid hcv
  have HMO := Lib.hid hmo
  have HB1 := Lib.hid hb
  have HB2 := Lib.hid hb2
  have HB3 := Lib.hid hb3
  have HP0 := Lib.hid ((Cl.new (w := w) rfl [.slice A n c, .slice A2 n2 c2, .int .i64 Ac, .int .i64 Pe, .slice A3 m c3] 25).below ((Below.refl _ _).alloc (Nat.le_refl _) (.cells #[.slice none 0 0, .slice none 0 0, .int .i64 0, .int .i64 0, .slice none 0 0] 25)))
  have HQ0 := Lib.hid (Cl.new (P := w.heap.size + 1) (w := w.alloc (.cells #[.slice A n c, .slice A2 n2 c2, .int .i64 Ac, .int .i64 Pe, .slice A3 m c3] 25)) (by simp) [.slice none 0 0, .slice none 0 0, .int .i64 0, .int .i64 0, .slice none 0 0] 25)
  have HG0 := Lib.hid (show Below w.heap.size w ((w.alloc (.cells #[.slice A n c, .slice A2 n2 c2, .int .i64 Ac, .int .i64 Pe, .slice A3 m c3] 25)).alloc (.cells #[.slice none 0 0, .slice none 0 0, .int .i64 0, .int .i64 0, .slice none 0 0] 25)) by go_grown)
  have HLM := Lib.hid hlm
  have HMS := Lib.hid hms
  replace K56 := Lib.hid K56
  clear hl hl2 hl3 hb hb2 hb3 hlm hcv hmo hm8 hms
  go_enter Try.func42, Try.ntmps42
  have p0 := HP0.out.c 0 rfl
  have p1 := HP0.out.c 1 rfl
  have p2 := HP0.out.c 2 rfl
  have p3 := HP0.out.c 3 rfl
  have p4 := HP0.out.c 4 rfl
  have zp := HP0.out.1
  go_wp2_with fail
  refine (KV.out _ (HB1.out.below HG0.out) (HB2.out.below HG0.out) (HB3.out.below HG0.out)).mono ?_
  rintro r w1 ⟨rfl, hbw1⟩
  have HP1 := Lib.hid (HP0.out.below hbw1)
  have HQ1 := Lib.hid (HQ0.out.below hbw1)
  have HG1 := Lib.hid (chain HG0.out hbw1)
  clear hbw1 HP0 HQ0 HG0
  clear p0 p1 p2 p3 p4 zp KV
  go_wp2_with fail
  refine (KM.out _ (HCV.out.below HG1.out) (HMO.out.below HG1.out)).mono ?_
  rintro r m5 ⟨rfl, hbm5⟩
  have HP5 := Lib.hid (HP1.out.below hbm5)
  have HQ5 := Lib.hid (HQ1.out.below hbm5)
  have HG5 := Lib.hid (chain HG1.out hbm5)
  clear hbm5 HP1 HQ1 HG1
  clear KM
  go_wp2_with fail
  refine (K56.out _ HG5.out).mono ?_
  rintro r w3 ⟨rfl, rfl⟩
  have hb5 : b < m5.heap.size := by have := HG5.out.size; omega
  have hPm : w.heap.size < m5.heap.size := HP5.out.1
  have hm2 : w.heap.size + 2 ≤ m5.heap.size := HQ5.out.1
  have s1 : m5.cell? ⟨b, o, none⟩ = some (.int .u8 5) := ((bcell HG5.out).1 b _ hbl).trans h0
  have s2 : m5.cell? ⟨b, o + 1, none⟩ = some (.int .u8 (a : Int)) := ((bcell HG5.out).1 b _ hbl).trans h1
  clear h0 h1
  have d1 : decide ((mm : Int) ≤ (a : Int)) = false := by simp; omega
  go_wp2_with (at_builtin; go_loud (refine app_mv rfl _ _ rfl m5.heap.size 0 _ [] rfl (World.ownsRow_made m5 #[] 0 (Nat.le_refl _) (by simp [maxLen]) rfl) _ mm c4 (flatM l) rfl (by rw [flatM_len, HLM.out]) ((HCV.out.below HG5.out).below ((Below.refl _ _).alloc (Nat.le_refl _) _)) (flatM_one_cell _) (by omega) (by simp) ?_))
  intro vn wn hown hbn
  have HO := Lib.hid hown
  have hbN : Below m5.heap.size m5 wn := ((Below.refl _ _).alloc (Nat.le_refl _) _).trans hbn
  have HPN := Lib.hid (HP5.out.below hbN)
  have HQN := Lib.hid (HQ5.out.below hbN)
  have HGN := Lib.hid (chain HG5.out hbN)
  have HBN := Lib.hid hbN
  obtain ⟨An, cn, rfl, hAn, hcn, _⟩ := own_slice hown
  clear hown hbn hbN hAn
  have s1' : wn.cell? ⟨b, o, none⟩ = some (.int .u8 5) := ((bcell HBN.out).1 b _ hb5).trans s1
  clear s1 s2
  have hla : a < l.length := by rw [HLM.out]; exact hx
  obtain ⟨xm, hxm⟩ : ∃ xm, l[a]? = some xm := ⟨_, List.getElem?_eq_getElem hla⟩
  have HXM := Lib.hid hxm
  obtain ⟨g, cap, hv, hgb, hgl, hcap, _, _⟩ := own_form HO.out (by omega)
  injection hv with hv _ hcc
  subst hv
  subst hcc
  have CG := own_cl HO.out (by omega)
  obtain ⟨r4, e4⟩ := CG.2 (a * 5 + 4) _ ((flatM_get l a xm hxm 4 (by omega)).trans rfl)
  obtain ⟨r2, e2⟩ := CG.2 (a * 5 + 2) _ ((flatM_get l a xm hxm 2 (by omega)).trans rfl)
  have ham : (a : Int) < (mm : Int) := by omega
  have hga : a * 5 + 4 < mm * 5 := by omega
  clear hxm CG
  go_upto_region 34 with fail
  obtain ⟨u, hu⟩ : ∃ u, u = wn.setCell ⟨g, a * 5 + 4, none⟩ (.bool true) := ⟨_, rfl⟩
  have hr2' : u.cell? ⟨g, a * 5 + 2, none⟩ = some (.int .i64 xm.m.Co) := by rw [hu]; exact (World.cell?_setCell_other _ _ _ _ (by intro q; injection q with _ q; omega)).trans r2
  have he2' : u.frozen? ⟨g, a * 5 + 2, none⟩ = false := by rw [hu, World.frozen?_setCell]; exact e2
  have hou : u.ownsRow m5.heap.size 66 5 (.slice (some ⟨g, 0, none⟩) mm cn) mm (flatM (l.set a ⟨⟨xm.m.Ev, xm.m.Ey, xm.m.Co, xm.m.Ce, true⟩, xm.B, xm.c⟩)) := by
    rw [hu, ← flatM_set l a xm ⟨⟨xm.m.Ev, xm.m.Ey, xm.m.Co, xm.m.Ce, true⟩, xm.B, xm.c⟩ 4 (.bool true) HXM.out (by omega) rfl]
    exact own_put HO.out (by omega) _
  have hPu := HPN.out.far (b := g) (by omega) (a * 5 + 4) (.bool true)
  have hQu := HQN.out.far (b := g) (by omega) (a * 5 + 4) (.bool true)
  have hGu := HGN.out.setCell (p := ⟨g, a * 5 + 4, none⟩) (by show w.heap.size ≤ g; omega) (.bool true)
  rw [← hu] at hPu hQu hGu
  rw [← hu]
  have HPU := Lib.hid hPu
  have HQU := Lib.hid hQu
  have HGU := Lib.hid hGu
  have HOU := Lib.hid hou
  have hgu : g < u.heap.size := by rw [hu]; simpa using hgl
  clear hu r4 e4 r2 e2 hPu hQu hGu hou HPN HQN HGN HO s1'
  go_upto_region 35 with fail
  obtain ⟨wc, hwc⟩ : ∃ wc, wc = u.setCell ⟨g, a * 5 + 2, none⟩ (.int .i64 0) := ⟨_, rfl⟩
  have hoc : wc.ownsRow m5.heap.size 66 5 (.slice (some ⟨g, 0, none⟩) mm cn) mm (flatM ((l.set a ⟨⟨xm.m.Ev, xm.m.Ey, xm.m.Co, xm.m.Ce, true⟩, xm.B, xm.c⟩).set a ⟨⟨xm.m.Ev, xm.m.Ey, 0, xm.m.Ce, true⟩, xm.B, xm.c⟩)) := by
    rw [hwc, ← flatM_set (l.set a ⟨⟨xm.m.Ev, xm.m.Ey, xm.m.Co, xm.m.Ce, true⟩, xm.B, xm.c⟩) a ⟨⟨xm.m.Ev, xm.m.Ey, xm.m.Co, xm.m.Ce, true⟩, xm.B, xm.c⟩ ⟨⟨xm.m.Ev, xm.m.Ey, 0, xm.m.Ce, true⟩, xm.B, xm.c⟩ 2 (.int .i64 0) (List.getElem?_set_self hla) (by omega) rfl]
    exact own_put HOU.out (by omega) _
  have hPu := HPU.out.far (b := g) (by omega) (a * 5 + 2) (.int .i64 0)
  have hQu := HQU.out.far (b := g) (by omega) (a * 5 + 2) (.int .i64 0)
  have hGu := HGU.out.setCell (p := ⟨g, a * 5 + 2, none⟩) (by show w.heap.size ≤ g; omega) (.int .i64 0)
  rw [← hwc] at hPu hQu hGu
  rw [← hwc]
  have HPC := Lib.hid hPu
  have HQC := Lib.hid hQu
  have HGC := Lib.hid hGu
  have HOC := Lib.hid hoc
  clear hwc hr2' he2' hPu hQu hGu hoc HPU HQU HGU HOU HP5 HQ5 d1 ham
  have p0 := HPC.out.c 0 rfl
  have p1 := HPC.out.c 1 rfl
  have p2 := HPC.out.c 2 rfl
  have p3 := HPC.out.c 3 rfl
  have p4 := HPC.out.c 4 rfl
  have q0 := HQC.out.c 0 rfl
  have q1 := HQC.out.c 1 rfl
  have q2 := HQC.out.c 2 rfl
  have q3 := HQC.out.c 3 rfl
  have q4 := HQC.out.c 4 rfl
  have f0 := HQC.out.f 0 rfl
  have f1 := HQC.out.f 1 rfl
  have f2 := HQC.out.f 2 rfl
  have f3 := HQC.out.f 3 rfl
  have f4 := HQC.out.f 4 rfl
  have zp := HPC.out.1
  have zq := HQC.out.1
  go_wp2_with fail
  refine bodyPost_ret (v := .tuple #[.agg #[.slice A n c, .slice A2 n2 c2, .int .i64 Ac, .int .i64 Pe, .slice A3 m c3], .slice (some ⟨g, 0, none⟩) mm cn, .slice none 0 0, .int .i64 0]) (by simp [results, Try.results42, go_sem, q0, f0, q1, f1, q2, f2, q3, f3, q4, f4, zq] <;> first | rfl | ((repeat' apply And.intro) <;> rfl)) rfl ⟨some ⟨g, 0, none⟩, cn, (by rw [HME.out, List.length_set, List.length_map, HLM.out]), ?_, below_set5 HGC.out (by omega) _ _ _ _ _⟩
  refine ⟨_, ?_, ?_, (own_cv HOC.out).far5 (fun b o e => by injection e with e; injection e with e _; omega) _ _ _ _ _, ?_, ?_⟩
  · rw [HME.out, map_set_m, map_set_m, List.set_set]
    have hxx : (l.map MV.m).getD a ⟨0, 0, 0, [], false⟩ = xm.m := by simp [List.getD, HXM.out]
    rw [hxx]; rfl
  · rw [HME.out, List.length_set, List.length_map, HLM.out]; omega
  · intro _ b o e hb
    injection e with e; injection e with e _
    have := HSW.out b hb; omega
  · refine Mo.put (x := ⟨⟨xm.m.Ev, xm.m.Ey, xm.m.Co, xm.m.Ce, true⟩, xm.B, xm.c⟩) ?_ (List.getElem?_set_self hla) rfl rfl rfl
    refine Mo.put (x := xm) ?_ HXM.out rfl rfl rfl
    exact HMS.out.below (below_set5 HGC.out (by omega) _ _ _ _ _)
set_option maxRecDepth 100000 in
set_option maxHeartbeats 16000000 in
theorem r42_range6 (A : Option Addr) (n c : Nat) (A2 : Option Addr) (n2 c2 : Nat) (Ac Pe : Int) (A3 : Option Addr) (m c3 : Nat) (R W : List Int) (ch : List (Int × Int)) (A4 : Option Addr) (mm c4 : Nat) (l : List MV) (b o c5 : Nat) (a : Nat) (w : World) (hl : R.length = n) (hb : Ik .i64 w A R) (hc : n ≤ c) (hl2 : W.length = n2) (hb2 : Ik .i64 w A2 W) (hc2 : n2 ≤ c2) (hl3 : ch.length = m) (hb3 : Ik .i64 w A3 (flat ch)) (hc3 : m ≤ c3) (hs : n ≤ 5000) (hs2 : n2 ≤ 5000) (hs3 : m ≤ 5000) (hlm : l.length = mm) (hcv : Cv w A4 (flatM l)) (hmo : Mo [] w l) (hcm : mm ≤ c4) (hmm : mm ≤ 100) (hv : vP R W Ac Pe ch = true) (hm8 : (decide (mm ≤ 8) && !l.any bV) = true) (K56 : ∀ w1, Below w.heap.size w w1 → Calls Try.prog 56 #[.slice (some ⟨b, o, none⟩) 2 c5] w1 fun r w' => r = .returned (.bool true) ∧ w1 = w') (h0 : w.cell? ⟨b, o, none⟩ = some (.int .u8 6)) (hbl : b < w.heap.size) (hc5 : 2 ≤ c5) (h1 : w.cell? ⟨b, o + 1, none⟩ = some (.int .u8 (a : Int))) (ha : a ≤ 255) (hx : mm ≤ a) : Calls Try.prog 42 #[.agg #[.slice A n c, .slice A2 n2 c2, .int .i64 Ac, .int .i64 Pe, .slice A3 m c3], .slice A4 mm c4, .slice (some ⟨b, o, none⟩) 2 c5] w (fun r w' => ∃ X1 n1' k1 X2 n2' k2 a1 a2 X3 n3' k3 vm va, r = .returned (.tuple #[.agg #[.slice X1 n1' k1, .slice X2 n2' k2, .int .i64 a1, .int .i64 a2, .slice X3 n3' k3], vm, va, .int .i64 2]) ∧ Below w.heap.size w w') := by
  have KV := fun w h h2 h3 => rvalid12 A n c A2 n2 c2 Ac Pe A3 m c3 R W ch w hl h hc hl2 h2 hc2 hl3 h3 hc3 hs hs2 hs3
  rw [hv] at KV
  replace KV := Lib.hid KV
  have KM := fun w h h' => rmeas55 A4 mm c4 l w hlm h h' hcm
  rw [hm8] at KM
  replace KM := Lib.hid KM
  have HCV := Lib.hid hcv
  have HMO := Lib.hid hmo
  have HB1 := Lib.hid hb
  have HB2 := Lib.hid hb2
  have HB3 := Lib.hid hb3
  have HP0 := Lib.hid ((Cl.new (w := w) rfl [.slice A n c, .slice A2 n2 c2, .int .i64 Ac, .int .i64 Pe, .slice A3 m c3] 25).below ((Below.refl _ _).alloc (Nat.le_refl _) (.cells #[.slice none 0 0, .slice none 0 0, .int .i64 0, .int .i64 0, .slice none 0 0] 25)))
  have HQ0 := Lib.hid (Cl.new (P := w.heap.size + 1) (w := w.alloc (.cells #[.slice A n c, .slice A2 n2 c2, .int .i64 Ac, .int .i64 Pe, .slice A3 m c3] 25)) (by simp) [.slice none 0 0, .slice none 0 0, .int .i64 0, .int .i64 0, .slice none 0 0] 25)
  have HG0 := Lib.hid (show Below w.heap.size w ((w.alloc (.cells #[.slice A n c, .slice A2 n2 c2, .int .i64 Ac, .int .i64 Pe, .slice A3 m c3] 25)).alloc (.cells #[.slice none 0 0, .slice none 0 0, .int .i64 0, .int .i64 0, .slice none 0 0] 25)) by go_grown)
  have HLM := Lib.hid hlm
  replace K56 := Lib.hid K56
  clear hl hl2 hl3 hb hb2 hb3 hlm hcv hmo hm8
  go_enter Try.func42, Try.ntmps42
  have p0 := HP0.out.c 0 rfl
  have p1 := HP0.out.c 1 rfl
  have p2 := HP0.out.c 2 rfl
  have p3 := HP0.out.c 3 rfl
  have p4 := HP0.out.c 4 rfl
  have zp := HP0.out.1
  go_wp2_with fail
  refine (KV.out _ (HB1.out.below HG0.out) (HB2.out.below HG0.out) (HB3.out.below HG0.out)).mono ?_
  rintro r w1 ⟨rfl, hbw1⟩
  have HP1 := Lib.hid (HP0.out.below hbw1)
  have HQ1 := Lib.hid (HQ0.out.below hbw1)
  have HG1 := Lib.hid (chain HG0.out hbw1)
  clear hbw1 HP0 HQ0 HG0
  clear p0 p1 p2 p3 p4 zp KV
  go_wp2_with fail
  refine (KM.out _ (HCV.out.below HG1.out) (HMO.out.below HG1.out)).mono ?_
  rintro r m5 ⟨rfl, hbm5⟩
  have HP5 := Lib.hid (HP1.out.below hbm5)
  have HQ5 := Lib.hid (HQ1.out.below hbm5)
  have HG5 := Lib.hid (chain HG1.out hbm5)
  clear hbm5 HP1 HQ1 HG1
  clear KM
  go_wp2_with fail
  refine (K56.out _ HG5.out).mono ?_
  rintro r w3 ⟨rfl, rfl⟩
  have hb5 : b < m5.heap.size := by have := HG5.out.size; omega
  have hPm : w.heap.size < m5.heap.size := HP5.out.1
  have hm2 : w.heap.size + 2 ≤ m5.heap.size := HQ5.out.1
  have s1 : m5.cell? ⟨b, o, none⟩ = some (.int .u8 6) := ((bcell HG5.out).1 b _ hbl).trans h0
  have s2 : m5.cell? ⟨b, o + 1, none⟩ = some (.int .u8 (a : Int)) := ((bcell HG5.out).1 b _ hbl).trans h1
  clear h0 h1
  have d1 : decide ((mm : Int) ≤ (a : Int)) = true := by simp; omega
  go_wp2_with (at_builtin; go_loud (refine app_mv rfl _ _ rfl m5.heap.size 0 _ [] rfl (World.ownsRow_made m5 #[] 0 (Nat.le_refl _) (by simp [maxLen]) rfl) _ mm c4 (flatM l) rfl (by rw [flatM_len, HLM.out]) ((HCV.out.below HG5.out).below ((Below.refl _ _).alloc (Nat.le_refl _) _)) (flatM_one_cell _) (by omega) (by simp) ?_))
  intro vn wn hown hbn
  have HO := Lib.hid hown
  have hbN : Below m5.heap.size m5 wn := ((Below.refl _ _).alloc (Nat.le_refl _) _).trans hbn
  have HPN := Lib.hid (HP5.out.below hbN)
  have HQN := Lib.hid (HQ5.out.below hbN)
  have HGN := Lib.hid (chain HG5.out hbN)
  have HBN := Lib.hid hbN
  obtain ⟨An, cn, rfl, hAn, hcn, _⟩ := own_slice hown
  clear hown hbn hbN hAn
  have s1' : wn.cell? ⟨b, o, none⟩ = some (.int .u8 6) := ((bcell HBN.out).1 b _ hb5).trans s1
  clear s1 s2
  have p0 := HPN.out.c 0 rfl
  have p1 := HPN.out.c 1 rfl
  have p2 := HPN.out.c 2 rfl
  have p3 := HPN.out.c 3 rfl
  have p4 := HPN.out.c 4 rfl
  have q0 := HQN.out.c 0 rfl
  have q1 := HQN.out.c 1 rfl
  have q2 := HQN.out.c 2 rfl
  have q3 := HQN.out.c 3 rfl
  have q4 := HQN.out.c 4 rfl
  have f0 := HQN.out.f 0 rfl
  have f1 := HQN.out.f 1 rfl
  have f2 := HQN.out.f 2 rfl
  have f3 := HQN.out.f 3 rfl
  have f4 := HQN.out.f 4 rfl
  have zp := HPN.out.1
  have zq := HQN.out.1
  go_wp2_with fail
  refine bodyPost_ret (v := .tuple #[.agg #[.slice A n c, .slice A2 n2 c2, .int .i64 Ac, .int .i64 Pe, .slice A3 m c3], .slice A4 mm c4, .slice none 0 0, .int .i64 2]) (by simp [results, Try.results42, go_sem, q0, f0, q1, f1, q2, f2, q3, f3, q4, f4, zq] <;> first | rfl | ((repeat' apply And.intro) <;> rfl)) rfl ⟨A, n, c, A2, n2, c2, Ac, Pe, A3, m, c3, _, _, rfl, below_set5 HGN.out (by omega) _ _ _ _ _⟩
set_option maxRecDepth 100000 in
set_option maxHeartbeats 16000000 in
theorem r42_run6 (A : Option Addr) (n c : Nat) (A2 : Option Addr) (n2 c2 : Nat) (Ac Pe : Int) (A3 : Option Addr) (m c3 : Nat) (R W : List Int) (ch : List (Int × Int)) (A4 : Option Addr) (mm c4 : Nat) (l : List MV) (b o c5 : Nat) (S : List Nat) (ms : List MS) (a : Nat) (w : World) (hl : R.length = n) (hb : Ik .i64 w A R) (hc : n ≤ c) (hl2 : W.length = n2) (hb2 : Ik .i64 w A2 W) (hc2 : n2 ≤ c2) (hl3 : ch.length = m) (hb3 : Ik .i64 w A3 (flat ch)) (hc3 : m ≤ c3) (hs : n ≤ 5000) (hs2 : n2 ≤ 5000) (hs3 : m ≤ 5000) (hlm : l.length = mm) (hcv : Cv w A4 (flatM l)) (hmo : Mo [] w l) (hcm : mm ≤ c4) (hms : Mo S w l) (hSw : ∀ s ∈ S, s < w.heap.size) (hme : ms = (l.map MV.m).set a (runS ((l.map MV.m).getD a ⟨0, 0, 0, [], false⟩) false)) (hmm : mm ≤ 100) (hv : vP R W Ac Pe ch = true) (hm8 : (decide (mm ≤ 8) && !l.any bV) = true) (K56 : ∀ w1, Below w.heap.size w w1 → Calls Try.prog 56 #[.slice (some ⟨b, o, none⟩) 2 c5] w1 fun r w' => r = .returned (.bool true) ∧ w1 = w') (h0 : w.cell? ⟨b, o, none⟩ = some (.int .u8 6)) (hbl : b < w.heap.size) (hc5 : 2 ≤ c5) (h1 : w.cell? ⟨b, o + 1, none⟩ = some (.int .u8 (a : Int))) (ha : a ≤ 255) (hx : a < mm) : Calls Try.prog 42 #[.agg #[.slice A n c, .slice A2 n2 c2, .int .i64 Ac, .int .i64 Pe, .slice A3 m c3], .slice A4 mm c4, .slice (some ⟨b, o, none⟩) 2 c5] w (fun r w' => ∃ A5 c5', r = .returned (.tuple #[.agg #[.slice A n c, .slice A2 n2 c2, .int .i64 Ac, .int .i64 Pe, .slice A3 m c3], .slice A5 (ms).length c5', .slice none 0 0, .int .i64 0]) ∧ LO S w' A5 (ms) c5' ∧ Below w.heap.size w w') := by
  have HSW := Lib.hid hSw
  have HME := Lib.hid hme
  clear hSw hme
  have KV := fun w h h2 h3 => rvalid12 A n c A2 n2 c2 Ac Pe A3 m c3 R W ch w hl h hc hl2 h2 hc2 hl3 h3 hc3 hs hs2 hs3
  rw [hv] at KV
  replace KV := Lib.hid KV
  have KM := fun w h h' => rmeas55 A4 mm c4 l w hlm h h' hcm
  rw [hm8] at KM
  replace KM := Lib.hid KM
  have HCV := Lib.hid hcv
  have HMO := Lib.hid hmo
  have HB1 := Lib.hid hb
  have HB2 := Lib.hid hb2
  have HB3 := Lib.hid hb3
  have HP0 := Lib.hid ((Cl.new (w := w) rfl [.slice A n c, .slice A2 n2 c2, .int .i64 Ac, .int .i64 Pe, .slice A3 m c3] 25).below ((Below.refl _ _).alloc (Nat.le_refl _) (.cells #[.slice none 0 0, .slice none 0 0, .int .i64 0, .int .i64 0, .slice none 0 0] 25)))
  have HQ0 := Lib.hid (Cl.new (P := w.heap.size + 1) (w := w.alloc (.cells #[.slice A n c, .slice A2 n2 c2, .int .i64 Ac, .int .i64 Pe, .slice A3 m c3] 25)) (by simp) [.slice none 0 0, .slice none 0 0, .int .i64 0, .int .i64 0, .slice none 0 0] 25)
  have HG0 := Lib.hid (show Below w.heap.size w ((w.alloc (.cells #[.slice A n c, .slice A2 n2 c2, .int .i64 Ac, .int .i64 Pe, .slice A3 m c3] 25)).alloc (.cells #[.slice none 0 0, .slice none 0 0, .int .i64 0, .int .i64 0, .slice none 0 0] 25)) by go_grown)
  have HLM := Lib.hid hlm
  have HMS := Lib.hid hms
  replace K56 := Lib.hid K56
  clear hl hl2 hl3 hb hb2 hb3 hlm hcv hmo hm8 hms
  go_enter Try.func42, Try.ntmps42
  have p0 := HP0.out.c 0 rfl
  have p1 := HP0.out.c 1 rfl
  have p2 := HP0.out.c 2 rfl
  have p3 := HP0.out.c 3 rfl
  have p4 := HP0.out.c 4 rfl
  have zp := HP0.out.1
  go_wp2_with fail
  refine (KV.out _ (HB1.out.below HG0.out) (HB2.out.below HG0.out) (HB3.out.below HG0.out)).mono ?_
  rintro r w1 ⟨rfl, hbw1⟩
  have HP1 := Lib.hid (HP0.out.below hbw1)
  have HQ1 := Lib.hid (HQ0.out.below hbw1)
  have HG1 := Lib.hid (chain HG0.out hbw1)
  clear hbw1 HP0 HQ0 HG0
  clear p0 p1 p2 p3 p4 zp KV
  go_wp2_with fail
  refine (KM.out _ (HCV.out.below HG1.out) (HMO.out.below HG1.out)).mono ?_
  rintro r m5 ⟨rfl, hbm5⟩
  have HP5 := Lib.hid (HP1.out.below hbm5)
  have HQ5 := Lib.hid (HQ1.out.below hbm5)
  have HG5 := Lib.hid (chain HG1.out hbm5)
  clear hbm5 HP1 HQ1 HG1
  clear KM
  go_wp2_with fail
  refine (K56.out _ HG5.out).mono ?_
  rintro r w3 ⟨rfl, rfl⟩
  have hb5 : b < m5.heap.size := by have := HG5.out.size; omega
  have hPm : w.heap.size < m5.heap.size := HP5.out.1
  have hm2 : w.heap.size + 2 ≤ m5.heap.size := HQ5.out.1
  have s1 : m5.cell? ⟨b, o, none⟩ = some (.int .u8 6) := ((bcell HG5.out).1 b _ hbl).trans h0
  have s2 : m5.cell? ⟨b, o + 1, none⟩ = some (.int .u8 (a : Int)) := ((bcell HG5.out).1 b _ hbl).trans h1
  clear h0 h1
  have d1 : decide ((mm : Int) ≤ (a : Int)) = false := by simp; omega
  go_wp2_with (at_builtin; go_loud (refine app_mv rfl _ _ rfl m5.heap.size 0 _ [] rfl (World.ownsRow_made m5 #[] 0 (Nat.le_refl _) (by simp [maxLen]) rfl) _ mm c4 (flatM l) rfl (by rw [flatM_len, HLM.out]) ((HCV.out.below HG5.out).below ((Below.refl _ _).alloc (Nat.le_refl _) _)) (flatM_one_cell _) (by omega) (by simp) ?_))
  intro vn wn hown hbn
  have HO := Lib.hid hown
  have hbN : Below m5.heap.size m5 wn := ((Below.refl _ _).alloc (Nat.le_refl _) _).trans hbn
  have HPN := Lib.hid (HP5.out.below hbN)
  have HQN := Lib.hid (HQ5.out.below hbN)
  have HGN := Lib.hid (chain HG5.out hbN)
  have HBN := Lib.hid hbN
  obtain ⟨An, cn, rfl, hAn, hcn, _⟩ := own_slice hown
  clear hown hbn hbN hAn
  have s1' : wn.cell? ⟨b, o, none⟩ = some (.int .u8 6) := ((bcell HBN.out).1 b _ hb5).trans s1
  clear s1 s2
  have hla : a < l.length := by rw [HLM.out]; exact hx
  obtain ⟨xm, hxm⟩ : ∃ xm, l[a]? = some xm := ⟨_, List.getElem?_eq_getElem hla⟩
  have HXM := Lib.hid hxm
  obtain ⟨g, cap, hv, hgb, hgl, hcap, _, _⟩ := own_form HO.out (by omega)
  injection hv with hv _ hcc
  subst hv
  subst hcc
  have CG := own_cl HO.out (by omega)
  obtain ⟨r4, e4⟩ := CG.2 (a * 5 + 4) _ ((flatM_get l a xm hxm 4 (by omega)).trans rfl)
  obtain ⟨r2, e2⟩ := CG.2 (a * 5 + 2) _ ((flatM_get l a xm hxm 2 (by omega)).trans rfl)
  have ham : (a : Int) < (mm : Int) := by omega
  have hga : a * 5 + 4 < mm * 5 := by omega
  clear hxm CG
  go_upto_region 34 with fail
  obtain ⟨u, hu⟩ : ∃ u, u = wn.setCell ⟨g, a * 5 + 4, none⟩ (.bool false) := ⟨_, rfl⟩
  have hr2' : u.cell? ⟨g, a * 5 + 2, none⟩ = some (.int .i64 xm.m.Co) := by rw [hu]; exact (World.cell?_setCell_other _ _ _ _ (by intro q; injection q with _ q; omega)).trans r2
  have he2' : u.frozen? ⟨g, a * 5 + 2, none⟩ = false := by rw [hu, World.frozen?_setCell]; exact e2
  have hou : u.ownsRow m5.heap.size 66 5 (.slice (some ⟨g, 0, none⟩) mm cn) mm (flatM (l.set a ⟨⟨xm.m.Ev, xm.m.Ey, xm.m.Co, xm.m.Ce, false⟩, xm.B, xm.c⟩)) := by
    rw [hu, ← flatM_set l a xm ⟨⟨xm.m.Ev, xm.m.Ey, xm.m.Co, xm.m.Ce, false⟩, xm.B, xm.c⟩ 4 (.bool false) HXM.out (by omega) rfl]
    exact own_put HO.out (by omega) _
  have hPu := HPN.out.far (b := g) (by omega) (a * 5 + 4) (.bool false)
  have hQu := HQN.out.far (b := g) (by omega) (a * 5 + 4) (.bool false)
  have hGu := HGN.out.setCell (p := ⟨g, a * 5 + 4, none⟩) (by show w.heap.size ≤ g; omega) (.bool false)
  rw [← hu] at hPu hQu hGu
  rw [← hu]
  have HPU := Lib.hid hPu
  have HQU := Lib.hid hQu
  have HGU := Lib.hid hGu
  have HOU := Lib.hid hou
  have hgu : g < u.heap.size := by rw [hu]; simpa using hgl
  clear hu r4 e4 r2 e2 hPu hQu hGu hou HPN HQN HGN HO s1'
  go_upto_region 35 with fail
  obtain ⟨wc, hwc⟩ : ∃ wc, wc = u.setCell ⟨g, a * 5 + 2, none⟩ (.int .i64 0) := ⟨_, rfl⟩
  have hoc : wc.ownsRow m5.heap.size 66 5 (.slice (some ⟨g, 0, none⟩) mm cn) mm (flatM ((l.set a ⟨⟨xm.m.Ev, xm.m.Ey, xm.m.Co, xm.m.Ce, false⟩, xm.B, xm.c⟩).set a ⟨⟨xm.m.Ev, xm.m.Ey, 0, xm.m.Ce, false⟩, xm.B, xm.c⟩)) := by
    rw [hwc, ← flatM_set (l.set a ⟨⟨xm.m.Ev, xm.m.Ey, xm.m.Co, xm.m.Ce, false⟩, xm.B, xm.c⟩) a ⟨⟨xm.m.Ev, xm.m.Ey, xm.m.Co, xm.m.Ce, false⟩, xm.B, xm.c⟩ ⟨⟨xm.m.Ev, xm.m.Ey, 0, xm.m.Ce, false⟩, xm.B, xm.c⟩ 2 (.int .i64 0) (List.getElem?_set_self hla) (by omega) rfl]
    exact own_put HOU.out (by omega) _
  have hPu := HPU.out.far (b := g) (by omega) (a * 5 + 2) (.int .i64 0)
  have hQu := HQU.out.far (b := g) (by omega) (a * 5 + 2) (.int .i64 0)
  have hGu := HGU.out.setCell (p := ⟨g, a * 5 + 2, none⟩) (by show w.heap.size ≤ g; omega) (.int .i64 0)
  rw [← hwc] at hPu hQu hGu
  rw [← hwc]
  have HPC := Lib.hid hPu
  have HQC := Lib.hid hQu
  have HGC := Lib.hid hGu
  have HOC := Lib.hid hoc
  clear hwc hr2' he2' hPu hQu hGu hoc HPU HQU HGU HOU HP5 HQ5 d1 ham
  have p0 := HPC.out.c 0 rfl
  have p1 := HPC.out.c 1 rfl
  have p2 := HPC.out.c 2 rfl
  have p3 := HPC.out.c 3 rfl
  have p4 := HPC.out.c 4 rfl
  have q0 := HQC.out.c 0 rfl
  have q1 := HQC.out.c 1 rfl
  have q2 := HQC.out.c 2 rfl
  have q3 := HQC.out.c 3 rfl
  have q4 := HQC.out.c 4 rfl
  have f0 := HQC.out.f 0 rfl
  have f1 := HQC.out.f 1 rfl
  have f2 := HQC.out.f 2 rfl
  have f3 := HQC.out.f 3 rfl
  have f4 := HQC.out.f 4 rfl
  have zp := HPC.out.1
  have zq := HQC.out.1
  go_wp2_with fail
  refine bodyPost_ret (v := .tuple #[.agg #[.slice A n c, .slice A2 n2 c2, .int .i64 Ac, .int .i64 Pe, .slice A3 m c3], .slice (some ⟨g, 0, none⟩) mm cn, .slice none 0 0, .int .i64 0]) (by simp [results, Try.results42, go_sem, q0, f0, q1, f1, q2, f2, q3, f3, q4, f4, zq] <;> first | rfl | ((repeat' apply And.intro) <;> rfl)) rfl ⟨some ⟨g, 0, none⟩, cn, (by rw [HME.out, List.length_set, List.length_map, HLM.out]), ?_, below_set5 HGC.out (by omega) _ _ _ _ _⟩
  refine ⟨_, ?_, ?_, (own_cv HOC.out).far5 (fun b o e => by injection e with e; injection e with e _; omega) _ _ _ _ _, ?_, ?_⟩
  · rw [HME.out, map_set_m, map_set_m, List.set_set]
    have hxx : (l.map MV.m).getD a ⟨0, 0, 0, [], false⟩ = xm.m := by simp [List.getD, HXM.out]
    rw [hxx]; rfl
  · rw [HME.out, List.length_set, List.length_map, HLM.out]; omega
  · intro _ b o e hb
    injection e with e; injection e with e _
    have := HSW.out b hb; omega
  · refine Mo.put (x := ⟨⟨xm.m.Ev, xm.m.Ey, xm.m.Co, xm.m.Ce, false⟩, xm.B, xm.c⟩) ?_ (List.getElem?_set_self hla) rfl rfl rfl
    refine Mo.put (x := xm) ?_ HXM.out rfl rfl rfl
    exact HMS.out.below (below_set5 HGC.out (by omega) _ _ _ _ _)
end Go.Proofs.Ytamajedopofcoaa
