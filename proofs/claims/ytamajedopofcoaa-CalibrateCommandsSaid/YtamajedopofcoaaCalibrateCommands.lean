/-
  Proved: the statement CalibrateCommands of the program's layer 45 (calibrate) holds: for every input the law returns true and its arguments read as before. No condition.
-/
import Derived.Test.YtamajedopofcoaaRows
import Derived.Test.YtamajedopofcoaaZCmdsCore
import Derived.Test.YtamajedopofcoaaZI
set_option linter.unusedVariables false
set_option linter.unusedSimpArgs false
namespace Go.Proofs.Ytamajedopofcoaa.calibrateCommands
open Go.ChangeShapes Go.WideShapes Go.ChangeAt Go.RowKit
theorem bd_u8 {n : Int} (h : (Lit.int .u8 n).wf = true) : 0 ≤ n ∧ n ≤ 255 := by simp [Lit.wf, IntKind.min, IntKind.max, IntKind.signed, IntKind.bits] at h; omega
theorem bd_u16 {n : Int} (h : (Lit.int .u16 n).wf = true) : 0 ≤ n ∧ n ≤ 65535 := by simp [Lit.wf, IntKind.min, IntKind.max, IntKind.signed, IntKind.bits] at h; omega
theorem bd_u32 {n : Int} (h : (Lit.int .u32 n).wf = true) : 0 ≤ n ∧ n ≤ 4294967295 := by simp [Lit.wf, IntKind.min, IntKind.max, IntKind.signed, IntKind.bits] at h; omega
theorem bd_i64 {n : Int} (h : (Lit.int .i64 n).wf = true) : -9223372036854775808 ≤ n ∧ n ≤ 9223372036854775807 := by simp [Lit.wf, IntKind.min, IntKind.max, IntKind.signed, IntKind.bits] at h; omega
set_option maxRecDepth 100000 in
theorem lifted (os : Os) (started : os.Started) (H : Type) (enc : TypeId × Value → H) :
    ReturnsInHanded {} Try.checked os 4 .any (Rows.calibrateCommandsSpec.pre6 enc Try.prog Try.f4 Rows.calibrateCommandsRow.domain false) (Rows.calibrateCommandsSpec.post enc Try.prog Try.f4 false true false false) := by
  refine returnsInHanded_of_change (C := Try.checked) ownKnobNone started (by kernel_rfl) Try.func4
    (ChangeSpec.witness6 (enc := enc) (C := Try.checked) false ⟨#[], #[.agg #[.slice none 0 0, .slice none 0 0, .int .i64 0, .int .i64 0, .slice none 0 0], .slice none 0 0, .slice none 0 0], []⟩ 8 (by kernel_rfl) (by kernel_rfl) (by kernel_rfl) (by kernel_rfl)) ?_
  intro W base args ds gs before hval0 hW hcnd _
  have hval : ∀ (j : Nat) t v, Try.f4.params[j]? = some t → args[j]? = some v → Value.okWide Try.prog W .any base t v := hval0
  have hW' := hW
  obtain ⟨p, q, hA0, hV, rfl, hfz, hnd⟩ := hW
  have hA : DataW.TrodAll enc Try.prog W 0 (fun _ => true) true Try.f4.params.toList args.toList ds p := hA0
  rw [Try.params4] at hA hval
  obtain ⟨v0, vs0, d0, ds0, p0, q0, hargs, rfl, rfl, h0, r0⟩ := trodAll_cons hA
  obtain ⟨v1, vs1, d1, ds1, p1, q1, rfl, rfl, rfl, h1, r1⟩ := trodAll_cons r0
  obtain ⟨v2, vs2, d2, ds2, p2, q2, rfl, rfl, rfl, h2, r2⟩ := trodAll_cons r1
  obtain ⟨rfl, rfl, rfl⟩ := trodAll_nil r2
  obtain rfl : args = #[v0, v1, v2] := by cases args; simp_all
  clear hA0 hval0
  have post : ∀ W', Below W.heap.size W W' → Rows.calibrateCommandsSpec.post enc Try.prog Try.f4 false true false false W #[v0, v1, v2] (.bool true) W' := fun W' hb =>
    post_true laidOut rfl (by kernel_rfl) rfl Try.underlying4 ⟨rfl, rfl, rfl⟩ hW' hb
  obtain ⟨A, n, c, A2, n2, c2, Ac, Pe, A3, m, c3, R, W0, ch, rfl, g1, g2, g3, g4, g5, g6, g7, g8, g9⟩ := open_pages (hval 0 25 v0 rfl rfl) h0
  obtain ⟨A4, mm, c4, l, rfl, k1, k2, k3, k4⟩ := open_meas (hval 1 45 v1 rfl rfl) h1
  obtain ⟨A2x, len2, cap2, f2, rfl, hl2, hm2, hn2, hw2, hs2⟩ := open_int_sl Try.underlying46 Try.underlying5 (by kernel_rfl) (hval 2 46 v2 rfl rfl) h2
  exact (cmds4 A n c A2 n2 c2 Ac Pe A3 m c3 R W0 ch A4 mm c4 l A2x len2 cap2 (lst len2 f2) W g1 g3 g2 g4 g6 g5 g7 g9 g8 k1 k3 k4 k2 (lst_len _ _) (lst_ik hs2) (fun x hx => bd_u8 (lst_wf hw2 x hx)) hl2).mono fun e W' ⟨he, hb⟩ => ⟨_, he, post W' hb⟩
theorem proved : Rows.CalibrateCommandsSaid :=
  OpenClaim.holds_of_wide 4 Try.f4 rfl rfl rfl rfl rfl rfl rfl ⟨rfl, rfl, rfl, rfl, rfl⟩ rfl rfl rfl rfl rfl (by kernel_rfl) Try.func4 (by kernel_rfl)
    (of_decide_eq_true (by kernel_rfl)) (by unfold Func.isWrapper; first | (rw [if_pos (by decide +kernel)]; kernel_rfl) | (rw [if_neg (by decide +kernel)]; exact ⟨rfl, rfl⟩))
    (fun os started H enc _ => lifted os started H enc)
#print axioms proved
end Go.Proofs.Ytamajedopofcoaa.calibrateCommands
