/-
  The bytes of a number. No condition.
-/
import Derived.Test.YtamajedopofcoaaComP
set_option linter.unusedVariables false
set_option linter.unusedSimpArgs false
namespace Go.Proofs.Ytamajedopofcoaa
open Go.RowKit
theorem info5 : (Try.prog.info? 5).map (fun i => (i.zero, i.size, i.bytes)) = some (some (.int .u8 0), 1, 1) := by kernel_rfl
theorem none_bt {w : World} {base n c : Nat} {v : Value} {xs : List Value} (t : TypeId) (hown : w.ownsRow base 5 1 v n xs) :
    (Builtin.append_ #[46, 46] t #[v, .slice none 0 c]).run Try.prog w = .ok v w := by
  obtain ⟨i, hi, _⟩ := info_parts info5
  obtain ⟨_, hf⟩ := hown
  rcases hf with ⟨rfl, rfl⟩ | ⟨g, cap, cur, rfl, _, _, hle, _⟩
  · simp [Builtin.append_, run_underlying Try.underlying46, sizeOf, typeInfo, hi, Builtin.lenOf, Builtin.firstCells]
  · simp [Builtin.append_, run_underlying Try.underlying46, sizeOf, typeInfo, hi, Builtin.lenOf, Builtin.firstCells, hle, storeCells]
theorem app_bt {ops : Array Oper} {rest : List Oper} {o : Oper} {a : Act} {Q : Exit → Act → World → Prop} {w : World} (hgd : o.guard = none) (s x : Operand)
    (ho : o.op = .call { callee := .builtin .append, args := #[s, x], argTypes := #[46, 46] }) (base n : Nat) (v : Value) (xs : List Value) (hs : a.eval s = v) (hown : w.ownsRow base 5 1 v n xs)
    (A : Option Addr) (m c : Nat) (l : List Int) (hx : a.eval x = .slice A m c) (hl : l.length = m) (hb : Ik .u8 w A l) (hsm : n + m ≤ 1000000) (hbase : base ≤ w.heap.size)
    (h : ∀ v' w', w'.ownsRow base 5 1 v' (n + m) (xs ++ l.map (Value.int .u8)) → Below base w w' → (∀ b, b < w.heap.size → some b ≠ v.ownBlock → w'.heap[b]? = w.heap[b]?) → wpList Try.prog ops Q rest (a.put o.dst v') w') : wpList Try.prog ops Q (o :: rest) a w := by
  obtain ⟨i0, hi, hz0, hz1, hz2⟩ := info_parts info5
  have hll : l.length = m * 1 := by rw [Nat.mul_one]; exact hl
  cases A with
  | none =>
    have h0 : l = [] := by
      rcases hq : l with _ | ⟨y, t⟩
      · rfl
      · obtain ⟨b, q, e, _⟩ := hb (by rw [hq]; simp); cases e
    obtain rfl : m = 0 := by rw [h0] at hll; simp at hll; omega
    refine wpList_plain hgd fun K hK => ?_
    have hrun := none_bt (c := c) o.type hown
    unfold Oper.wp
    simp [execOp, ho, resolve, invoke, builtin, hs, hx, hrun, Result.andThen]
    exact hK _ _ (h v w (by rw [h0]; simpa using hown) (Below.refl _ _) (fun _ _ _ => rfl))
  | some ad =>
    refine wpList_append_own w hgd s x 46 ho base 5 i0 (.int .u8 0) 1 1 Try.underlying46 hi hz0 hz1 hz2 rfl (by decide) v n xs hs hown ad m c (l.map (Value.int .u8)) hx (by simpa using hll) (fun j u hj => ?_) (one_int _ _) (by unfold maxLen; omega) (by omega) hbase
      (fun v' w' h1 h2 _ => h v' w' h1 (grown_below hown h2 hbase) (fun b hlt hne => h2.block b hlt hne))
    have h0 : 0 < l.length := by
      have := (List.getElem?_eq_some_iff.1 hj).1
      simp at this; omega
    obtain ⟨b, q, e, _, _⟩ := id hb h0
    injection e with e; subst e
    exact hb.news j u hj
/-- the bytes of a number -/
def byts (n : Int) : List Int := [IntKind.u64.wrap n / 72057594037927936 % 256, IntKind.u64.wrap n / 281474976710656 % 256, IntKind.u64.wrap n / 1099511627776 % 256, IntKind.u64.wrap n / 4294967296 % 256, IntKind.u64.wrap n / 16777216 % 256, IntKind.u64.wrap n / 65536 % 256, IntKind.u64.wrap n / 256 % 256, IntKind.u64.wrap n % 256]
theorem own_bt {w : World} {B : Nat} {e : TypeId} {n : Nat} {v : Value} {l : List Int} (h : w.ownsRow B e 1 v n (l.map (Value.int .u8))) : ∃ A c, v = .slice A n c ∧ n ≤ c ∧ c ≤ maxLen ∧ Ik .u8 w A l ∧ Fr B A ∧ (∀ b o, A = some ⟨b, o, none⟩ → b < w.heap.size) := by
  obtain ⟨A, c, hv, hA, hc, hm⟩ := own_slice h
  refine ⟨A, c, hv, hc, hm, fun h0 => ?_, fun b o e => ?_, fun b o e => ?_⟩
  · have h1 := h.1
    simp only [List.length_map, Nat.mul_one] at h1
    obtain ⟨b, rfl, _, hb, hcell⟩ := hA (by omega)
    refine ⟨b, 0, rfl, hb, fun i x hx => ?_⟩
    rw [Nat.zero_add]
    exact hcell i _ (by simp [hx])
  · subst e
    exact own_ge h b (by rw [hv]; rfl)
  · subst e
    exact own_lt h b (by rw [hv]; rfl)
set_option maxRecDepth 100000 in
set_option maxHeartbeats 16000000 in
theorem bytes53 (n : Int) (w : World) (n0 : -9223372036854775808 ≤ n) (n1 : n ≤ 9223372036854775807) : Calls Try.prog 53 #[.int .i64 n] w fun r w' => ∃ v, r = .returned v ∧ w'.ownsRow w.heap.size 5 1 v 8 ((byts n).map (Value.int .u8)) ∧ Below w.heap.size w w' := by
  go_enter Try.func53, Try.ntmps53
  go_upto_region 3 with fail
  go_loopg [3, 4] 8 (fun gk v3 v4 wr => ∃ i : Nat, i ≤ 8 ∧ 8 - i ≤ gk ∧ (∃ s : Int, v4 = .int .i64 s ∧ Hid (s = 56 - 8 * (i : Int))) ∧ wr.ownsRow w.heap.size 5 1 v3 i (((byts n).take i).map (Value.int .u8)) ∧ Below w.heap.size w wr)
  case atStart => exact ⟨0, by omega, by omega, ⟨56, rfl, Lib.hid rfl⟩, World.ownsRow_nil _ _ _ _, Below.refl _ _⟩
  case round =>
    obtain ⟨i, hi, hgk, ⟨s, rfl, hs⟩, ho, hg⟩ := hrel
    obtain ⟨A, c, rfl, hc, _, _, _, _⟩ := own_bt ho
    have hz := hg.size
    rcases (by omega : i = 0 ∨ i = 1 ∨ i = 2 ∨ i = 3 ∨ i = 4 ∨ i = 5 ∨ i = 6 ∨ i = 7 ∨ i = 8) with rfl | rfl | rfl | rfl | rfl | rfl | rfl | rfl | rfl
    rotate_left 8
    · obtain rfl : s = -8 := hs.out
      go_wp2
      go_ret
      exact ⟨_, rfl, ho, hg⟩
    · obtain rfl : s = 56 := hs.out
      have HO := Lib.hid (own_below ho ((Below.refl _ _).alloc (Nat.le_refl _) (.cells #[.int .u8 (IntKind.u64.wrap n / 72057594037927936 % 256)] 5)))
      have HN := Lib.hid (Ik.of_block (k := .u8) (l := [IntKind.u64.wrap n / 72057594037927936 % 256]) (new_at (W := wr) rfl (.cells #[.int .u8 (IntKind.u64.wrap n / 72057594037927936 % 256)] 5)))
      have hgs : w.heap.size ≤ (wr.alloc (.cells #[.int .u8 (IntKind.u64.wrap n / 72057594037927936 % 256)] 5)).heap.size := by simp; omega
      clear ho hs
      go_upto_region 5 with fail
      go_wp2_with (at_builtin; go_loud (refine app_bt rfl _ _ rfl w.heap.size 0 _ _ rfl HO.out _ 1 1 [IntKind.u64.wrap n / 72057594037927936 % 256] rfl rfl HN.out ?c1 hgs ?_))
      case c1 => omega
      intro v' w2 hown hb2 _
      have HG := Lib.hid (hg.trans (((Below.refl w.heap.size wr).alloc hz (.cells #[.int .u8 (IntKind.u64.wrap n / 72057594037927936 % 256)] 5)).trans hb2))
      have HW := Lib.hid hown
      obtain ⟨A', c', rfl, _, _, _⟩ := own_slice hown
      clear hown hb2 HO HN
      go_wp2_with fail
      go_roundg (8 - (0 + 1))
      case measure => omega
      case rel => exact ⟨0 + 1, by omega, by omega, ⟨_, rfl, Lib.hid (by omega)⟩, by simpa [byts] using HW.out, HG.out⟩
    · obtain rfl : s = 48 := hs.out
      have HO := Lib.hid (own_below ho ((Below.refl _ _).alloc (Nat.le_refl _) (.cells #[.int .u8 (IntKind.u64.wrap n / 281474976710656 % 256)] 5)))
      have HN := Lib.hid (Ik.of_block (k := .u8) (l := [IntKind.u64.wrap n / 281474976710656 % 256]) (new_at (W := wr) rfl (.cells #[.int .u8 (IntKind.u64.wrap n / 281474976710656 % 256)] 5)))
      have hgs : w.heap.size ≤ (wr.alloc (.cells #[.int .u8 (IntKind.u64.wrap n / 281474976710656 % 256)] 5)).heap.size := by simp; omega
      clear ho hs
      go_upto_region 5 with fail
      go_wp2_with (at_builtin; go_loud (refine app_bt rfl _ _ rfl w.heap.size 1 _ _ rfl HO.out _ 1 1 [IntKind.u64.wrap n / 281474976710656 % 256] rfl rfl HN.out ?c1 hgs ?_))
      case c1 => omega
      intro v' w2 hown hb2 _
      have HG := Lib.hid (hg.trans (((Below.refl w.heap.size wr).alloc hz (.cells #[.int .u8 (IntKind.u64.wrap n / 281474976710656 % 256)] 5)).trans hb2))
      have HW := Lib.hid hown
      obtain ⟨A', c', rfl, _, _, _⟩ := own_slice hown
      clear hown hb2 HO HN
      go_wp2_with fail
      go_roundg (8 - (1 + 1))
      case measure => omega
      case rel => exact ⟨1 + 1, by omega, by omega, ⟨_, rfl, Lib.hid (by omega)⟩, by simpa [byts] using HW.out, HG.out⟩
    · obtain rfl : s = 40 := hs.out
      have HO := Lib.hid (own_below ho ((Below.refl _ _).alloc (Nat.le_refl _) (.cells #[.int .u8 (IntKind.u64.wrap n / 1099511627776 % 256)] 5)))
      have HN := Lib.hid (Ik.of_block (k := .u8) (l := [IntKind.u64.wrap n / 1099511627776 % 256]) (new_at (W := wr) rfl (.cells #[.int .u8 (IntKind.u64.wrap n / 1099511627776 % 256)] 5)))
      have hgs : w.heap.size ≤ (wr.alloc (.cells #[.int .u8 (IntKind.u64.wrap n / 1099511627776 % 256)] 5)).heap.size := by simp; omega
      clear ho hs
      go_upto_region 5 with fail
      go_wp2_with (at_builtin; go_loud (refine app_bt rfl _ _ rfl w.heap.size 2 _ _ rfl HO.out _ 1 1 [IntKind.u64.wrap n / 1099511627776 % 256] rfl rfl HN.out ?c1 hgs ?_))
      case c1 => omega
      intro v' w2 hown hb2 _
      have HG := Lib.hid (hg.trans (((Below.refl w.heap.size wr).alloc hz (.cells #[.int .u8 (IntKind.u64.wrap n / 1099511627776 % 256)] 5)).trans hb2))
      have HW := Lib.hid hown
      obtain ⟨A', c', rfl, _, _, _⟩ := own_slice hown
      clear hown hb2 HO HN
      go_wp2_with fail
      go_roundg (8 - (2 + 1))
      case measure => omega
      case rel => exact ⟨2 + 1, by omega, by omega, ⟨_, rfl, Lib.hid (by omega)⟩, by simpa [byts] using HW.out, HG.out⟩
    · obtain rfl : s = 32 := hs.out
      have HO := Lib.hid (own_below ho ((Below.refl _ _).alloc (Nat.le_refl _) (.cells #[.int .u8 (IntKind.u64.wrap n / 4294967296 % 256)] 5)))
      have HN := Lib.hid (Ik.of_block (k := .u8) (l := [IntKind.u64.wrap n / 4294967296 % 256]) (new_at (W := wr) rfl (.cells #[.int .u8 (IntKind.u64.wrap n / 4294967296 % 256)] 5)))
      have hgs : w.heap.size ≤ (wr.alloc (.cells #[.int .u8 (IntKind.u64.wrap n / 4294967296 % 256)] 5)).heap.size := by simp; omega
      clear ho hs
      go_upto_region 5 with fail
      go_wp2_with (at_builtin; go_loud (refine app_bt rfl _ _ rfl w.heap.size 3 _ _ rfl HO.out _ 1 1 [IntKind.u64.wrap n / 4294967296 % 256] rfl rfl HN.out ?c1 hgs ?_))
      case c1 => omega
      intro v' w2 hown hb2 _
      have HG := Lib.hid (hg.trans (((Below.refl w.heap.size wr).alloc hz (.cells #[.int .u8 (IntKind.u64.wrap n / 4294967296 % 256)] 5)).trans hb2))
      have HW := Lib.hid hown
      obtain ⟨A', c', rfl, _, _, _⟩ := own_slice hown
      clear hown hb2 HO HN
      go_wp2_with fail
      go_roundg (8 - (3 + 1))
      case measure => omega
      case rel => exact ⟨3 + 1, by omega, by omega, ⟨_, rfl, Lib.hid (by omega)⟩, by simpa [byts] using HW.out, HG.out⟩
    · obtain rfl : s = 24 := hs.out
      have HO := Lib.hid (own_below ho ((Below.refl _ _).alloc (Nat.le_refl _) (.cells #[.int .u8 (IntKind.u64.wrap n / 16777216 % 256)] 5)))
      have HN := Lib.hid (Ik.of_block (k := .u8) (l := [IntKind.u64.wrap n / 16777216 % 256]) (new_at (W := wr) rfl (.cells #[.int .u8 (IntKind.u64.wrap n / 16777216 % 256)] 5)))
      have hgs : w.heap.size ≤ (wr.alloc (.cells #[.int .u8 (IntKind.u64.wrap n / 16777216 % 256)] 5)).heap.size := by simp; omega
      clear ho hs
      go_upto_region 5 with fail
      go_wp2_with (at_builtin; go_loud (refine app_bt rfl _ _ rfl w.heap.size 4 _ _ rfl HO.out _ 1 1 [IntKind.u64.wrap n / 16777216 % 256] rfl rfl HN.out ?c1 hgs ?_))
      case c1 => omega
      intro v' w2 hown hb2 _
      have HG := Lib.hid (hg.trans (((Below.refl w.heap.size wr).alloc hz (.cells #[.int .u8 (IntKind.u64.wrap n / 16777216 % 256)] 5)).trans hb2))
      have HW := Lib.hid hown
      obtain ⟨A', c', rfl, _, _, _⟩ := own_slice hown
      clear hown hb2 HO HN
      go_wp2_with fail
      go_roundg (8 - (4 + 1))
      case measure => omega
      case rel => exact ⟨4 + 1, by omega, by omega, ⟨_, rfl, Lib.hid (by omega)⟩, by simpa [byts] using HW.out, HG.out⟩
    · obtain rfl : s = 16 := hs.out
      have HO := Lib.hid (own_below ho ((Below.refl _ _).alloc (Nat.le_refl _) (.cells #[.int .u8 (IntKind.u64.wrap n / 65536 % 256)] 5)))
      have HN := Lib.hid (Ik.of_block (k := .u8) (l := [IntKind.u64.wrap n / 65536 % 256]) (new_at (W := wr) rfl (.cells #[.int .u8 (IntKind.u64.wrap n / 65536 % 256)] 5)))
      have hgs : w.heap.size ≤ (wr.alloc (.cells #[.int .u8 (IntKind.u64.wrap n / 65536 % 256)] 5)).heap.size := by simp; omega
      clear ho hs
      go_upto_region 5 with fail
      go_wp2_with (at_builtin; go_loud (refine app_bt rfl _ _ rfl w.heap.size 5 _ _ rfl HO.out _ 1 1 [IntKind.u64.wrap n / 65536 % 256] rfl rfl HN.out ?c1 hgs ?_))
      case c1 => omega
      intro v' w2 hown hb2 _
      have HG := Lib.hid (hg.trans (((Below.refl w.heap.size wr).alloc hz (.cells #[.int .u8 (IntKind.u64.wrap n / 65536 % 256)] 5)).trans hb2))
      have HW := Lib.hid hown
      obtain ⟨A', c', rfl, _, _, _⟩ := own_slice hown
      clear hown hb2 HO HN
      go_wp2_with fail
      go_roundg (8 - (5 + 1))
      case measure => omega
      case rel => exact ⟨5 + 1, by omega, by omega, ⟨_, rfl, Lib.hid (by omega)⟩, by simpa [byts] using HW.out, HG.out⟩
    · obtain rfl : s = 8 := hs.out
      have HO := Lib.hid (own_below ho ((Below.refl _ _).alloc (Nat.le_refl _) (.cells #[.int .u8 (IntKind.u64.wrap n / 256 % 256)] 5)))
      have HN := Lib.hid (Ik.of_block (k := .u8) (l := [IntKind.u64.wrap n / 256 % 256]) (new_at (W := wr) rfl (.cells #[.int .u8 (IntKind.u64.wrap n / 256 % 256)] 5)))
      have hgs : w.heap.size ≤ (wr.alloc (.cells #[.int .u8 (IntKind.u64.wrap n / 256 % 256)] 5)).heap.size := by simp; omega
      clear ho hs
      go_upto_region 5 with fail
      go_wp2_with (at_builtin; go_loud (refine app_bt rfl _ _ rfl w.heap.size 6 _ _ rfl HO.out _ 1 1 [IntKind.u64.wrap n / 256 % 256] rfl rfl HN.out ?c1 hgs ?_))
      case c1 => omega
      intro v' w2 hown hb2 _
      have HG := Lib.hid (hg.trans (((Below.refl w.heap.size wr).alloc hz (.cells #[.int .u8 (IntKind.u64.wrap n / 256 % 256)] 5)).trans hb2))
      have HW := Lib.hid hown
      obtain ⟨A', c', rfl, _, _, _⟩ := own_slice hown
      clear hown hb2 HO HN
      go_wp2_with fail
      go_roundg (8 - (6 + 1))
      case measure => omega
      case rel => exact ⟨6 + 1, by omega, by omega, ⟨_, rfl, Lib.hid (by omega)⟩, by simpa [byts] using HW.out, HG.out⟩
    · obtain rfl : s = 0 := hs.out
      have HO := Lib.hid (own_below ho ((Below.refl _ _).alloc (Nat.le_refl _) (.cells #[.int .u8 (IntKind.u64.wrap n % 256)] 5)))
      have HN := Lib.hid (Ik.of_block (k := .u8) (l := [IntKind.u64.wrap n % 256]) (new_at (W := wr) rfl (.cells #[.int .u8 (IntKind.u64.wrap n % 256)] 5)))
      have hgs : w.heap.size ≤ (wr.alloc (.cells #[.int .u8 (IntKind.u64.wrap n % 256)] 5)).heap.size := by simp; omega
      clear ho hs
      go_upto_region 5 with fail
      go_wp2_with (at_builtin; go_loud (refine app_bt rfl _ _ rfl w.heap.size 7 _ _ rfl HO.out _ 1 1 [IntKind.u64.wrap n % 256] rfl rfl HN.out ?c1 hgs ?_))
      case c1 => omega
      intro v' w2 hown hb2 _
      have HG := Lib.hid (hg.trans (((Below.refl w.heap.size wr).alloc hz (.cells #[.int .u8 (IntKind.u64.wrap n % 256)] 5)).trans hb2))
      have HW := Lib.hid hown
      obtain ⟨A', c', rfl, _, _, _⟩ := own_slice hown
      clear hown hb2 HO HN
      go_wp2_with fail
      go_roundg (8 - (7 + 1))
      case measure => omega
      case rel => exact ⟨7 + 1, by omega, by omega, ⟨_, rfl, Lib.hid (by omega)⟩, by simpa [byts] using HW.out, HG.out⟩
set_option maxRecDepth 100000 in
set_option maxHeartbeats 16000000 in
theorem rbytes58 (n : Int) (w : World) (n0 : -9223372036854775808 ≤ n) (n1 : n ≤ 9223372036854775807) : Calls Try.prog 58 #[.int .i64 n] w fun r w' => ∃ v, r = .returned v ∧ w'.ownsRow w.heap.size 5 1 v 8 ((byts n).map (Value.int .u8)) ∧ Below w.heap.size w w' := by
  go_enter Try.func58, Try.ntmps58
  go_upto_region 3 with fail
  go_loopg [3, 4] 8 (fun gk v3 v4 wr => ∃ i : Nat, i ≤ 8 ∧ 8 - i ≤ gk ∧ (∃ s : Int, v4 = .int .i64 s ∧ Hid (s = 56 - 8 * (i : Int))) ∧ wr.ownsRow w.heap.size 5 1 v3 i (((byts n).take i).map (Value.int .u8)) ∧ Below w.heap.size w wr)
  case atStart => exact ⟨0, by omega, by omega, ⟨56, rfl, Lib.hid rfl⟩, World.ownsRow_nil _ _ _ _, Below.refl _ _⟩
  case round =>
    obtain ⟨i, hi, hgk, ⟨s, rfl, hs⟩, ho, hg⟩ := hrel
    obtain ⟨A, c, rfl, hc, _, _, _, _⟩ := own_bt ho
    have hz := hg.size
    rcases (by omega : i = 0 ∨ i = 1 ∨ i = 2 ∨ i = 3 ∨ i = 4 ∨ i = 5 ∨ i = 6 ∨ i = 7 ∨ i = 8) with rfl | rfl | rfl | rfl | rfl | rfl | rfl | rfl | rfl
    rotate_left 8
    · obtain rfl : s = -8 := hs.out
      go_wp2
      go_ret
      exact ⟨_, rfl, ho, hg⟩
    · obtain rfl : s = 56 := hs.out
      have HO := Lib.hid (own_below ho ((Below.refl _ _).alloc (Nat.le_refl _) (.cells #[.int .u8 (IntKind.u64.wrap n / 72057594037927936 % 256)] 5)))
      have HN := Lib.hid (Ik.of_block (k := .u8) (l := [IntKind.u64.wrap n / 72057594037927936 % 256]) (new_at (W := wr) rfl (.cells #[.int .u8 (IntKind.u64.wrap n / 72057594037927936 % 256)] 5)))
      have hgs : w.heap.size ≤ (wr.alloc (.cells #[.int .u8 (IntKind.u64.wrap n / 72057594037927936 % 256)] 5)).heap.size := by simp; omega
      clear ho hs
      go_upto_region 5 with fail
      go_wp2_with (at_builtin; go_loud (refine app_bt rfl _ _ rfl w.heap.size 0 _ _ rfl HO.out _ 1 1 [IntKind.u64.wrap n / 72057594037927936 % 256] rfl rfl HN.out ?c1 hgs ?_))
      case c1 => omega
      intro v' w2 hown hb2 _
      have HG := Lib.hid (hg.trans (((Below.refl w.heap.size wr).alloc hz (.cells #[.int .u8 (IntKind.u64.wrap n / 72057594037927936 % 256)] 5)).trans hb2))
      have HW := Lib.hid hown
      obtain ⟨A', c', rfl, _, _, _⟩ := own_slice hown
      clear hown hb2 HO HN
      go_wp2_with fail
      go_roundg (8 - (0 + 1))
      case measure => omega
      case rel => exact ⟨0 + 1, by omega, by omega, ⟨_, rfl, Lib.hid (by omega)⟩, by simpa [byts] using HW.out, HG.out⟩
    · obtain rfl : s = 48 := hs.out
      have HO := Lib.hid (own_below ho ((Below.refl _ _).alloc (Nat.le_refl _) (.cells #[.int .u8 (IntKind.u64.wrap n / 281474976710656 % 256)] 5)))
      have HN := Lib.hid (Ik.of_block (k := .u8) (l := [IntKind.u64.wrap n / 281474976710656 % 256]) (new_at (W := wr) rfl (.cells #[.int .u8 (IntKind.u64.wrap n / 281474976710656 % 256)] 5)))
      have hgs : w.heap.size ≤ (wr.alloc (.cells #[.int .u8 (IntKind.u64.wrap n / 281474976710656 % 256)] 5)).heap.size := by simp; omega
      clear ho hs
      go_upto_region 5 with fail
      go_wp2_with (at_builtin; go_loud (refine app_bt rfl _ _ rfl w.heap.size 1 _ _ rfl HO.out _ 1 1 [IntKind.u64.wrap n / 281474976710656 % 256] rfl rfl HN.out ?c1 hgs ?_))
      case c1 => omega
      intro v' w2 hown hb2 _
      have HG := Lib.hid (hg.trans (((Below.refl w.heap.size wr).alloc hz (.cells #[.int .u8 (IntKind.u64.wrap n / 281474976710656 % 256)] 5)).trans hb2))
      have HW := Lib.hid hown
      obtain ⟨A', c', rfl, _, _, _⟩ := own_slice hown
      clear hown hb2 HO HN
      go_wp2_with fail
      go_roundg (8 - (1 + 1))
      case measure => omega
      case rel => exact ⟨1 + 1, by omega, by omega, ⟨_, rfl, Lib.hid (by omega)⟩, by simpa [byts] using HW.out, HG.out⟩
    · obtain rfl : s = 40 := hs.out
      have HO := Lib.hid (own_below ho ((Below.refl _ _).alloc (Nat.le_refl _) (.cells #[.int .u8 (IntKind.u64.wrap n / 1099511627776 % 256)] 5)))
      have HN := Lib.hid (Ik.of_block (k := .u8) (l := [IntKind.u64.wrap n / 1099511627776 % 256]) (new_at (W := wr) rfl (.cells #[.int .u8 (IntKind.u64.wrap n / 1099511627776 % 256)] 5)))
      have hgs : w.heap.size ≤ (wr.alloc (.cells #[.int .u8 (IntKind.u64.wrap n / 1099511627776 % 256)] 5)).heap.size := by simp; omega
      clear ho hs
      go_upto_region 5 with fail
      go_wp2_with (at_builtin; go_loud (refine app_bt rfl _ _ rfl w.heap.size 2 _ _ rfl HO.out _ 1 1 [IntKind.u64.wrap n / 1099511627776 % 256] rfl rfl HN.out ?c1 hgs ?_))
      case c1 => omega
      intro v' w2 hown hb2 _
      have HG := Lib.hid (hg.trans (((Below.refl w.heap.size wr).alloc hz (.cells #[.int .u8 (IntKind.u64.wrap n / 1099511627776 % 256)] 5)).trans hb2))
      have HW := Lib.hid hown
      obtain ⟨A', c', rfl, _, _, _⟩ := own_slice hown
      clear hown hb2 HO HN
      go_wp2_with fail
      go_roundg (8 - (2 + 1))
      case measure => omega
      case rel => exact ⟨2 + 1, by omega, by omega, ⟨_, rfl, Lib.hid (by omega)⟩, by simpa [byts] using HW.out, HG.out⟩
    · obtain rfl : s = 32 := hs.out
      have HO := Lib.hid (own_below ho ((Below.refl _ _).alloc (Nat.le_refl _) (.cells #[.int .u8 (IntKind.u64.wrap n / 4294967296 % 256)] 5)))
      have HN := Lib.hid (Ik.of_block (k := .u8) (l := [IntKind.u64.wrap n / 4294967296 % 256]) (new_at (W := wr) rfl (.cells #[.int .u8 (IntKind.u64.wrap n / 4294967296 % 256)] 5)))
      have hgs : w.heap.size ≤ (wr.alloc (.cells #[.int .u8 (IntKind.u64.wrap n / 4294967296 % 256)] 5)).heap.size := by simp; omega
      clear ho hs
      go_upto_region 5 with fail
      go_wp2_with (at_builtin; go_loud (refine app_bt rfl _ _ rfl w.heap.size 3 _ _ rfl HO.out _ 1 1 [IntKind.u64.wrap n / 4294967296 % 256] rfl rfl HN.out ?c1 hgs ?_))
      case c1 => omega
      intro v' w2 hown hb2 _
      have HG := Lib.hid (hg.trans (((Below.refl w.heap.size wr).alloc hz (.cells #[.int .u8 (IntKind.u64.wrap n / 4294967296 % 256)] 5)).trans hb2))
      have HW := Lib.hid hown
      obtain ⟨A', c', rfl, _, _, _⟩ := own_slice hown
      clear hown hb2 HO HN
      go_wp2_with fail
      go_roundg (8 - (3 + 1))
      case measure => omega
      case rel => exact ⟨3 + 1, by omega, by omega, ⟨_, rfl, Lib.hid (by omega)⟩, by simpa [byts] using HW.out, HG.out⟩
    · obtain rfl : s = 24 := hs.out
      have HO := Lib.hid (own_below ho ((Below.refl _ _).alloc (Nat.le_refl _) (.cells #[.int .u8 (IntKind.u64.wrap n / 16777216 % 256)] 5)))
      have HN := Lib.hid (Ik.of_block (k := .u8) (l := [IntKind.u64.wrap n / 16777216 % 256]) (new_at (W := wr) rfl (.cells #[.int .u8 (IntKind.u64.wrap n / 16777216 % 256)] 5)))
      have hgs : w.heap.size ≤ (wr.alloc (.cells #[.int .u8 (IntKind.u64.wrap n / 16777216 % 256)] 5)).heap.size := by simp; omega
      clear ho hs
      go_upto_region 5 with fail
      go_wp2_with (at_builtin; go_loud (refine app_bt rfl _ _ rfl w.heap.size 4 _ _ rfl HO.out _ 1 1 [IntKind.u64.wrap n / 16777216 % 256] rfl rfl HN.out ?c1 hgs ?_))
      case c1 => omega
      intro v' w2 hown hb2 _
      have HG := Lib.hid (hg.trans (((Below.refl w.heap.size wr).alloc hz (.cells #[.int .u8 (IntKind.u64.wrap n / 16777216 % 256)] 5)).trans hb2))
      have HW := Lib.hid hown
      obtain ⟨A', c', rfl, _, _, _⟩ := own_slice hown
      clear hown hb2 HO HN
      go_wp2_with fail
      go_roundg (8 - (4 + 1))
      case measure => omega
      case rel => exact ⟨4 + 1, by omega, by omega, ⟨_, rfl, Lib.hid (by omega)⟩, by simpa [byts] using HW.out, HG.out⟩
    · obtain rfl : s = 16 := hs.out
      have HO := Lib.hid (own_below ho ((Below.refl _ _).alloc (Nat.le_refl _) (.cells #[.int .u8 (IntKind.u64.wrap n / 65536 % 256)] 5)))
      have HN := Lib.hid (Ik.of_block (k := .u8) (l := [IntKind.u64.wrap n / 65536 % 256]) (new_at (W := wr) rfl (.cells #[.int .u8 (IntKind.u64.wrap n / 65536 % 256)] 5)))
      have hgs : w.heap.size ≤ (wr.alloc (.cells #[.int .u8 (IntKind.u64.wrap n / 65536 % 256)] 5)).heap.size := by simp; omega
      clear ho hs
      go_upto_region 5 with fail
      go_wp2_with (at_builtin; go_loud (refine app_bt rfl _ _ rfl w.heap.size 5 _ _ rfl HO.out _ 1 1 [IntKind.u64.wrap n / 65536 % 256] rfl rfl HN.out ?c1 hgs ?_))
      case c1 => omega
      intro v' w2 hown hb2 _
      have HG := Lib.hid (hg.trans (((Below.refl w.heap.size wr).alloc hz (.cells #[.int .u8 (IntKind.u64.wrap n / 65536 % 256)] 5)).trans hb2))
      have HW := Lib.hid hown
      obtain ⟨A', c', rfl, _, _, _⟩ := own_slice hown
      clear hown hb2 HO HN
      go_wp2_with fail
      go_roundg (8 - (5 + 1))
      case measure => omega
      case rel => exact ⟨5 + 1, by omega, by omega, ⟨_, rfl, Lib.hid (by omega)⟩, by simpa [byts] using HW.out, HG.out⟩
    · obtain rfl : s = 8 := hs.out
      have HO := Lib.hid (own_below ho ((Below.refl _ _).alloc (Nat.le_refl _) (.cells #[.int .u8 (IntKind.u64.wrap n / 256 % 256)] 5)))
      have HN := Lib.hid (Ik.of_block (k := .u8) (l := [IntKind.u64.wrap n / 256 % 256]) (new_at (W := wr) rfl (.cells #[.int .u8 (IntKind.u64.wrap n / 256 % 256)] 5)))
      have hgs : w.heap.size ≤ (wr.alloc (.cells #[.int .u8 (IntKind.u64.wrap n / 256 % 256)] 5)).heap.size := by simp; omega
      clear ho hs
      go_upto_region 5 with fail
      go_wp2_with (at_builtin; go_loud (refine app_bt rfl _ _ rfl w.heap.size 6 _ _ rfl HO.out _ 1 1 [IntKind.u64.wrap n / 256 % 256] rfl rfl HN.out ?c1 hgs ?_))
      case c1 => omega
      intro v' w2 hown hb2 _
      have HG := Lib.hid (hg.trans (((Below.refl w.heap.size wr).alloc hz (.cells #[.int .u8 (IntKind.u64.wrap n / 256 % 256)] 5)).trans hb2))
      have HW := Lib.hid hown
      obtain ⟨A', c', rfl, _, _, _⟩ := own_slice hown
      clear hown hb2 HO HN
      go_wp2_with fail
      go_roundg (8 - (6 + 1))
      case measure => omega
      case rel => exact ⟨6 + 1, by omega, by omega, ⟨_, rfl, Lib.hid (by omega)⟩, by simpa [byts] using HW.out, HG.out⟩
    · obtain rfl : s = 0 := hs.out
      have HO := Lib.hid (own_below ho ((Below.refl _ _).alloc (Nat.le_refl _) (.cells #[.int .u8 (IntKind.u64.wrap n % 256)] 5)))
      have HN := Lib.hid (Ik.of_block (k := .u8) (l := [IntKind.u64.wrap n % 256]) (new_at (W := wr) rfl (.cells #[.int .u8 (IntKind.u64.wrap n % 256)] 5)))
      have hgs : w.heap.size ≤ (wr.alloc (.cells #[.int .u8 (IntKind.u64.wrap n % 256)] 5)).heap.size := by simp; omega
      clear ho hs
      go_upto_region 5 with fail
      go_wp2_with (at_builtin; go_loud (refine app_bt rfl _ _ rfl w.heap.size 7 _ _ rfl HO.out _ 1 1 [IntKind.u64.wrap n % 256] rfl rfl HN.out ?c1 hgs ?_))
      case c1 => omega
      intro v' w2 hown hb2 _
      have HG := Lib.hid (hg.trans (((Below.refl w.heap.size wr).alloc hz (.cells #[.int .u8 (IntKind.u64.wrap n % 256)] 5)).trans hb2))
      have HW := Lib.hid hown
      obtain ⟨A', c', rfl, _, _, _⟩ := own_slice hown
      clear hown hb2 HO HN
      go_wp2_with fail
      go_roundg (8 - (7 + 1))
      case measure => omega
      case rel => exact ⟨7 + 1, by omega, by omega, ⟨_, rfl, Lib.hid (by omega)⟩, by simpa [byts] using HW.out, HG.out⟩
end Go.Proofs.Ytamajedopofcoaa
