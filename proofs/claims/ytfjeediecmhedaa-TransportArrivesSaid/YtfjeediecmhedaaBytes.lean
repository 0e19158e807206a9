/-
  The contracts of frame, goOn, bytes.Clone, bytes.Equal and of the reference's Frame. No condition but the slices' shape.
-/
import Derived.Test.YtfjeediecmhedaaBase
set_option linter.unusedVariables false
set_option linter.unusedSimpArgs false
namespace Go.Proofs.Ytfjeediecmhedaa
open Go.RowKit
/-- a byte -/
def isB (x : Int) : Bool := decide (0 ≤ x) && decide (x ≤ 255)
/-- filled up to 8 bytes -/
def pad (l : List Int) : List Int := l ++ List.replicate (8 - l.length) 0
theorem pad_len {l : List Int} (h : l.length ≤ 8) : (pad l).length = 8 := by simp [pad]; omega
theorem mk8 (w : World) : (Instr.makeSlice 22 (.int .i64 8) (.int .i64 8)).run Try.prog w = .ok (.slice (some ⟨w.heap.size, 0, none⟩) 8 8) (w.alloc (.cells #[.int .u8 0, .int .u8 0, .int .u8 0, .int .u8 0, .int .u8 0, .int .u8 0, .int .u8 0, .int .u8 0] 5)) := by kernel_rfl
theorem new_at {W : World} {n : Nat} (hn : n = W.heap.size) (o : Obj) : (W.alloc o).heap[n]? = some o := by subst hn; exact heap_alloc_new _ _
theorem one_u8 (l : List Int) : ∀ v ∈ l.map (Value.int .u8), v.oneCell' = true := by
  intro v hv
  obtain ⟨x, _, rfl⟩ := List.mem_map.1 hv
  rfl
/-- the bytes of a slice, as the laws on cells want them -/
theorem Bt.news {w : World} {b o : Nat} {l : List Int} (h : Bt w (some ⟨b, o, none⟩) l) : ∀ j v, (l.map (Value.int .u8))[j]? = some v → w.cell? ((⟨b, o, none⟩ : Addr).add j) = some v := by
  intro j v hj
  rw [WideShapes.add_plain]
  rw [List.getElem?_map] at hj
  obtain ⟨x, hx, rfl⟩ := Option.map_eq_some_iff.1 hj
  have hlt : j < l.length := (List.getElem?_eq_some_iff.1 hx).1
  obtain ⟨b', o', e, _, hc⟩ := h (by omega)
  injection e with e; injection e with e1 e2
  subst e1; subst e2
  exact hc j x hx
/-- a block of bytes read as a slice -/
theorem Bt.of_block {w : World} {g : Nat} {l : List Int} {t : TypeId} {f : Nat × Nat} (h : w.heap[g]? = some (.cells (l.map (Value.int .u8)).toArray t f)) : Bt w (some ⟨g, 0, none⟩) l := fun _ => by
  refine ⟨g, 0, rfl, (Array.getElem?_eq_some_iff.1 h).1, fun i x hx => ?_⟩
  have hlt : i < l.length := (List.getElem?_eq_some_iff.1 hx).1
  have hx' : l[i] = x := by
    have := List.getElem?_eq_getElem hlt
    rw [this] at hx; simpa using hx
  simp [World.cell?, h, List.getElem?_map, hx]
theorem pad_splice (l : List Int) (h : l.length ≤ 8) : splice [Value.int .u8 0, .int .u8 0, .int .u8 0, .int .u8 0, .int .u8 0, .int .u8 0, .int .u8 0, .int .u8 0] 0 (l.map (Value.int .u8)) = (pad l).map (Value.int .u8) := by
  have e : [Value.int .u8 0, .int .u8 0, .int .u8 0, .int .u8 0, .int .u8 0, .int .u8 0, .int .u8 0, .int .u8 0] = List.replicate 8 (Value.int .u8 0) := rfl
  rw [e]
  simp only [splice, pad, List.take_zero, List.nil_append, List.length_map, Nat.zero_add, List.drop_replicate, List.map_append, List.map_replicate]
/-- what is returned is a slice of these bytes, in a block of the call's own -/
def BPost (l : List Int) (w : World) (r : Ending) (w' : World) : Prop :=
  ∃ A n c, r = .returned (.slice A n c) ∧ n = l.length ∧ n ≤ c ∧ c ≤ maxLen ∧ Bt w' A l ∧ Fr w.heap.size A ∧ Below w.heap.size w w'
set_option maxHeartbeats 1000000 in
theorem frame42 (A : Option Addr) (n c : Nat) (l : List Int) (w : World) (hl : l.length = n) (h8 : n ≤ 8) (hb : Bt w A l) :
    Calls Try.prog 42 #[.slice A n c] w fun r w' => ∃ g, r = .returned (.slice (some ⟨g, 0, none⟩) 8 8) ∧ w.heap.size ≤ g ∧ g < w'.heap.size ∧ Bt w' (some ⟨g, 0, none⟩) (pad l) ∧ Below w.heap.size w w' := by
  have hm := mk8
  have HB := Lib.hid hb
  have HL := Lib.hid hl
  clear hb hl
  go_enter Try.func42, Try.ntmps42
  go_wp2_with (with_reducible refine wpList_copy_splice rfl (.tmp 5) (.tmp 6) 22 22 rfl 5 Try.underlying22 (by kernel_rfl) (some ⟨w.heap.size, 0, none⟩) A 8 8 n c rfl rfl w.heap.size 0 [.int .u8 0, .int .u8 0, .int .u8 0, .int .u8 0, .int .u8 0, .int .u8 0, .int .u8 0, .int .u8 0] 5 ?c1 (l.map (Value.int .u8)) ?c2 ?c3 ?c4 ?c5 w.heap.size w ?c6 (Nat.le_refl _) ?_)
  case c1 => exact new_at rfl _
  case c2 => rw [List.length_map, HL.out]; exact (Nat.min_eq_left h8).symm
  case c3 =>
    intro h0
    obtain ⟨b, o, rfl, hbl⟩ := HB.out.addr (by simpa using h0)
    exact ⟨_, rfl, fun j x hj => (World.cell?_alloc_lt _ _ _ (by simpa [WideShapes.add_plain] using hbl)).trans (HB.out.news j _ (by simp [hj]))⟩
  case c4 => simp [HL.out]; omega
  case c5 => exact one_u8 l
  case c6 => go_grown
  intro w2 HG hb2
  go_wp2
  go_ret
  have hg := HG.out
  rw [pad_splice l (by rw [HL.out]; exact h8)] at hg
  exact ⟨w.heap.size, rfl, Nat.le_refl _, (Array.getElem?_eq_some_iff.1 hg).1, Bt.of_block hg, hb2⟩
theorem conv_bytes {w : World} {A : Option Addr} {l : List Int} (hb : Bt w A l) (n c : Nat) (hl : l.length = n) : (convert 22 9 (.slice A n c)).run Try.prog w = .ok (.string (strOfNums l)) w := by
  by_cases h0 : 0 < l.length
  · obtain ⟨b, o, rfl, _, hc⟩ := hb h0
    refine run_convert_bytes_arg w 22 5 Try.underlying22 Try.underlying5 b o n c l hl (fun i hi => hc i _ ?_) 9 Try.underlying9
    simp [List.getD, List.getElem?_eq_getElem (show i < l.length by omega)]
  · obtain rfl : l = [] := List.eq_nil_of_length_eq_zero (by omega)
    obtain rfl : n = 0 := by simpa using hl.symm
    cases A with
    | none => exact run_convert_bytes_nil w 22 5 Try.underlying22 Try.underlying5 0 c 9 Try.underlying9
    | some a =>
      rw [run_convert_bytes_string w 22 9 5 (some a) 0 c Try.underlying22 Try.underlying5 Try.underlying9]
      exact run_bytesToString w a 0 c [] (by rfl)
theorem equal18 (A B : Option Addr) (n c d : Nat) (l : List Int) (w : World) (hl : l.length = n) (ha : Bt w A l) (hb : Bt w B l) :
    Calls Try.prog 18 #[.slice A n c, .slice B n d] w fun r w' => r = .returned (.bool true) ∧ w = w' := by
  have k1 := conv_bytes ha n c hl
  have k2 := conv_bytes hb n d hl
  generalize strOfNums l = S at k1 k2
  clear hl ha hb
  go_enter Try.func18, Try.ntmps18
  go_wp2
  go_ret
  exact ⟨ret_bool (by simp), rfl⟩
theorem u8_of {x : Int} (h0 : 0 ≤ x) (h1 : x ≤ 255) : IntKind.u8.wrap x = x := by simp [IntKind.wrap, IntKind.signed, IntKind.bits]; omega
theorem goOn34 (b g : Int) (w : World) (b0 : 0 ≤ b) (b1 : b ≤ 255) (g0 : 0 ≤ g) (g1 : g ≤ 255) :
    Calls Try.prog 34 #[.int .i64 b, .int .i64 g] w fun r w' => ∃ k, r = .returned (.slice (some ⟨k, 0, none⟩) 8 8) ∧ w.heap.size ≤ k ∧ k < w'.heap.size ∧ Bt w' (some ⟨k, 0, none⟩) (pad [48, b, g]) ∧ Below w.heap.size w w' := by
  have u1 := u8_of b0 b1
  have u2 := u8_of g0 g1
  go_enter Try.func34, Try.ntmps34
  go_wp2_with fail
  refine (frame42 _ 3 3 [48, b, g] _ rfl (by omega) (Bt.of_block (new_at rfl _))).mono ?_
  rintro r w1 ⟨k, rfl, hk0, hk1, hk, hb1⟩
  have hg1 := chain (w := w) (by go_grown) hb1
  simp at hk0
  go_wp2
  go_ret
  exact ⟨k, rfl, by omega, hk1, hk, hg1⟩
theorem info5 : (Try.prog.info? 5).map (fun i => (i.zero, i.size, i.bytes)) = some (some (.int .u8 0), 1, 1) := by kernel_rfl
/-- a slice of these bytes that the call has made -/
def Own (w : World) (B : Nat) (v : Value) (l : List Int) : Prop := w.ownsRow B 5 1 v l.length (l.map (Value.int .u8))
theorem Own.bt {w : World} {B : Nat} {v : Value} {l : List Int} (h : Own w B v l) : ∃ A c, v = .slice A l.length c ∧ l.length ≤ c ∧ c ≤ maxLen ∧ Bt w A l ∧ Fr B A ∧ (∀ b o, A = some ⟨b, o, none⟩ → b < w.heap.size) := by
  obtain ⟨A, c, hv, hA, hc, hm⟩ := own_slice h
  refine ⟨A, c, hv, hc, hm, fun h0 => ?_, fun b o e => ?_, fun b o e => ?_⟩
  · obtain ⟨b, rfl, _, hb, hcell⟩ := hA h0
    refine ⟨b, 0, rfl, hb, fun i x hx => ?_⟩
    rw [Nat.zero_add]
    exact hcell i _ (by simp [hx])
  · subst e
    exact own_ge h b (by rw [hv]; rfl)
  · subst e
    exact own_lt h b (by rw [hv]; rfl)
set_option maxHeartbeats 1000000 in
theorem clone38 (A : Option Addr) (n c : Nat) (l : List Int) (w : World) (hl : l.length = n) (hb : Bt w A l) (hn : n ≤ 1099511627776) :
    Calls Try.prog 38 #[.slice A n c] w fun r w' => ∃ v, r = .returned v ∧ Own w' w.heap.size v l ∧ Below w.heap.size w w' := by
  obtain ⟨i0, hi, hz0, hz1, hz2⟩ := info_parts info5
  have q := fun (w : World) (a : Option Addr) (n c : Nat) => Lib.run_eql_slice_nil (P := Try.prog) w 22 5 a n c 0 0 Try.underlying22
  have HL := Lib.hid hl
  cases A with
  | none =>
    have h0 : l = [] := by
      cases l with
      | nil => rfl
      | cons x l => obtain ⟨b, o, e, _⟩ := hb (by simp); cases e
    subst h0
    go_enter Try.func38, Try.ntmps38
    go_wp2
    go_ret
    exact ⟨_, rfl, World.ownsRow_nil _ _ _ _, Below.refl _ _⟩
  | some a =>
    have HN : Hid (∀ j v, (l.map (Value.int .u8))[j]? = some v → w.cell? (a.add j) = some v) := Lib.hid (fun j v hj => by
      have h0 : 0 < l.length := by
        have := (List.getElem?_eq_some_iff.1 hj).1
        simp at this; omega
      obtain ⟨b, o, e, _, _⟩ := id hb h0
      injection e with e; subst e
      exact hb.news j v hj)
    have HB : Hid (0 < l.length → a.block < w.heap.size) := Lib.hid (fun h0 => by
      obtain ⟨b, o, e, h, _⟩ := hb h0
      injection e with e; subst e
      exact h)
    clear hb hl
    go_enter Try.func38, Try.ntmps38
    go_wp2_with (at_builtin; go_loud (refine wpList_append_own _ rfl _ _ 22 rfl w.heap.size 5 i0 (.int .u8 0) 1 1 Try.underlying22 hi hz0 hz1 hz2 rfl (by decide) _ 0 [] rfl (World.ownsRow_made _ #[] 0 (Nat.le_refl _) (by simp [maxLen]) rfl) a n c (l.map (Value.int .u8)) rfl (by simp [HL.out]) ?c1 ?c2 ?c3 ?c4 ?c5 ?_))
    case c1 =>
      intro j x hj
      have h0 : 0 < l.length := by
        have := (List.getElem?_eq_some_iff.1 hj).1
        simp at this; omega
      exact (World.cell?_alloc_lt _ _ _ (by have := HB.out h0; unfold Addr.add; split <;> simpa using this)).trans (HN.out j _ (by simpa using hj))
    case c2 => simp; intro x _; rfl
    case c3 => simp [maxLen]; omega
    case c4 => omega
    case c5 => simp
    · intro v' w3 hown' hgrow _
      have hb3 : Below w.heap.size w w3 := (show Below w.heap.size w _ from by go_grown).grown hgrow (by simp) (by intro k hk; simp [Value.ownBlock] at hk; omega)
      go_wp2
      go_ret
      exact ⟨v', rfl, by simpa [Own, HL.out] using hown', hb3⟩
theorem pad_step (l : List Int) (k : Nat) : (l ++ List.replicate k 0).map (Value.int .u8) ++ [Value.int .u8 0] = (l ++ List.replicate (k + 1) 0).map (Value.int .u8) := by
  rw [List.replicate_succ']; simp
theorem zero_news (W : World) {n : Nat} (hn : n = W.heap.size) : ∀ j u, [Value.int .u8 0][j]? = some u → (W.alloc (.cells #[Value.int .u8 0] 5)).cell? ((⟨n, 0, none⟩ : Addr).add j) = some u := cells_new hn [Value.int .u8 0] 5
set_option maxHeartbeats 1000000 in
theorem frame40 (a : Addr) (n c : Nat) (l : List Int) (w : World) (hl : l.length = n) (hb : Bt w (some a) l) (h8 : n ≤ 8) :
    Calls Try.prog 40 #[.slice (some a) n c] w fun r w' => ∃ v, r = .returned v ∧ Own w' w.heap.size v (pad l) ∧ Below w.heap.size w w' := by
  obtain ⟨i0, hi, hz0, hz1, hz2⟩ := info_parts info5
  have HL := Lib.hid hl
  have HN : Hid (∀ j v, (l.map (Value.int .u8))[j]? = some v → w.cell? (a.add j) = some v) := Lib.hid (fun j v hj => by
    have h0 : 0 < l.length := by
      have := (List.getElem?_eq_some_iff.1 hj).1
      simp at this; omega
    obtain ⟨b, o, e, _, _⟩ := id hb h0
    injection e with e; subst e
    exact hb.news j v hj)
  have HB' : Hid (0 < l.length → a.block < w.heap.size) := Lib.hid (fun h0 => by
    obtain ⟨b, o, e, h, _⟩ := hb h0
    injection e with e; subst e
    exact h)
  clear hb hl
  go_enter Try.func40, Try.ntmps40
  go_wp2_with (at_builtin; go_loud (refine wpList_append_own _ rfl _ _ 22 rfl w.heap.size 5 i0 (.int .u8 0) 1 1 Try.underlying22 hi hz0 hz1 hz2 rfl (by decide) _ 0 [] rfl (World.ownsRow_made _ #[] 0 (Nat.le_refl _) (by simp [maxLen]) rfl) a n c (l.map (Value.int .u8)) rfl (by simp [HL.out]) ?c1 ?c2 ?c3 ?c4 ?c5 ?_))
  case c1 =>
    intro j x hj
    have h0 : 0 < l.length := by
      have := (List.getElem?_eq_some_iff.1 hj).1
      simp at this; omega
    exact (World.cell?_alloc_lt _ _ _ (by have := HB'.out h0; unfold Addr.add; split <;> simpa using this)).trans (HN.out j _ (by simpa using hj))
  case c2 => simp; intro x _; rfl
  case c3 => simp [maxLen]; omega
  case c4 => omega
  case c5 => simp
  · intro v' w3 hown' hgrow _
    have hb3 : Below w.heap.size w w3 := (show Below w.heap.size w _ from by go_grown).grown hgrow (by simp) (by intro k hk; simp [Value.ownBlock] at hk; omega)
    have hown : w3.ownsRow w.heap.size 5 1 v' n (l.map (Value.int .u8)) := by simpa using hown'
    obtain ⟨B, cc, rfl, hB, hcc, hmm⟩ := own_slice hown
    have HO := Lib.hid hown
    clear hown' hgrow hB hown
    go_wp2_with fail
    go_loopg [3] 8 (fun gk v wr => ∃ (m : Nat) (B : Option Addr) (cc : Nat), n ≤ m ∧ m ≤ 8 ∧ 8 - m ≤ gk ∧ v = .slice B m cc ∧ wr.ownsRow w.heap.size 5 1 (.slice B m cc) m ((l ++ List.replicate (m - n) 0).map (Value.int .u8)) ∧ Below w.heap.size w wr)
    case atStart => exact ⟨n, B, cc, by omega, h8, by omega, rfl, by simpa using HO.out, hb3⟩
    case round =>
      clear HO hb3 hcc hmm
      obtain ⟨m, B, cc, hm0, hm1, hgk, rfl, hown, hg⟩ := hrel
      by_cases hlt : m < 8
      · have eS := pad_step l (m - n)
        rw [show m - n + 1 = m + 1 - n by omega] at eS
        have ES := Lib.hid eS
        obtain ⟨xs, hxs⟩ : ∃ xs, xs = (l ++ List.replicate (m - n) 0).map (Value.int .u8) := ⟨_, rfl⟩
        rw [← hxs] at hown ES
        clear eS hxs
        have hgs := hg.size
        go_wp2_with (at_builtin; go_loud (refine wpList_append_own _ rfl _ _ 22 rfl w.heap.size 5 i0 (.int .u8 0) 1 1 Try.underlying22 hi hz0 hz1 hz2 rfl (by decide) _ m xs rfl (hown.alloc _) ⟨wr.heap.size, 0, none⟩ 1 1 [.int .u8 0] rfl rfl ?d1 ?d2 ?d3 ?d4 ?d5 ?_))
        case d1 => exact zero_news _ rfl
        case d2 => intro u hu; simp at hu; subst hu; rfl
        case d3 => unfold maxLen; omega
        case d4 => omega
        case d5 => simp; omega
        intro v2 w4 hown2 hgrow2 _
        rw [ES.out] at hown2
        have hb4 : Below w.heap.size w w4 := hg.trans ((show Below w.heap.size wr _ from (Below.refl _ _).alloc hgs _).trans (grown_below (hown.alloc _) hgrow2 (by simp; omega)))
        obtain ⟨B2, cc2, rfl, hB2, hcc2, hmm2⟩ := own_slice hown2
        have HO2 := Lib.hid hown2
        clear hown2 hgrow2 hown hB2 ES
        go_wp2_with fail
        go_roundg (8 - (m + 1))
        case measure => omega
        case rel => exact ⟨m + 1, B2, cc2, by omega, by omega, by omega, by go_num, HO2.out, hb4⟩
      · obtain rfl : m = 8 := by omega
        go_wp2
        go_ret
        refine ⟨_, rfl, ?_, hg⟩
        have e : (pad l).length = 8 := pad_len (by rw [HL.out]; exact h8)
        unfold Own
        rw [e]
        have e2 : pad l = l ++ List.replicate (8 - n) 0 := by unfold pad; rw [HL.out]
        rw [e2]
        exact hown
end Go.Proofs.Ytfjeediecmhedaa
