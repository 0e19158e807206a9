/-
  The state of the law TransportArrives in memory; inputs that it passes over. No condition but the slice's shape.
-/
import Derived.Test.YtfjeediecmhedaaArrP
import Derived.Test.YtfjeediecmhedaaTick
import Derived.Test.YtfjeediecmhedaaCar3
import Derived.Test.YtfjeediecmhedaaSendsCore
set_option linter.unusedVariables false
set_option linter.unusedSimpArgs false
namespace Go.Proofs.Ytfjeediecmhedaa
open Go.RowKit
/-- the sender in block P, the receiver in block R, the frame -/
def ST (w : World) (P R n : Nat) (wr : World) (s : SS) (As : Option Addr) (cs : Nat) (r : RS) (Ar : Option Addr) (nr cr : Nat) (F : Option Addr) (f : List Int) : Prop :=
  (Cl P wr [.slice As n cs, .int .i64 (s).At, .int .i64 (s).Nu, .int .i64 (s).Bl, .int .i64 (s).Se, .bool (s).Wt, .int .i64 (s).Gp, .int .i64 (s).Dl, .bool (s).Fl] ∧ Bt wr As s.l ∧ (∀ b o, As = some ⟨b, o, none⟩ → b ≠ P ∧ b ≠ R)) ∧ (Cl R wr [.slice Ar nr cr, .int .i64 (r).Le, .int .i64 (r).Nu, .int .i64 (r).Bl, .int .i64 (r).Gt, .bool (r).Bu, .bool (r).Dn, .int .i64 (r).Dl, .bool (r).Fl] ∧ Bt wr Ar r.l ∧ (∀ b o, Ar = some ⟨b, o, none⟩ → b ≠ P ∧ b ≠ R)) ∧ (Bt wr F f ∧ (∀ b o, F = some ⟨b, o, none⟩ → b ≠ P ∧ b ≠ R)) ∧ Below w.heap.size w wr ∧ P ≠ R ∧ w.heap.size ≤ P ∧ w.heap.size ≤ R
theorem ST.below {w wr w' : World} {P R n cs nr cr : Nat} {s : SS} {r : RS} {As Ar F : Option Addr} {f : List Int} (h : ST w P R n wr s As cs r Ar nr cr F f) (hb : Below wr.heap.size wr w') : ST w P R n w' s As cs r Ar nr cr F f := by
  obtain ⟨⟨a1, a2, a3⟩, ⟨b1, b2, b3⟩, ⟨c1, c2⟩, d1, d2, d3, d4⟩ := h
  exact ⟨⟨a1.below hb, a2.below hb, a3⟩, ⟨b1.below hb, b2.below hb, b3⟩, ⟨c1.below hb, c2⟩, chain d1 hb, d2, d3, d4⟩
theorem ST.setR {w wr : World} {P R n cs nr cr : Nat} {s : SS} {r : RS} {As Ar F : Option Addr} {f : List Int} (h : ST w P R n wr s As cs r Ar nr cr F f) (r2 : RS) (A2 : Option Addr) (n2 c2 : Nat) (hb : Bt wr A2 r2.l) (hA : ∀ b o, A2 = some ⟨b, o, none⟩ → b ≠ P ∧ b ≠ R) :
    ST w P R n (((((((((wr.setCell ⟨R, 0, none⟩ (.slice A2 n2 c2)).setCell ⟨R, 1, none⟩ (.int .i64 (r2).Le)).setCell ⟨R, 2, none⟩ (.int .i64 (r2).Nu)).setCell ⟨R, 3, none⟩ (.int .i64 (r2).Bl)).setCell ⟨R, 4, none⟩ (.int .i64 (r2).Gt)).setCell ⟨R, 5, none⟩ (.bool (r2).Bu)).setCell ⟨R, 6, none⟩ (.bool (r2).Dn)).setCell ⟨R, 7, none⟩ (.int .i64 (r2).Dl)).setCell ⟨R, 8, none⟩ (.bool (r2).Fl)) s As cs r2 A2 n2 c2 F f := by
  obtain ⟨⟨a1, a2, a3⟩, ⟨b1, b2, b3⟩, ⟨c1, c2⟩, d1, d2, d3, d4⟩ := h
  exact ⟨⟨a1.far9 (Ne.symm d2) _ _ _ _ _ _ _ _ _, a2.set9 (fun b o e => Ne.symm (a3 b o e).2) _ _ _ _ _ _ _ _ _, a3⟩, ⟨b1.set9 _ _ _ _ _ _ _ _ _, hb.set9 (fun b o e => Ne.symm (hA b o e).2) _ _ _ _ _ _ _ _ _, hA⟩, ⟨c1.set9 (fun b o e => Ne.symm (c2 b o e).2) _ _ _ _ _ _ _ _ _, c2⟩, below_set9 d1 d4 _ _ _ _ _ _ _ _ _, d2, d3, d4⟩
theorem ST.setP {w wr : World} {P R n cs nr cr : Nat} {s : SS} {r : RS} {As Ar F : Option Addr} {f : List Int} (h : ST w P R n wr s As cs r Ar nr cr F f) (s2 : SS) (A2 : Option Addr) (c2 : Nat) (hb : Bt wr A2 s2.l) (hA : ∀ b o, A2 = some ⟨b, o, none⟩ → b ≠ P ∧ b ≠ R) (F2 : Option Addr) (f2 : List Int) (hf : Bt wr F2 f2) (hF : ∀ b o, F2 = some ⟨b, o, none⟩ → b ≠ P ∧ b ≠ R) :
    ST w P R n (((((((((wr.setCell ⟨P, 0, none⟩ (.slice A2 n c2)).setCell ⟨P, 1, none⟩ (.int .i64 (s2).At)).setCell ⟨P, 2, none⟩ (.int .i64 (s2).Nu)).setCell ⟨P, 3, none⟩ (.int .i64 (s2).Bl)).setCell ⟨P, 4, none⟩ (.int .i64 (s2).Se)).setCell ⟨P, 5, none⟩ (.bool (s2).Wt)).setCell ⟨P, 6, none⟩ (.int .i64 (s2).Gp)).setCell ⟨P, 7, none⟩ (.int .i64 (s2).Dl)).setCell ⟨P, 8, none⟩ (.bool (s2).Fl)) s2 A2 c2 r Ar nr cr F2 f2 := by
  obtain ⟨⟨a1, a2, a3⟩, ⟨b1, b2, b3⟩, ⟨c1, c2⟩, d1, d2, d3, d4⟩ := h
  exact ⟨⟨a1.set9 _ _ _ _ _ _ _ _ _, hb.set9 (fun b o e => Ne.symm (hA b o e).1) _ _ _ _ _ _ _ _ _, hA⟩, ⟨b1.far9 d2 _ _ _ _ _ _ _ _ _, b2.set9 (fun b o e => Ne.symm (b3 b o e).1) _ _ _ _ _ _ _ _ _, b3⟩, ⟨hf.set9 (fun b o e => Ne.symm (hF b o e).1) _ _ _ _ _ _ _ _ _, hF⟩, below_set9 d1 d3 _ _ _ _ _ _ _ _ _, d2, d3, d4⟩
theorem gfr_len {l : List Int} (h : 1 ≤ l.length) (j : Nat) : (gfr l j).length = 8 := by
  unfold gfr
  split
  · split
    · exact pad_len (by simp; omega)
    · rw [ffr_eq (by omega)]; simp; omega
  · exact cfr_len l j
theorem byt_gfr {l : List Int} (h : Byt l) (h2 : l.length ≤ 1023) (j : Nat) : Byt (gfr l j) := by
  unfold gfr
  split
  · split
    · refine byt_pad (fun x hx => ?_)
      rcases List.mem_cons.1 hx with rfl | hx
      · omega
      · exact h x hx
    · exact byt_ffr h h2
  · exact byt_cfr h j
theorem ok_at {l : List Int} {n : Nat} {s : SS} (h : s.ok = true) (e : s.l = l) (hl : l.length = n) : vS n s.At s.Nu s.Bl s.Se s.Wt s.Gp s.Dl s.Fl = true := by
  unfold SS.ok at h
  rw [e, hl] at h
  exact h
theorem AR.sl {l : List Int} {B : Int} {j : Nat} {s : SS} {r : RS} {now row : Int} (h : AR l B j s r now row) : s.l = l := by
  obtain ⟨_, _, _, _, ⟨_, _, rfl, _⟩ | ⟨_, _, rfl, _⟩ | ⟨_, _, _, G, D, _, _, _, _, _, _, _, ⟨_, rfl⟩ | ⟨_, _, _, _, rfl, _⟩⟩⟩ := h <;> rfl
theorem send_arr (A : Option Addr) (n c : Nat) (l : List Int) (B : Int) (hl : l.length = n) (hc : n ≤ c) (hm : msgB n = true) :
    ∃ s0, (∀ w, Bt w A l → Calls Try.prog 19 #[.slice A n c, .int .i64 0] w (S3 s0 (gfr l 0) 0 w)) ∧ AR l B 0 s0 (rz B) 0 0 ∧ s0.l = l := by
  have ht : timeB 0 = true := by decide
  obtain ⟨m0, m1⟩ : 1 ≤ n ∧ n ≤ 1023 := by simpa [msgB] using hm
  by_cases h7 : n ≤ 7
  · refine ⟨sdone l, fun w hb => ?_, ⟨by omega, by omega, by omega, by omega, .inl ⟨rfl, by omega, rfl, rfl, rfl⟩⟩, rfl⟩
    have hg : gfr l 0 = pad ((n : Int) :: l) := by unfold gfr; rw [if_pos rfl, if_pos (by omega), hl]
    have hd : sdone l = ⟨l, n, 0, 0, 0, false, 0, 0, false⟩ := by unfold sdone; rw [hl]
    rw [hg, hd]
    refine (send19 A n c l 0 w hl hb hc).mono ?_
    rintro r w' (⟨h, _⟩ | ⟨_, h, _⟩ | ⟨_, _, _, h⟩ | ⟨_, _, h, _⟩)
    · rw [hm] at h; cases h
    · rw [ht] at h; cases h
    · exact S3_of_SP hl h
    · omega
  · refine ⟨⟨l, 6, 1, 0, 0, true, 0, 1000000, false⟩, fun w hb => ?_, ⟨by omega, by omega, by omega, by omega, .inr (.inl ⟨rfl, by omega, rfl, rfl, rfl⟩)⟩, rfl⟩
    have hg : gfr l 0 = pad ((16 + (n : Int) / 256) :: ((n : Int) % 256) :: l.take 6) := by unfold gfr ffr; rw [if_pos rfl, if_neg (by omega), hl]
    rw [hg]
    refine (send19 A n c l 0 w hl hb hc).mono ?_
    rintro r w' (⟨h, _⟩ | ⟨_, h, _⟩ | ⟨_, _, h, _⟩ | ⟨_, _, _, h⟩)
    · rw [hm] at h; cases h
    · rw [ht] at h; cases h
    · omega
    · exact S3_of_SP hl h
set_option maxRecDepth 100000 in
set_option maxHeartbeats 16000000 in
theorem arrives_small (A : Option Addr) (n c : Nat) (l : List Int) (B dl : Int) (w : World) (hl : l.length = n) (hb : Bt w A l) (hB : Byt l) (hc : n ≤ c) (b0 : 0 ≤ B) (b1 : B ≤ 255) (dl0 : 0 ≤ dl) (dl1 : dl ≤ 65535) (hm : msgB n = false) : Calls Try.prog 7 #[.slice A n c, .int .u8 B, .int .u16 dl] w fun x w' => x = .returned (.bool true) ∧ Below w.heap.size w w' := by
  have M := fun w => message11 A n c w
  rw [hm] at M
  replace M := Lib.hid M
  clear hm hl hb hB
  go_enter Try.func7, Try.ntmps7
  go_wp2_with fail
  refine (awake10 _).mono ?_
  rintro x w1 ⟨rfl, hb1⟩
  have hg1 := chain (w := w) (by go_grown) hb1
  go_wp2_with fail
  refine (M.out _).mono ?_
  rintro x w2 ⟨rfl, rfl⟩
  go_wp2_with fail
  refine (awake10 _).mono ?_
  rintro x w2 ⟨rfl, hb2⟩
  have hg2 := chain hg1 hb2
  go_wp2
  go_ret
  exact ⟨rfl, hg2⟩
end Go.Proofs.Ytfjeediecmhedaa
