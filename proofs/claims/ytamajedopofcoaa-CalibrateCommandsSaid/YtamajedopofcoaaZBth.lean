/-
  Command and the reference's Command answer alike: the parts that all commands share. No condition but the slices' shape.
-/
import Derived.Test.YtamajedopofcoaaZC22
import Derived.Test.YtamajedopofcoaaZC22E
import Derived.Test.YtamajedopofcoaaZC22O
import Derived.Test.YtamajedopofcoaaZLst
set_option linter.unusedVariables false
set_option linter.unusedSimpArgs false
namespace Go.Proofs.Ytamajedopofcoaa
open Go.RowKit
/-- what came in: pages, measures and bytes -/
structure Inp (A : Option Addr) (n c : Nat) (A2 : Option Addr) (n2 c2 : Nat) (Ac Pe : Int) (A3 : Option Addr) (m c3 : Nat) (R W : List Int) (ch : List (Int × Int)) (A4 : Option Addr) (mm c4 : Nat) (l : List MV) (B : Option Addr) (nb c5 : Nat) (bs : List Int) (w : World) : Prop where
  hl : R.length = n
  hb : Ik .i64 w A R
  hc : n ≤ c
  hl2 : W.length = n2
  hb2 : Ik .i64 w A2 W
  hc2 : n2 ≤ c2
  hl3 : ch.length = m
  hb3 : Ik .i64 w A3 (flat ch)
  hc3 : m ≤ c3
  hs : n ≤ 5000
  hs2 : n2 ≤ 5000
  hs3 : m ≤ 5000
  hlm : l.length = mm
  hcv : Cv w A4 (flatM l)
  hmo : Mo [] w l
  hcm : mm ≤ c4
  hmm : mm ≤ 5000
  hsz : ∀ x ∈ l, x.m.Ce.length ≤ 5000
  hbs : bs.length = nb
  hB : Ik .u8 w B bs
  hr8 : ∀ x ∈ bs, 0 ≤ x ∧ x ≤ 255
  hc5 : nb ≤ c5
theorem Inp.below {A : Option Addr} {n c : Nat} {A2 : Option Addr} {n2 c2 : Nat} {Ac Pe : Int} {A3 : Option Addr} {m c3 : Nat} {R W : List Int} {ch : List (Int × Int)} {A4 : Option Addr} {mm c4 : Nat} {l : List MV} {B : Option Addr} {nb c5 : Nat} {bs : List Int} {w : World} {w1 : World} (H : Inp A n c A2 n2 c2 Ac Pe A3 m c3 R W ch A4 mm c4 l B nb c5 bs w) (hw : Below w.heap.size w w1) : Inp A n c A2 n2 c2 Ac Pe A3 m c3 R W ch A4 mm c4 l B nb c5 bs w1 :=
  ⟨H.hl, H.hb.below hw, H.hc, H.hl2, H.hb2.below hw, H.hc2, H.hl3, H.hb3.below hw, H.hc3, H.hs, H.hs2, H.hs3, H.hlm, H.hcv.below hw, H.hmo.below hw, H.hcm, H.hmm, H.hsz, H.hbs, H.hB.below hw, H.hr8, H.hc5⟩
def Sz (q : PG) (ms : List MS) : Prop := q.R.length ≤ 5000 ∧ q.W.length ≤ 5000 ∧ q.Ch.length ≤ 5000 ∧ ms.length ≤ 5000 ∧ ∀ x ∈ ms, x.Ce.length ≤ 5000
theorem Inp.szm {A : Option Addr} {n c : Nat} {A2 : Option Addr} {n2 c2 : Nat} {Ac Pe : Int} {A3 : Option Addr} {m c3 : Nat} {R W : List Int} {ch : List (Int × Int)} {A4 : Option Addr} {mm c4 : Nat} {l : List MV} {B : Option Addr} {nb c5 : Nat} {bs : List Int} {w : World} (H : Inp A n c A2 n2 c2 Ac Pe A3 m c3 R W ch A4 mm c4 l B nb c5 bs w) : (l.map MV.m).length ≤ 5000 ∧ ∀ x ∈ l.map MV.m, x.Ce.length ≤ 5000 :=
  ⟨by rw [List.length_map, H.hlm]; exact H.hmm, fun x hx => by obtain ⟨y, hy, rfl⟩ := List.mem_map.1 hx; exact H.hsz y hy⟩
theorem Inp.sz {A : Option Addr} {n c : Nat} {A2 : Option Addr} {n2 c2 : Nat} {Ac Pe : Int} {A3 : Option Addr} {m c3 : Nat} {R W : List Int} {ch : List (Int × Int)} {A4 : Option Addr} {mm c4 : Nat} {l : List MV} {B : Option Addr} {nb c5 : Nat} {bs : List Int} {w : World} (H : Inp A n c A2 n2 c2 Ac Pe A3 m c3 R W ch A4 mm c4 l B nb c5 bs w) : Sz ⟨R, W, Ac, Pe, ch⟩ (l.map MV.m) :=
  ⟨by rw [H.hl]; exact H.hs, by rw [H.hl2]; exact H.hs2, by rw [H.hl3]; exact H.hs3, H.szm.1, H.szm.2⟩
/-- Command and the reference's answer alike -/
def Both (A : Option Addr) (n c : Nat) (A2 : Option Addr) (n2 c2 : Nat) (Ac Pe : Int) (A3 : Option Addr) (m c3 : Nat) (R W : List Int) (ch : List (Int × Int)) (A4 : Option Addr) (mm c4 : Nat) (l : List MV) (B : Option Addr) (nb c5 : Nat) (w : World) : Prop :=
  ∃ (q : PG) (ms : List MS) (an : List Int), Sz q ms ∧ ∀ w1, Below w.heap.size w w1 → Calls Try.prog 22 #[.agg #[.slice A n c, .slice A2 n2 c2, .int .i64 Ac, .int .i64 Pe, .slice A3 m c3], .slice A4 mm c4, .slice B nb c5] w1 (CP2 q ms an w1) ∧ Calls Try.prog 23 #[.agg #[.slice A n c, .slice A2 n2 c2, .int .i64 Ac, .int .i64 Pe, .slice A3 m c3], .slice A4 mm c4, .slice B nb c5] w1 (CP2 q ms an w1)
theorem In41.weak {R W : List Int} {ch : List (Int × Int)} {ms : List MS} {mm : Nat} {S : List Nat} {X1 : Option Addr} {k1 : Nat} {X2 : Option Addr} {k2 : Nat} {X3 : Option Addr} {k3 : Nat} {A5 : Option Addr} {c6 : Nat} {l' : List MV} {G : Option Nat} {w w0 w1 : World} (h : In41 R W ch ms mm S X1 k1 X2 k2 X3 k3 A5 c6 l' G w0 w1) (hw : Below w.heap.size w w0) : In41 R W ch ms mm S X1 k1 X2 k2 X3 k3 A5 c6 l' G w w1 := by
  obtain ⟨h1, h2, h3, h4, h5, h6, h7, h8, h9, h10⟩ := h
  have hz := hw.size
  exact ⟨h1, h2, h3, h4, h5, h6, h7, fun g e => ⟨(h8 g e).1, (h8 g e).2.1, Nat.le_trans hz (h8 g e).2.2⟩, fun s hs => ⟨(h9 s hs).1, Nat.le_trans hz (h9 s hs).2⟩, chain hw h10⟩
theorem Iy.gbo {S : List Nat} {G : Option Nat} {k : IntKind} {w1 w' : World} {A : Option Addr} {l : List Int} (h : Iy (G.toList ++ S) k w1 A l) (hb : w1.grownBy w' G) : Iy S k w' A l :=
  ⟨h.1.gb hb (fun h0 b o e he => h.2 h0 b o e (List.mem_append_left _ (by rw [← he]; simp))), fun h0 b o e hs => h.2 h0 b o e (List.mem_append_right _ hs)⟩
theorem In41.pages {R W : List Int} {ch : List (Int × Int)} {ms : List MS} {mm : Nat} {S : List Nat} {X1 : Option Addr} {k1 : Nat} {X2 : Option Addr} {k2 : Nat} {X3 : Option Addr} {k3 : Nat} {A5 : Option Addr} {c6 : Nat} {l' : List MV} {G : Option Nat} {w w1 w' : World} (h : In41 R W ch ms mm S X1 k1 X2 k2 X3 k3 A5 c6 l' G w w1) (hb : w1.grownBy w' G) : Iy S .i64 w' X1 R ∧ Iy S .i64 w' X2 W ∧ Iy S .i64 w' X3 (flat ch) :=
  ⟨h.2.1.1.gbo hb, h.2.1.2.1.gbo hb, h.2.1.2.2.gbo hb⟩
theorem In41.lo {R W : List Int} {ch : List (Int × Int)} {ms : List MS} {mm : Nat} {S : List Nat} {X1 : Option Addr} {k1 : Nat} {X2 : Option Addr} {k2 : Nat} {X3 : Option Addr} {k3 : Nat} {A5 : Option Addr} {c6 : Nat} {l' : List MV} {G : Option Nat} {w w1 w' : World} (h : In41 R W ch ms mm S X1 k1 X2 k2 X3 k3 A5 c6 l' G w w1) (hb : Below w1.heap.size w1 w') : LO S w' A5 ms c6 := by
  obtain ⟨_, _, h3, h4, h5, ⟨B0, hB0, hrow⟩, h7, h8, _, _⟩ := h
  obtain ⟨A', c', hv, _, hnc, _⟩ := own_slice hrow
  injection hv with hv _ hc
  subst hv; subst hc
  refine ⟨l', h3, by rw [← h3, List.length_map, h4]; exact hnc, (own_cv hrow).below hb, fun h0 b o e hs => (h8 b (h7 b o e).symm).2.1 hs, ?_⟩
  exact (h5.below hb).sub (fun s hs => List.mem_append_right _ hs)
theorem fr_iy {S : List Nat} {k : IntKind} {w1 w' : World} {A : Option Addr} {l : List Int} (hi : Ik k w' A l) (hf : Fr w1.heap.size A) (hS : ∀ s ∈ S, s < w1.heap.size) : Iy S k w' A l :=
  ⟨hi, fun h0 b o e hs => by have := hf b o e; have := hS b hs; omega⟩
theorem old_iy {S : List Nat} {k : IntKind} {w w' : World} {A : Option Addr} {l : List Int} (h : Ik k w A l) (hS : ∀ s ∈ S, w.heap.size ≤ s) (hb : Below w.heap.size w w') : Iy S k w' A l :=
  ⟨h.below hb, fun h0 b o e hs => by
    obtain ⟨b', o', e', hl⟩ := h.addr h0
    rw [e] at e'
    injection e' with e'; injection e' with e1 _
    have := hS b hs
    omega⟩
theorem old_mo {S : List Nat} {w w' : World} {l : List MV} (h : Mo [] w l) (hS : ∀ s ∈ S, w.heap.size ≤ s) (hb : Below w.heap.size w w') : Mo S w' l := fun x hx =>
  ⟨(h x hx).1, (old_iy (h x hx).2.1 hS hb).1, (old_iy (h x hx).2.1 hS hb).2⟩
theorem old_lo {S : List Nat} {w w' : World} {A : Option Addr} {n c : Nat} {l : List MV} (hl : l.length = n) (hcv : Cv w A (flatM l)) (hmo : Mo [] w l) (hc : n ≤ c) (hS : ∀ s ∈ S, w.heap.size ≤ s) (hb : Below w.heap.size w w') : LO S w' A (l.map MV.m) c :=
  ⟨l, rfl, by rw [List.length_map, hl]; exact hc, hcv.below hb, fun h0 b o e hs => by
    rw [List.length_map] at h0
    obtain ⟨b', o', e', hbl, _⟩ := hcv (by rw [flatM_len]; omega)
    rw [e] at e'
    injection e' with e'; injection e' with e1 _
    have := hS b hs
    omega, old_mo hmo hS hb⟩
theorem e41 {args : Array Value} {w1 : World} {vm va : Value} {X1 X2 X3 : Option Addr} {n1 k1 n2 k2 n3 k3 : Nat} {a1 a2 e : Int} (G : Option Nat) (h : Calls Try.prog 41 args w1 (fun r w' => r = .returned (.tuple #[.agg #[.slice X1 n1 k1, .slice X2 n2 k2, .int .i64 a1, .int .i64 a2, .slice X3 n3 k3], vm, va, .int .i64 e]) ∧ Below w1.heap.size w1 w')) : Calls Try.prog 41 args w1 (fun r w' => (∃ Y1 n1' j1 Y2 n2' j2 a1 a2 Y3 n3' j3 vm va, r = .returned (.tuple #[.agg #[.slice Y1 n1' j1, .slice Y2 n2' j2, .int .i64 a1, .int .i64 a2, .slice Y3 n3' j3], vm, va, .int .i64 e])) ∧ w1.grownBy w' G) :=
  h.mono fun r w' hh => ⟨⟨X1, n1, k1, X2, n2, k2, a1, a2, X3, n3, k3, vm, va, hh.1⟩, GB.of hh.2⟩
theorem both_inv {A : Option Addr} {n c : Nat} {A2 : Option Addr} {n2 c2 : Nat} {Ac Pe : Int} {A3 : Option Addr} {m c3 : Nat} {R W : List Int} {ch : List (Int × Int)} {A4 : Option Addr} {mm c4 : Nat} {l : List MV} {B : Option Addr} {nb c5 : Nat} {bs : List Int} {w : World} (H : Inp A n c A2 n2 c2 Ac Pe A3 m c3 R W ch A4 mm c4 l B nb c5 bs w) (hv : vP R W Ac Pe ch = false) : Both A n c A2 n2 c2 Ac Pe A3 m c3 R W ch A4 mm c4 l B nb c5 w :=
  ⟨⟨R, W, Ac, Pe, ch⟩, l.map MV.m, [254, 1], H.sz, fun w1 hw => ⟨c22_inv A n c A2 n2 c2 Ac Pe A3 m c3 R W ch A4 mm c4 l B nb c5 w1 (H.below hw).hl (H.below hw).hb (H.below hw).hc (H.below hw).hl2 (H.below hw).hb2 (H.below hw).hc2 (H.below hw).hl3 (H.below hw).hb3 (H.below hw).hc3 H.hs H.hs2 H.hs3 (H.below hw).hlm (H.below hw).hcv (H.below hw).hmo (H.below hw).hcm H.hmm H.hsz hv,
    r23_err A n c A2 n2 c2 Ac Pe A3 m c3 R W ch A4 mm c4 l B nb c5 1 w1 (H.below hw).hl (H.below hw).hb (H.below hw).hc (H.below hw).hl2 (H.below hw).hb2 (H.below hw).hc2 (H.below hw).hl3 (H.below hw).hb3 (H.below hw).hc3 (H.below hw).hlm (H.below hw).hcv (H.below hw).hmo (H.below hw).hcm (fun w2 h2 => r42_inv A n c A2 n2 c2 Ac Pe A3 m c3 R W ch A4 mm c4 l B nb c5 w2 (H.below (chain hw h2)).hl (H.below (chain hw h2)).hb (H.below (chain hw h2)).hc (H.below (chain hw h2)).hl2 (H.below (chain hw h2)).hb2 (H.below (chain hw h2)).hc2 (H.below (chain hw h2)).hl3 (H.below (chain hw h2)).hb3 (H.below (chain hw h2)).hc3 H.hs H.hs2 H.hs3 hv) (by decide) (by decide) (by decide)⟩⟩
theorem both_bad {A : Option Addr} {n c : Nat} {A2 : Option Addr} {n2 c2 : Nat} {Ac Pe : Int} {A3 : Option Addr} {m c3 : Nat} {R W : List Int} {ch : List (Int × Int)} {A4 : Option Addr} {mm c4 : Nat} {l : List MV} {B : Option Addr} {nb c5 : Nat} {bs : List Int} {w : World} (H : Inp A n c A2 n2 c2 Ac Pe A3 m c3 R W ch A4 mm c4 l B nb c5 bs w) (hv : vP R W Ac Pe ch = true) (hm8 : (decide (mm ≤ 8) && !l.any bV) = false) : Both A n c A2 n2 c2 Ac Pe A3 m c3 R W ch A4 mm c4 l B nb c5 w :=
  ⟨⟨R, W, Ac, Pe, ch⟩, l.map MV.m, [254, 1], H.sz, fun w1 hw => ⟨c22_bad A n c A2 n2 c2 Ac Pe A3 m c3 R W ch A4 mm c4 l B nb c5 w1 (H.below hw).hl (H.below hw).hb (H.below hw).hc (H.below hw).hl2 (H.below hw).hb2 (H.below hw).hc2 (H.below hw).hl3 (H.below hw).hb3 (H.below hw).hc3 H.hs H.hs2 H.hs3 (H.below hw).hlm (H.below hw).hcv (H.below hw).hmo (H.below hw).hcm H.hmm H.hsz hv hm8,
    r23_err A n c A2 n2 c2 Ac Pe A3 m c3 R W ch A4 mm c4 l B nb c5 1 w1 (H.below hw).hl (H.below hw).hb (H.below hw).hc (H.below hw).hl2 (H.below hw).hb2 (H.below hw).hc2 (H.below hw).hl3 (H.below hw).hb3 (H.below hw).hc3 (H.below hw).hlm (H.below hw).hcv (H.below hw).hmo (H.below hw).hcm (fun w2 h2 => r42_bad A n c A2 n2 c2 Ac Pe A3 m c3 R W ch A4 mm c4 l B nb c5 w2 (H.below (chain hw h2)).hl (H.below (chain hw h2)).hb (H.below (chain hw h2)).hc (H.below (chain hw h2)).hl2 (H.below (chain hw h2)).hb2 (H.below (chain hw h2)).hc2 (H.below (chain hw h2)).hl3 (H.below (chain hw h2)).hb3 (H.below (chain hw h2)).hc3 H.hs H.hs2 H.hs3 (H.below (chain hw h2)).hlm (H.below (chain hw h2)).hcv (H.below (chain hw h2)).hmo (H.below (chain hw h2)).hcm hv hm8) (by decide) (by decide) (by decide)⟩⟩
theorem both_nil {A : Option Addr} {n c : Nat} {A2 : Option Addr} {n2 c2 : Nat} {Ac Pe : Int} {A3 : Option Addr} {m c3 : Nat} {R W : List Int} {ch : List (Int × Int)} {A4 : Option Addr} {mm c4 : Nat} {l : List MV} {B : Option Addr} {c5 : Nat} {bs : List Int} {w : World} (H : Inp A n c A2 n2 c2 Ac Pe A3 m c3 R W ch A4 mm c4 l B 0 c5 bs w) (hv : vP R W Ac Pe ch = true) (hm8 : (decide (mm ≤ 8) && !l.any bV) = true) : Both A n c A2 n2 c2 Ac Pe A3 m c3 R W ch A4 mm c4 l B 0 c5 w :=
  ⟨⟨R, W, Ac, Pe, ch⟩, l.map MV.m, [254, 3], H.sz, fun w1 hw => ⟨c22_nil A n c A2 n2 c2 Ac Pe A3 m c3 R W ch A4 mm c4 l B c5 w1 (H.below hw).hl (H.below hw).hb (H.below hw).hc (H.below hw).hl2 (H.below hw).hb2 (H.below hw).hc2 (H.below hw).hl3 (H.below hw).hb3 (H.below hw).hc3 H.hs H.hs2 H.hs3 (H.below hw).hlm (H.below hw).hcv (H.below hw).hmo (H.below hw).hcm H.hmm H.hsz hv hm8,
    r23_err A n c A2 n2 c2 Ac Pe A3 m c3 R W ch A4 mm c4 l B 0 c5 3 w1 (H.below hw).hl (H.below hw).hb (H.below hw).hc (H.below hw).hl2 (H.below hw).hb2 (H.below hw).hc2 (H.below hw).hl3 (H.below hw).hb3 (H.below hw).hc3 (H.below hw).hlm (H.below hw).hcv (H.below hw).hmo (H.below hw).hcm (fun w2 h2 => r42_form A n c A2 n2 c2 Ac Pe A3 m c3 R W ch A4 mm c4 l B 0 c5 w2 (H.below (chain hw h2)).hl (H.below (chain hw h2)).hb (H.below (chain hw h2)).hc (H.below (chain hw h2)).hl2 (H.below (chain hw h2)).hb2 (H.below (chain hw h2)).hc2 (H.below (chain hw h2)).hl3 (H.below (chain hw h2)).hb3 (H.below (chain hw h2)).hc3 H.hs H.hs2 H.hs3 (H.below (chain hw h2)).hlm (H.below (chain hw h2)).hcv (H.below (chain hw h2)).hmo (H.below (chain hw h2)).hcm hv hm8 (fun w3 _ => form56_nil B c5 w3)) (by decide) (by decide) (by decide)⟩⟩
theorem both_err {A : Option Addr} {n c : Nat} {A2 : Option Addr} {n2 c2 : Nat} {Ac Pe : Int} {A3 : Option Addr} {m c3 : Nat} {R W : List Int} {ch : List (Int × Int)} {A4 : Option Addr} {mm c4 : Nat} {l : List MV} {B : Option Addr} {nb c5 : Nat} {bs : List Int} {w : World} (H : Inp A n c A2 n2 c2 Ac Pe A3 m c3 R W ch A4 mm c4 l B nb c5 bs w) (hv : vP R W Ac Pe ch = true) (hm8 : (decide (mm ≤ 8) && !l.any bV) = true) (hnb : 0 < nb) (e : Int) (he : e ≠ 0) (e0 : 0 ≤ e) (e1 : e ≤ 255) (K41 : ∀ (X1 : Option Addr) (k1 : Nat) (X2 : Option Addr) (k2 : Nat) (X3 : Option Addr) (k3 : Nat) (A5 : Option Addr) (c6 : Nat) (l' : List MV) (G : Option Nat) (S : List Nat) (w1 : World), In41 R W ch (l.map MV.m) mm S X1 k1 X2 k2 X3 k3 A5 c6 l' G w w1 → Calls Try.prog 41 #[.agg #[.slice X1 R.length k1, .slice X2 W.length k2, .int .i64 Ac, .int .i64 Pe, .slice X3 ch.length k3], .slice A5 mm c6, .slice B nb c5] w1 (fun r w' => (∃ Y1 n1' j1 Y2 n2' j2 a1 a2 Y3 n3' j3 vm va, r = .returned (.tuple #[.agg #[.slice Y1 n1' j1, .slice Y2 n2' j2, .int .i64 a1, .int .i64 a2, .slice Y3 n3' j3], vm, va, .int .i64 e])) ∧ w1.grownBy w' G)) (K42 : ∀ w1, Below w.heap.size w w1 → Calls Try.prog 42 #[.agg #[.slice A n c, .slice A2 n2 c2, .int .i64 Ac, .int .i64 Pe, .slice A3 m c3], .slice A4 mm c4, .slice B nb c5] w1 (fun r w' => ∃ X1 n1' k1 X2 n2' k2 a1 a2 X3 n3' k3 vm va, r = .returned (.tuple #[.agg #[.slice X1 n1' k1, .slice X2 n2' k2, .int .i64 a1, .int .i64 a2, .slice X3 n3' k3], vm, va, .int .i64 e]) ∧ Below w1.heap.size w1 w')) : Both A n c A2 n2 c2 Ac Pe A3 m c3 R W ch A4 mm c4 l B nb c5 w :=
  ⟨⟨R, W, Ac, Pe, ch⟩, l.map MV.m, [254, e], H.sz, fun w1 hw => ⟨c22_err A n c A2 n2 c2 Ac Pe A3 m c3 R W ch A4 mm c4 l B nb c5 e w1 (H.below hw).hl (H.below hw).hb (H.below hw).hc (H.below hw).hl2 (H.below hw).hb2 (H.below hw).hc2 (H.below hw).hl3 (H.below hw).hb3 (H.below hw).hc3 H.hs H.hs2 H.hs3 (H.below hw).hlm (H.below hw).hcv (H.below hw).hmo (H.below hw).hcm H.hmm H.hsz hv hm8 hnb (fun X1 k1 X2 k2 X3 k3 A5 c6 l' G S w2 h => K41 X1 k1 X2 k2 X3 k3 A5 c6 l' G S w2 (h.weak hw)) he e0 e1,
    r23_err A n c A2 n2 c2 Ac Pe A3 m c3 R W ch A4 mm c4 l B nb c5 e w1 (H.below hw).hl (H.below hw).hb (H.below hw).hc (H.below hw).hl2 (H.below hw).hb2 (H.below hw).hc2 (H.below hw).hl3 (H.below hw).hb3 (H.below hw).hc3 (H.below hw).hlm (H.below hw).hcv (H.below hw).hmo (H.below hw).hcm (fun w2 h2 => K42 w2 (chain hw h2)) he e0 e1⟩⟩
theorem both_ok {A : Option Addr} {n c : Nat} {A2 : Option Addr} {n2 c2 : Nat} {Ac Pe : Int} {A3 : Option Addr} {m c3 : Nat} {R W : List Int} {ch : List (Int × Int)} {A4 : Option Addr} {mm c4 : Nat} {l : List MV} {B : Option Addr} {nb c5 : Nat} {bs : List Int} {w : World} (H : Inp A n c A2 n2 c2 Ac Pe A3 m c3 R W ch A4 mm c4 l B nb c5 bs w) (hv : vP R W Ac Pe ch = true) (hm8 : (decide (mm ≤ 8) && !l.any bV) = true) (hnb : 0 < nb) (q : PG) (ms : List MS) (an : List Int) (hq : Sz q ms) (hans : an.length ≤ 1000) (K41 : ∀ (X1 : Option Addr) (k1 : Nat) (X2 : Option Addr) (k2 : Nat) (X3 : Option Addr) (k3 : Nat) (A5 : Option Addr) (c6 : Nat) (l' : List MV) (G : Option Nat) (S : List Nat) (w1 : World), In41 R W ch (l.map MV.m) mm S X1 k1 X2 k2 X3 k3 A5 c6 l' G w w1 → Calls Try.prog 41 #[.agg #[.slice X1 R.length k1, .slice X2 W.length k2, .int .i64 Ac, .int .i64 Pe, .slice X3 ch.length k3], .slice A5 mm c6, .slice B nb c5] w1 (fun r w' => OQ q ms an S r w' ∧ w1.grownBy w' G)) (K42 : ∀ (S : List Nat) w1, Below w.heap.size w w1 → (∀ s ∈ S, w.heap.size ≤ s ∧ s < w1.heap.size) → Calls Try.prog 42 #[.agg #[.slice A n c, .slice A2 n2 c2, .int .i64 Ac, .int .i64 Pe, .slice A3 m c3], .slice A4 mm c4, .slice B nb c5] w1 (fun r w' => OQ q ms an S r w' ∧ Below w1.heap.size w1 w')) : Both A n c A2 n2 c2 Ac Pe A3 m c3 R W ch A4 mm c4 l B nb c5 w := by
  have K42' : ∀ w0, Below w.heap.size w w0 → ∀ w1, Below w0.heap.size w0 w1 → w0.heap.size + 2 ≤ w1.heap.size → Calls Try.prog 42 #[.agg #[.slice A n c, .slice A2 n2 c2, .int .i64 Ac, .int .i64 Pe, .slice A3 m c3], .slice A4 mm c4, .slice B nb c5] w1 (fun r w' => OQ q ms an [w0.heap.size + 1] r w' ∧ Below w1.heap.size w1 w') := fun w0 h0 w1 h1 hz =>
    K42 [w0.heap.size + 1] w1 (chain h0 h1) (fun s hs => by rw [List.mem_singleton] at hs; have := h0.size; omega)
  rcases han : an with _ | ⟨a0, al⟩
  · exact ⟨q, ms, [255], hq, fun w1 hw => ⟨c22_ok0 A n c A2 n2 c2 Ac Pe A3 m c3 R W ch A4 mm c4 l B nb c5 q ms an w1 (H.below hw).hl (H.below hw).hb (H.below hw).hc (H.below hw).hl2 (H.below hw).hb2 (H.below hw).hc2 (H.below hw).hl3 (H.below hw).hb3 (H.below hw).hc3 H.hs H.hs2 H.hs3 (H.below hw).hlm (H.below hw).hcv (H.below hw).hmo (H.below hw).hcm H.hmm H.hsz hv hm8 hnb han (fun X1 k1 X2 k2 X3 k3 A5 c6 l' G S w2 h => K41 X1 k1 X2 k2 X3 k3 A5 c6 l' G S w2 (h.weak hw)) |>.mono (fun r w' h => by rw [han] at h; exact h),
      r23_ok0 A n c A2 n2 c2 Ac Pe A3 m c3 R W ch A4 mm c4 l B nb c5 q ms an w1 (H.below hw).hl (H.below hw).hb (H.below hw).hc (H.below hw).hl2 (H.below hw).hb2 (H.below hw).hc2 (H.below hw).hl3 (H.below hw).hb3 (H.below hw).hc3 han (K42' w1 hw) |>.mono (fun r w' h => by rw [han] at h; exact h)⟩⟩
  · have hp : 0 < an.length := by rw [han]; simp
    exact ⟨q, ms, 255 :: an, hq, fun w1 hw => ⟨c22_ok8 A n c A2 n2 c2 Ac Pe A3 m c3 R W ch A4 mm c4 l B nb c5 q ms an w1 (H.below hw).hl (H.below hw).hb (H.below hw).hc (H.below hw).hl2 (H.below hw).hb2 (H.below hw).hc2 (H.below hw).hl3 (H.below hw).hb3 (H.below hw).hc3 H.hs H.hs2 H.hs3 (H.below hw).hlm (H.below hw).hcv (H.below hw).hmo (H.below hw).hcm H.hmm H.hsz hv hm8 hnb hp hans (fun X1 k1 X2 k2 X3 k3 A5 c6 l' G S w2 h => K41 X1 k1 X2 k2 X3 k3 A5 c6 l' G S w2 (h.weak hw)),
      r23_ok8 A n c A2 n2 c2 Ac Pe A3 m c3 R W ch A4 mm c4 l B nb c5 q ms an w1 (H.below hw).hl (H.below hw).hb (H.below hw).hc (H.below hw).hl2 (H.below hw).hb2 (H.below hw).hc2 (H.below hw).hl3 (H.below hw).hb3 (H.below hw).hc3 hp hans (K42' w1 hw)⟩⟩
end Go.Proofs.Ytamajedopofcoaa
