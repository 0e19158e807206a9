/-
  The contracts of the reference's SameSender and SameReceiver at equal states. No condition but the slices' shape.
-/
import Derived.Test.YtfjeediecmhedaaBytes
set_option linter.unusedVariables false
set_option linter.unusedSimpArgs false
namespace Go.Proofs.Ytfjeediecmhedaa
open Go.RowKit
set_option maxRecDepth 100000 in
set_option maxHeartbeats 2000000 in
theorem same20 (A B : Option Addr) (n c d : Nat) (At Nu Bl Se : Int) (Wt : Bool) (Gp Dl : Int) (Fl : Bool) (l : List Int) (w : World) (hl : l.length = n) (ha : Bt w A l) (hb : Bt w B l) :
    Calls Try.prog 20 #[.agg #[.slice A n c, .int .i64 At, .int .i64 Nu, .int .i64 Bl, .int .i64 Se, .bool Wt, .int .i64 Gp, .int .i64 Dl, .bool Fl], .agg #[.slice B n d, .int .i64 At, .int .i64 Nu, .int .i64 Bl, .int .i64 Se, .bool Wt, .int .i64 Gp, .int .i64 Dl, .bool Fl]] w fun r w' => r = .returned (.bool true) ∧ Below w.heap.size w w' := by
  have k1 := conv_bytes (w := (w.alloc (.cells #[.slice A n c, .int .i64 At, .int .i64 Nu, .int .i64 Bl, .int .i64 Se, .bool Wt, .int .i64 Gp, .int .i64 Dl, .bool Fl] 40)).alloc (.cells #[.slice B n d, .int .i64 At, .int .i64 Nu, .int .i64 Bl, .int .i64 Se, .bool Wt, .int .i64 Gp, .int .i64 Dl, .bool Fl] 40)) (ha.below (by go_grown)) n c hl
  have k2 := conv_bytes (w := (w.alloc (.cells #[.slice A n c, .int .i64 At, .int .i64 Nu, .int .i64 Bl, .int .i64 Se, .bool Wt, .int .i64 Gp, .int .i64 Dl, .bool Fl] 40)).alloc (.cells #[.slice B n d, .int .i64 At, .int .i64 Nu, .int .i64 Bl, .int .i64 Se, .bool Wt, .int .i64 Gp, .int .i64 Dl, .bool Fl] 40)) (hb.below (by go_grown)) n d hl
  generalize strOfNums l = S at k1 k2
  clear hl ha hb
  go_enter Try.func20, Try.ntmps20
  go_wp2
  go_ret
  exact ⟨ret_bool (by simp), by go_grown⟩
set_option maxRecDepth 100000 in
set_option maxHeartbeats 2000000 in
theorem same24 (A B : Option Addr) (n c d : Nat) (Le Nu Bl Go : Int) (Bu Dn : Bool) (Dl : Int) (Fl : Bool) (l : List Int) (w : World) (hl : l.length = n) (ha : Bt w A l) (hb : Bt w B l) :
    Calls Try.prog 24 #[.agg #[.slice A n c, .int .i64 Le, .int .i64 Nu, .int .i64 Bl, .int .i64 Go, .bool Bu, .bool Dn, .int .i64 Dl, .bool Fl], .agg #[.slice B n d, .int .i64 Le, .int .i64 Nu, .int .i64 Bl, .int .i64 Go, .bool Bu, .bool Dn, .int .i64 Dl, .bool Fl]] w fun r w' => r = .returned (.bool true) ∧ Below w.heap.size w w' := by
  have k1 := conv_bytes (w := (w.alloc (.cells #[.slice A n c, .int .i64 Le, .int .i64 Nu, .int .i64 Bl, .int .i64 Go, .bool Bu, .bool Dn, .int .i64 Dl, .bool Fl] 30)).alloc (.cells #[.slice B n d, .int .i64 Le, .int .i64 Nu, .int .i64 Bl, .int .i64 Go, .bool Bu, .bool Dn, .int .i64 Dl, .bool Fl] 30)) (ha.below (by go_grown)) n c hl
  have k2 := conv_bytes (w := (w.alloc (.cells #[.slice A n c, .int .i64 Le, .int .i64 Nu, .int .i64 Bl, .int .i64 Go, .bool Bu, .bool Dn, .int .i64 Dl, .bool Fl] 30)).alloc (.cells #[.slice B n d, .int .i64 Le, .int .i64 Nu, .int .i64 Bl, .int .i64 Go, .bool Bu, .bool Dn, .int .i64 Dl, .bool Fl] 30)) (hb.below (by go_grown)) n d hl
  generalize strOfNums l = S at k1 k2
  clear hl ha hb
  go_enter Try.func24, Try.ntmps24
  go_wp2
  go_ret
  exact ⟨ret_bool (by simp), by go_grown⟩
end Go.Proofs.Ytfjeediecmhedaa
