/-
  The contract of bytes.Equal at equal bytes. No condition but the slices' shape.
-/
import Derived.Test.YtamajedopofcoaaComP
set_option linter.unusedVariables false
set_option linter.unusedSimpArgs false
namespace Go.Proofs.Ytamajedopofcoaa
open Go.RowKit
theorem conv_u8 {w : World} {A : Option Addr} {l : List Int} (hb : Ik .u8 w A l) (n c : Nat) (hl : l.length = n) : (convert 46 9 (.slice A n c)).run Try.prog w = .ok (.string (strOfNums l)) w := by
  by_cases h0 : 0 < l.length
  · obtain ⟨b, o, rfl, _, hc⟩ := hb h0
    refine run_convert_bytes_arg w 46 5 Try.underlying46 Try.underlying5 b o n c l hl (fun i hi => hc i _ ?_) 9 Try.underlying9
    simp [List.getD, List.getElem?_eq_getElem (show i < l.length by omega)]
  · obtain rfl : l = [] := List.eq_nil_of_length_eq_zero (by omega)
    obtain rfl : n = 0 := by simpa using hl.symm
    cases A with
    | none => exact run_convert_bytes_nil w 46 5 Try.underlying46 Try.underlying5 0 c 9 Try.underlying9
    | some a =>
      rw [run_convert_bytes_string w 46 9 5 (some a) 0 c Try.underlying46 Try.underlying5 Try.underlying9]
      exact run_bytesToString w a 0 c [] (by rfl)
theorem equal25 (A B : Option Addr) (n c d : Nat) (l : List Int) (w : World) (hl : l.length = n) (ha : Ik .u8 w A l) (hb : Ik .u8 w B l) :
    Calls Try.prog 25 #[.slice A n c, .slice B n d] w fun r w' => r = .returned (.bool true) ∧ w = w' := by
  have k1 := conv_u8 ha n c hl
  have k2 := conv_u8 hb n d hl
  generalize strOfNums l = S at k1 k2
  clear hl ha hb
  go_enter Try.func25, Try.ntmps25
  go_wp2
  go_ret
  exact ⟨ret_bool (by simp), rfl⟩
end Go.Proofs.Ytamajedopofcoaa
