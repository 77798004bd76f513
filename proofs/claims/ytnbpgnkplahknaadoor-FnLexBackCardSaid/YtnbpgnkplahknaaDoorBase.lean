/- Contracts of what the lexer calls: the sign at a place over its table, a copy of a text, the number of a run of digits. -/
import Derived.Test.YtnbpgnkplahknaaDoorPureFnExactSignAt
import Derived.Test.YtnbpgnkplahknaaDoorShelf
import Derived.Lib.SmallJoins
namespace Go.Proofs.YtnbpgnkplahknaaDoor.Base
open Go Go.RowKit Go.Proofs.YtnbpgnkplahknaaDoor.PFnExactSignAt Go.Proofs.YtnbpgnkplahknaaDoorW.PrintWords Go.Proofs.YtnbpgnkplahknaaDoorW.PrintLast Go.Proofs.YtnbpgnkplahknaaDoorW.PrintMore Go.Proofs.YtnbpgnkplahknaaDoor.Lib
set_option linter.unusedVariables false
set_option linter.unusedSimpArgs false
def signAt (a : ByteArray) (n : Int) : ByteArray := if n < 0 then (⟨#[]⟩ : ByteArray) else if n ≥ (a.size : Int) then (⟨#[]⟩ : ByteArray) else Pure.first a n.toNat tbl
theorem signAt_eq (a : ByteArray) (n : Int) : ∃ k, impl_SignAt.f k a n = some (signAt a n) := by
  apply W.eq
  unfold impl_SignAt.f signAt
  refine W.ite (fun h => W.ret (by rw [if_pos h])) (fun h => ?_)
  refine W.ite (fun h2 => W.ret (by rw [if_neg h, if_pos h2])) (fun h2 => ?_)
  rw [if_neg h, if_neg h2]
  obtain ⟨m, rfl⟩ := Int.eq_ofNat_of_zero_le (show 0 ≤ n by omega)
  exact Pure.iLoop (by omega)
theorem signAt_calls (a : ByteArray) (n : Int) (w : World) (hT : Tab w) : Calls Tryd.prog 9 #[.string a, .int .i64 n] w fun e w' => e = .returned (.string (signAt a n)) ∧ Drawn0 w w' := by
  obtain ⟨k, h⟩ := signAt_eq a n
  exact impl_SignAt.calls k a n _ w hT h
theorem clone_calls (a : ByteArray) (w : World) (h : a.size ≤ 281474976710656) : Calls Tryd.prog 46 #[.string a] w fun e w' => e = .returned (.string a) ∧ Below w.heap.size w w' := by
  go_enter Tryd.func46, Tryd.ntmps46
  go_wp2_with (first | (go_at_call 53; refine (Tryd.stringslite_Clone a _ h).mono ?_; rintro e w2 ⟨rfl, hb⟩))
  go_ret
  exact ⟨rfl, hb⟩
theorem atoi_calls (s : ByteArray) (n : Int) (w : World) (hl : s.size ≤ 18) (h : Lib.atoi s.data.toList = some n) : Calls Tryd.prog 54 #[.string s] w fun e w' => e = .returned (.tuple #[.int .i64 n, .nilIface]) ∧ Below w.heap.size w w' := by
  refine (Tryd.strconv_Atoi s n hl h w).mono ?_
  rintro e w' ⟨rfl, t, rfl⟩
  exact ⟨rfl, Go.Joins.below_bytesWorld _ _ _ _ (Nat.le_refl _)⟩
end Go.Proofs.YtnbpgnkplahknaaDoor.Base
