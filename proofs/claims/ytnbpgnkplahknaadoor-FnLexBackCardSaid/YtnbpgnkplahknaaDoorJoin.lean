/- Texts joined: strings.Join over a row that is read. -/
import Derived.Test.YtnbpgnkplahknaaDoorBase
namespace Go.Proofs.YtnbpgnkplahknaaDoor.Base
open Go Go.RowKit Go.Proofs.YtnbpgnkplahknaaDoorW.PrintWords
set_option linter.unusedVariables false
set_option linter.unusedSimpArgs false
/-- The texts, one behind the other, with what parts them. -/
def joined (l : List ByteArray) (sep : ByteArray) : ByteArray := ⟨(Go.Lib.join (l.map (·.data.toList)) sep.data.toList).toArray⟩
theorem join_calls (A : Option Addr) (c : Nat) (l : List ByteArray) (sep : ByteArray) (w : World) (hr : Kd.C Kd.string w A l.length l) (hc : l.length ≤ c) (hN : l.length ≤ 140737488355328) (hlen : (joined l sep).size ≤ 140737488355328) :
    Calls Tryd.prog 32 #[.slice A l.length c, .string sep] w fun e w' => e = .returned (.string (joined l sep)) ∧ Below w.heap.size w w' := by
  cases l with
  | nil =>
    refine (Tryd.strings_Join_none A c sep w).mono ?_
    rintro e w' ⟨rfl, rfl⟩
    exact ⟨rfl, Below.refl _ _⟩
  | cons x r =>
    obtain ⟨_, _, hcell⟩ := hr
    obtain ⟨ad, rfl, hcl⟩ := hcell (by simp)
    obtain ⟨bk, o, sp⟩ := ad
    have hget : ∀ (j : Nat) y, (x :: r)[j]? = some y → w.cell? ((⟨bk, o, sp⟩ : Addr).add j) = some (.string y) := by
      intro j y hj
      obtain ⟨cs, _, hk, hu⟩ := hcl j y hj
      have h2 : cs = [.string y] := hk
      subst h2
      have := hu 0 (.string y) rfl
      rw [show Kd.string.sz = 1 from rfl, Nat.mul_one, Nat.add_zero] at this
      exact this
    have h0 := hget 0 x rfl
    have hsp : sp = none := by
      cases sp with
      | none => rfl
      | some s =>
        exfalso
        simp only [Addr.add, if_true] at h0
        unfold World.cell? at h0
        split at h0
        · simp at h0
        · cases h0
    subst hsp
    have hcells : ∀ (j : Nat) y, (x :: r)[j]? = some y → w.cell? ⟨bk, o + j, none⟩ = some (.string y) := by
      intro j y hj
      have := hget j y hj
      by_cases hz : j = 0
      · subst hz; simpa [Addr.add] using this
      · simpa [Addr.add, hz] using this
    have h0 := hcells 0 x rfl
    have hbk : bk < w.heap.size := by
      have := World.block_lt_of_cell? w _ h0
      exact this
    have hlen' : (Go.Lib.join ((x :: r).map (·.data.toList)) sep.data.toList).length ≤ 140737488355328 := by
      have e : (joined (x :: r) sep).size = (Go.Lib.join ((x :: r).map (·.data.toList)) sep.data.toList).length := by
        show (Go.Lib.join ((x :: r).map (·.data.toList)) sep.data.toList).toArray.size = _
        rw [List.size_toArray]
      rw [← e]; exact hlen
    exact Tryd.strings_Join bk o c (x :: r) sep w hcells hbk hN hc hlen'
end Go.Proofs.YtnbpgnkplahknaaDoor.Base
