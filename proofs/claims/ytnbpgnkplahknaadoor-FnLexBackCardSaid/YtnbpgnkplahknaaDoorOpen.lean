/- How arguments that are slices (of numbers, bools, strings, structs) are laid open: what the row's form reads is turned to the words of the printed contracts. -/
import Derived.Test.YtnbpgnkplahknaaDoorWWords
import Derived.OpenShut
import Derived.SizedLaws
import Derived.Lib.SmallJoins
namespace Go.Proofs.YtnbpgnkplahknaaDoor.Open
open Go Go.RowKit Go.Proofs.YtnbpgnkplahknaaDoorW.PrintWords
set_option linter.unusedVariables false

/-- Whatever reads at type e is told by the kind d, and is as Q says. -/
def Opens {H : Type} (enc : TypeId × Value → H) (P : Program) (W : World) (e : TypeId) {α : Type} (d : Kd α) (Q : α → Prop) : Prop :=
  ∀ (fuel : Nat) (cs : List Value) (y : DataW H × List MemPlace), DataW.trod enc P W 0 (fun _ => true) true fuel e cs = some y → ∃ p, d.K W p cs ∧ Q p

theorem pick_list {α : Type} (R : Nat → α → Prop) : ∀ n : Nat, (∀ i, i < n → ∃ p, R i p) → ∃ xs : List α, xs.length = n ∧ ∀ i p, xs[i]? = some p → R i p
  | 0, _ => ⟨[], rfl, fun i p h => by simp at h⟩
  | n + 1, h => by
    obtain ⟨xs, hl, hx⟩ := pick_list R n (fun i hi => h i (by omega))
    obtain ⟨p, hp⟩ := h n (by omega)
    refine ⟨xs ++ [p], by simp [hl], fun i q hq => ?_⟩
    by_cases hi : i < n
    · rw [List.getElem?_append_left (by omega)] at hq; exact hx i q hq
    · obtain ⟨hlt, _⟩ := List.getElem?_eq_some_iff.1 hq
      have e : i = n := by simp [hl] at hlt; omega
      subst e
      rw [List.getElem?_append_right (by omega)] at hq
      simp [hl] at hq; subst hq; exact hp

theorem openC {H : Type} {enc : TypeId × Value → H} {P : Program} {W : World} {t e : TypeId} {α : Type} {d : Kd α} {Q : α → Prop} (ht : P.underlying t = some (.slice e)) (hsz : P.cellsOf e = d.sz)
    (hel : Opens enc P W e d Q) {fuel : Nat} {cs : List Value} {y : DataW H × List MemPlace} (h : DataW.trod enc P W 0 (fun _ => true) true fuel t cs = some y) :
    ∃ (A : Option Addr) (c : Nat) (xs : List α), cs = [.slice A xs.length c] ∧ xs.length ≤ c ∧ c ≤ maxLen ∧ d.C W A xs.length xs ∧ ∀ x ∈ xs, Q x := by
  rcases DataW.trod_slice ht h with ⟨rfl, _⟩ | ⟨a, len, cap, elems, rest, n, _, rfl, _, hb, hl, hm, hlen, he, _⟩
  · exact ⟨none, 0, [], rfl, by simp, by simp [maxLen], ⟨rfl, by simp, fun h0 => by simp at h0⟩, fun x hx => by simp at hx⟩
  · obtain ⟨xs, hxl, hx⟩ := pick_list (fun i p => ∃ c, W.cells? 0 (a.add (i * P.cellsOf e)) (P.cellsOf e) = some c ∧ d.K W p c ∧ Q p) len (fun i hi => by
      have h1 := he i hi
      rw [List.getElem?_eq_getElem (by omega)] at h1
      obtain ⟨c, hc, hd⟩ := Option.bind_eq_some_iff.1 h1
      obtain ⟨p, hp, hq⟩ := hel _ _ _ hd
      exact ⟨p, c, hc, hp, hq⟩)
    subst hxl
    refine ⟨some a, cap, xs, rfl, hl, hm, ⟨rfl, by unfold maxLen at hm; omega, fun _ => ⟨a, rfl, fun j p hj => ?_⟩⟩, fun x hx' => ?_⟩
    · obtain ⟨c, hc, hk, _⟩ := hx j p hj
      obtain ⟨_, hcl, hcc⟩ := World.cells?_some hc
      refine ⟨c, by rw [hcl, hsz], hk, fun i u hu => ?_⟩
      obtain ⟨hi, _⟩ := List.getElem?_eq_some_iff.1 hu
      have := hcc i (by omega)
      rw [hu, hsz] at this
      rw [← this, Addr.add_add]
    · obtain ⟨i, hi⟩ := List.mem_iff_getElem?.1 hx'
      obtain ⟨_, _, _, hq⟩ := hx i x hi
      exact hq
section
variable {H : Type} {enc : TypeId × Value → H} {P : Program} {W : World} {e : TypeId}
theorem opensInt {k : IntKind} (he : P.underlying e = some (.int k)) : Opens enc P W e (Kd.int k) (fun n => (Lit.int k n).wf = true) := by
  intro fuel cs y h
  obtain ⟨n, rfl, _, hw⟩ := DataW.trod_int he h
  exact ⟨n, rfl, hw⟩
theorem opensBool (he : P.underlying e = some .bool) : Opens enc P W e Kd.bool (fun _ => True) := by
  intro fuel cs y h
  obtain ⟨n, rfl, _⟩ := DataW.trod_bool he h
  exact ⟨n, rfl, trivial⟩
theorem opensStr (he : P.underlying e = some .string) : Opens enc P W e Kd.string (fun s => s.size ≤ maxLen) := by
  intro fuel cs y h
  obtain ⟨s, rfl, _, hw⟩ := DataW.trod_string he h
  exact ⟨s, rfl, hw⟩
theorem opensSlice {e2 : TypeId} {α : Type} {d : Kd α} {Q : α → Prop} (he : P.underlying e = some (.slice e2)) (hsz : P.cellsOf e2 = d.sz) (hel : Opens enc P W e2 d Q) : Opens enc P W e (Kd.slice e2 d) (fun xs => xs.length ≤ maxLen ∧ ∀ x ∈ xs, Q x) := by
  intro fuel cs y h
  obtain ⟨A, c, xs, rfl, h1, h2, h3, h4⟩ := openC he hsz hel h
  exact ⟨xs, ⟨A, c, rfl, h1, h3⟩, by omega, h4⟩
end
/-- The fields of a struct all of whose fields have one cell. -/
theorem structFields {H : Type} {enc : TypeId × Value → H} {P : Program} {W : World} {t : TypeId} {fs : Array Field} {fuel : Nat} {cs : List Value} {y : DataW H × List MemPlace} (ht : P.underlying t = some (.struct fs))
    (hC : P.cellsOf t = fs.size) (hone : Deep.oneCellFields P fs = true)
    (h : DataW.trod enc P W 0 (fun _ => true) true fuel t cs = some y) : cs.length = fs.size ∧ ∃ n, ∀ (i : Nat) (f : Field) (v : Value), fs[i]? = some f → cs[i]? = some v → ∃ z, DataW.trod enc P W 0 (fun _ => true) true n f.type [v] = some z := by
  obtain ⟨xs, n, _, _, hl, hlen, hf⟩ := DataW.trod_struct ht h
  refine ⟨by omega, n, fun i f v hi hv => ?_⟩
  obtain ⟨o, k⟩ := Deep.hone_of hone i f hi
  have h1 := hf i f hi
  obtain ⟨hlt, _⟩ := Array.getElem?_eq_some_iff.1 hi
  rw [List.getElem?_eq_getElem (by omega), o, k] at h1
  obtain ⟨hci, hcv⟩ := List.getElem?_eq_some_iff.1 hv
  have e : (cs.drop i).take 1 = [v] := by
    rw [List.drop_eq_getElem_cons hci, hcv]; rfl
  rw [e] at h1
  exact ⟨_, h1⟩
end Go.Proofs.YtnbpgnkplahknaaDoor.Open
