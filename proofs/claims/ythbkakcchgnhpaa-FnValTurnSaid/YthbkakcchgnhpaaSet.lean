/- Whether a cell is there, behind a store: the walk asks it at each store, and asks less deep with this law. -/
import Derived.WalkKit
namespace Go.Proofs.YthbkakcchgnhpaaSet
open Go
/-- A store leaves no cell and lays none: asked for first where a cell was stored into more than once. -/
theorem isSome_setCell (w : World) (a b : Addr) (v : Value) : ((w.setCell a v).cell? b).isSome = (w.cell? b).isSome := by
  simp only [World.cell?, World.setCell, Array.getElem?_modify]
  by_cases h : a.block = b.block
  · rw [if_pos h]
    cases w.heap[b.block]? with
    | none => rfl
    | some o =>
      cases o <;> simp only [Option.map_some]
      by_cases hs : b.spot.isSome = true
      · simp [hs]
      · by_cases ha : a.spot.isSome = true
        · simp [ha]
        · simp only [hs, ha]
          rw [Bool.eq_iff_iff]
          simp [Array.getElem?_setIfInBounds]
          try (split <;> simp_all)
  · rw [if_neg h]
end Go.Proofs.YthbkakcchgnhpaaSet
