import Derived.Test.YtnmccgjdnceheaaVWords
namespace Go.Proofs.YtnmccgjdnceheaaSv
open Go.RowKit Go.Proofs.YtnmccgjdnceheaaV.PrintWords
set_option linter.unusedVariables false
theorem hz {A B : Prop} (h : A) (f : A → B := by intro h_; repeat (first | (with_reducible first | exact h_ | apply below_alloc | apply pw_below_drewN | apply below_drew1) | exact h_)) : B := f h
theorem hz1 {A G0 B : Prop} (h : A) (g0 : G0) (f : A → G0 → B := by intro h_ g0_; repeat (first | (with_reducible first | exact h_ | apply below_alloc | apply pw_below_drewN | apply below_drew1 | refine below_set ?_ g0_) | exact h_)) : B := f h g0
theorem hz2 {A G0 G1 B : Prop} (h : A) (g0 : G0) (g1 : G1) (f : A → G0 → G1 → B := by intro h_ g0_ g1_; repeat (first | (with_reducible first | exact h_ | apply below_alloc | apply pw_below_drewN | apply below_drew1 | refine below_set ?_ g0_ | refine below_set ?_ g1_) | exact h_)) : B := f h g0 g1
theorem Z {A B : Prop} (h : Aside0 A) (f : A → B := by intro h_; (with_reducible repeat (first | refine blk_drewN ?_ _ | refine blk_drew ?_ | refine blk_alloc ?_ _)); exact h_) : B := f h.out
theorem Y0 {A B : Prop} (h : Aside0 A)  (f : A → B := by intro h_ ; repeat (first | (with_reducible first | exact h_ | apply below_alloc | apply pw_below_drewN | apply below_drew1) | exact h_)) : B := f h.out 
theorem Y1 {A G0 B : Prop} (h : Aside0 A) (g0 : Aside0 G0) (f : A → G0 → B := by intro h_ g0_; repeat (first | (with_reducible first | exact h_ | apply below_alloc | apply pw_below_drewN | apply below_drew1 | refine below_set ?_ g0_) | exact h_)) : B := f h.out g0.out
theorem Y2 {A G0 G1 B : Prop} (h : Aside0 A) (g0 : Aside0 G0) (g1 : Aside0 G1) (f : A → G0 → G1 → B := by intro h_ g0_ g1_; repeat (first | (with_reducible first | exact h_ | apply below_alloc | apply pw_below_drewN | apply below_drew1 | refine below_set ?_ g0_ | refine below_set ?_ g1_) | exact h_)) : B := f h.out g0.out g1.out
theorem Y3 {A G0 G1 G2 B : Prop} (h : Aside0 A) (g0 : Aside0 G0) (g1 : Aside0 G1) (g2 : Aside0 G2) (f : A → G0 → G1 → G2 → B := by intro h_ g0_ g1_ g2_; repeat (first | (with_reducible first | exact h_ | apply below_alloc | apply pw_below_drewN | apply below_drew1 | refine below_set ?_ g0_ | refine below_set ?_ g1_ | refine below_set ?_ g2_) | exact h_)) : B := f h.out g0.out g1.out g2.out
theorem Y4 {A G0 G1 G2 G3 B : Prop} (h : Aside0 A) (g0 : Aside0 G0) (g1 : Aside0 G1) (g2 : Aside0 G2) (g3 : Aside0 G3) (f : A → G0 → G1 → G2 → G3 → B := by intro h_ g0_ g1_ g2_ g3_; repeat (first | (with_reducible first | exact h_ | apply below_alloc | apply pw_below_drewN | apply below_drew1 | refine below_set ?_ g0_ | refine below_set ?_ g1_ | refine below_set ?_ g2_ | refine below_set ?_ g3_) | exact h_)) : B := f h.out g0.out g1.out g2.out g3.out
theorem nz {B : Prop} (f : B := by first | (simp only [putAll, Act.put, List.setIfInBounds_toArray, List.set_cons_zero, List.set_cons_succ]; done) | (simp only [putAll, Act.put, List.setIfInBounds_toArray, List.set_cons_zero, List.set_cons_succ]; rfl)) : B := f
theorem ng {W : World} {g0 g : Nat} {o : Obj} (hg : g0 = W.heap.size) (h : W.heap[g]? = some o) : g0 ≠ g := by rw [hg]; exact Nat.ne_of_gt (blk_lt h)
theorem nl {W : World} {g0 g : Nat} {o : Obj} (hg : g0 = W.heap.size) (h : W.heap[g]? = some o) : g ≠ g0 := by rw [hg]; exact Nat.ne_of_lt (blk_lt h)
theorem am {p : Prop} (h : p) : Aside0 p := Aside0.mk h
theorem pz {B : Prop} (f : B := by simp only [Act.put, List.setIfInBounds_toArray, List.set_cons_zero, List.set_cons_succ, i64_w, i32_w]; rfl) : B := f
theorem mz {B : Prop} (f : B := by (try simp only [List.map_toArray, List.map_cons, List.map_nil]); first | done | rfl | (simp only [List.length_drop, List.length_take]; rfl)) : B := f
theorem oz {p : Prop} [Decidable p] (f : decide p = true := by first | (with_reducible assumption) | assumption) : p := of_decide_eq_true f
theorem bc {w : World} {g : Nat} {t : TypeId} {cs : Array Value} {v : Value} (h : Aside0 (w.heap[g]? = some (.cells cs t (0, 0)))) (i : Nat) (e : cs[i]? = some v := by exact rfl) : w.cell? ⟨g, i, none⟩ = some v := (blk_cell h.out i).trans e
abbrev b2 (x y : Int) (t : TypeId) : Obj := .cells #[.int .i64 x, .int .i64 y] t (0, 0)
abbrev b4 (x y z u : Int) (t : TypeId) : Obj := .cells #[.int .i64 x, .int .i64 y, .int .i64 z, .int .i64 u] t (0, 0)
abbrev T : Bool := true
abbrev F : Bool := false
theorem gz {B : Prop} (f : B := by intro w'; go_simp; with_reducible rfl) : B := f
end Go.Proofs.YtnmccgjdnceheaaSv
