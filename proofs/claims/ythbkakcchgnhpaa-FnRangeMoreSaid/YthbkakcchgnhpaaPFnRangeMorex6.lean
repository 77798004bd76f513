/- Written by this session's own driver (wip/dprint.py): the functions that the law FnRangeMore reaches, as Lean functions, each with its contract. -/
import Derived.Test.YthbkakcchgnhpaaPFnRangeMorex0
import Derived.Test.YthbkakcchgnhpaaPFnRangeMorex3
import Derived.Test.YthbkakcchgnhpaaPFnRangeMorex5
import Derived.Test.YthbkakcchgnhpaaSv
namespace Go.Proofs.Ythbkakcchgnhpaa.PFnRangeMore
open Go.RowKit Go.Proofs.YthbkakcchgnhpaaV.PrintWords Go.Proofs.YthbkakcchgnhpaaV.PrintLast Go.Proofs.YthbkakcchgnhpaaV.PrintMore Go.Proofs.YthbkakcchgnhpaaSv
attribute [local go_sem] max2_int min2_int max_two min_two max_three min_three max_four min_four   -- for this text's walks alone
set_option linter.unusedVariables false
set_option linter.unusedSimpArgs false

/-- A state of type 67 at block g of W; what its slices lead to came in by w0. -/
def IsS67 (w1 W : World) (g : Nat) (f0 : Bool) (f1 : Int) (f2 : Int) : Prop := W.heap[g]? = some (.cells #[.bool f0, .int .i64 f1, .int .i64 f2] 67 (0, 0)) ∧ w1.heap.size ≤ g
theorem IsS67.grown {w0 W : World} {g : Nat} {f0 : Bool} {f1 : Int} {f2 : Int} {W1 : World} {row : Option Nat} (h : IsS67 w0 W g f0 f1 f2) (hw : W.grownBy W1 row) (hne : some g ≠ row) : IsS67 w0 W1 g f0 f1 f2 := by
 obtain ⟨hb, hg⟩ := h
 exact ⟨blk_grown hb hw hne, hg⟩
theorem IsS67.own_neN {w0 W : World} {g : Nat} {f0 : Bool} {f1 : Int} {f2 : Int} {α : Type} {d : Kd α} {e : Nat} {base : Nat} {ok : Nat → Prop} {v : Value} {xs : List α} (h : IsS67 w0 W g f0 f1 f2) (ho : Kd.N d e W base ok v xs) (ht : e ≠ 67) : some g ≠ v.ownBlock := by
 obtain ⟨hb, hg⟩ := h
 exact Kd.N_ne ho hb ht
theorem IsS67.fresh {w0 W : World} {g : Nat} {f0 : Bool} {f1 : Int} {f2 : Int} (h : IsS67 w0 W g f0 f1 f2) : ∀ k, W.heap.size ≤ k → k ≠ g := by
 obtain ⟨hb, hg⟩ := h
 exact Kd.freshB hb
theorem IsS67.kept {w0 W : World} {g : Nat} {f0 : Bool} {f1 : Int} {f2 : Int} {W1 : World} {S : Nat → Prop} (h : IsS67 w0 W g f0 f1 f2) (hk : Kept W W1 S) (hne : ¬ S g) : IsS67 w0 W1 g f0 f1 f2 := by
 obtain ⟨hb, hg⟩ := h
 exact ⟨blk_kept hb hk hne, hg⟩
theorem IsS67.below {w0 W : World} {g : Nat} {f0 : Bool} {f1 : Int} {f2 : Int} {W1 : World} (h : IsS67 w0 W g f0 f1 f2) (hw : Below W.heap.size W W1) : IsS67 w0 W1 g f0 f1 f2 := h.grown (grown_of_below hw none) (by simp)
theorem IsS67.alloc {w0 W : World} {g : Nat} {f0 : Bool} {f1 : Int} {f2 : Int} (h : IsS67 w0 W g f0 f1 f2) (o : Obj) : IsS67 w0 (W.alloc o) g f0 f1 f2 := h.below (below_alloc (Below.refl _ _) o)
theorem IsS67.drewN {w0 W : World} {g : Nat} {f0 : Bool} {f1 : Int} {f2 : Int} (h : IsS67 w0 W g f0 f1 f2) (m : Nat) : IsS67 w0 (W.drewN m) g f0 f1 f2 := h
theorem IsS67.drew {w0 W : World} {g : Nat} {f0 : Bool} {f1 : Int} {f2 : Int} (h : IsS67 w0 W g f0 f1 f2) : IsS67 w0 W.drew g f0 f1 f2 := h
theorem IsS67.at_ {w0 W : World} {g : Nat} {f0 : Bool} {f1 : Int} {f2 : Int} {w' : World} {m : Nat} (hq : W.drewN m = w') (h : IsS67 w0 W g f0 f1 f2) : IsS67 w0 w' g f0 f1 f2 := by subst hq; exact IsS67.drewN h m
theorem IsS67.apart {w0 W : World} {g : Nat} {f0 : Bool} {f1 : Int} {f2 : Int} {α : Type} {d : Kd α} {e : Nat} {base : Nat} {ok : Nat → Prop} {v : Value} {xs : List α} (h : IsS67 w0 W g f0 f1 f2) (ho : d.R e W base ok v xs) (ht : ∀ q, q ∈ e :: d.E → q ≠ 67) : d.R e W base (fun k => ok k ∧ k ≠ g) v xs := by
 obtain ⟨hb, hg⟩ := h
 exact Kd.R_types ho hb ht
theorem IsS67.own_ne {w0 W : World} {g : Nat} {f0 : Bool} {f1 : Int} {f2 : Int} {α : Type} {d : Kd α} {e : Nat} {base : Nat} {ok : Nat → Prop} {v : Value} {xs : List α} (h : IsS67 w0 W g f0 f1 f2) (ho : d.R e W base ok v xs) (ht : e ≠ 67) : some g ≠ v.ownBlock := by
 obtain ⟨hb, hg⟩ := h
 exact Kd.R_ne ho hb ht
theorem IsS67.apartQ {w0 W : World} {g : Nat} {f0 : Bool} {f1 : Int} {f2 : Int} {α : Type} {d : Kd α} {e : Nat} {base : Nat} {ok : Nat → Prop} {v : Value} {xs : List α} (h : IsS67 w0 W g f0 f1 f2) (ho : d.Q e W base ok v xs) (ht : ∀ q, q ∈ e :: d.E → q ≠ 67) : d.Q e W base (fun k => ok k ∧ k ≠ g) v xs := by
 obtain ⟨hb, hg⟩ := h
 exact Kd.Q_types ho hb ht
theorem IsS67.own_neQ {w0 W : World} {g : Nat} {f0 : Bool} {f1 : Int} {f2 : Int} {α : Type} {d : Kd α} {e : Nat} {base : Nat} {ok : Nat → Prop} {v : Value} {xs : List α} (h : IsS67 w0 W g f0 f1 f2) (ho : d.Q e W base ok v xs) (ht : e ≠ 67) : some g ≠ v.ownBlock := by
 obtain ⟨hb, hg⟩ := h
 exact Kd.Q_ne ho hb ht
theorem IsS67.apartS {w0 W : World} {g : Nat} {f0 : Bool} {f1 : Int} {f2 : Int} {α : Type} {d : Kd α} {e : Nat} {base : Nat} {ok : Nat → Prop} {v : Value} {xs : List α} (h : IsS67 w0 W g f0 f1 f2) (ho : d.S e W base ok v xs) (ht : ∀ q, q ∈ e :: d.E → q ≠ 67) : d.S e W base (fun k => ok k ∧ k ≠ g) v xs := by
 obtain ⟨hb, hg⟩ := h
 exact Kd.S_types ho hb ht
theorem IsS67.own_neS {w0 W : World} {g : Nat} {f0 : Bool} {f1 : Int} {f2 : Int} {α : Type} {d : Kd α} {e : Nat} {base : Nat} {ok : Nat → Prop} {v : Value} {xs : List α} (h : IsS67 w0 W g f0 f1 f2) (ho : d.S e W base ok v xs) (ht : e ≠ 67) : some g ≠ v.ownBlock := by
 obtain ⟨hb, hg⟩ := h
 exact Kd.S_ne ho hb ht
theorem IsS67.lt {w0 W : World} {g : Nat} {f0 : Bool} {f1 : Int} {f2 : Int} (h : IsS67 w0 W g f0 f1 f2) : g < W.heap.size := by
 obtain ⟨hb, hg⟩ := h
 exact blk_lt hb
theorem IsS67.ge {w0 W : World} {g : Nat} {f0 : Bool} {f1 : Int} {f2 : Int} (h : IsS67 w0 W g f0 f1 f2) : w0.heap.size ≤ g := by
 obtain ⟨hb, hg⟩ := h
 exact hg
theorem IsS67.ne_blk {w0 W : World} {g : Nat} {f0 : Bool} {f1 : Int} {f2 : Int} {a : Nat} {cs : Array Value} {t : TypeId} {fr : Nat × Nat} (h : IsS67 w0 W g f0 f1 f2) (hb2 : W.heap[a]? = some (.cells cs t fr)) (ht : t ≠ 67) : g ≠ a := by
 obtain ⟨hb, hg⟩ := h
 rintro rfl
 rw [hb] at hb2
 injection hb2 with hb2
 injection hb2 with _ ht2
 exact ht ht2.symm
theorem IsS67.far {w0 W : World} {g : Nat} {f0 : Bool} {f1 : Int} {f2 : Int} {p : Addr} (h : IsS67 w0 W g f0 f1 f2) (hne : g ≠ p.block) (u : Value) : IsS67 w0 (W.setCell p u) g f0 f1 f2 := by
 obtain ⟨hb, hg⟩ := h
 exact ⟨blk_far hb hne u, hg⟩
theorem cellS67_0 {W : World} {g : Nat} {f0 : Bool} {f1 : Int} {f2 : Int} (h : W.heap[g]? = some (.cells #[.bool f0, .int .i64 f1, .int .i64 f2] 67 (0, 0))) : W.cell? ⟨g, 0, none⟩ = some (.bool f0) := (blk_cell h 0).trans rfl
theorem IsS67.set_0 {w0 W : World} {g : Nat} {f0 : Bool} {f1 : Int} {f2 : Int} (h : IsS67 w0 W g f0 f1 f2) (x : Bool) : IsS67 w0 (W.setCell ⟨g, 0, none⟩ (.bool x)) g x f1 f2 := by
 obtain ⟨hb, hg⟩ := h
 exact ⟨by simpa using blk_set hb 0 (.bool x), hg⟩
theorem cellS67_1 {W : World} {g : Nat} {f0 : Bool} {f1 : Int} {f2 : Int} (h : W.heap[g]? = some (.cells #[.bool f0, .int .i64 f1, .int .i64 f2] 67 (0, 0))) : W.cell? ⟨g, 1, none⟩ = some (.int .i64 f1) := (blk_cell h 1).trans rfl
theorem IsS67.set_1 {w0 W : World} {g : Nat} {f0 : Bool} {f1 : Int} {f2 : Int} (h : IsS67 w0 W g f0 f1 f2) (x : Int) : IsS67 w0 (W.setCell ⟨g, 1, none⟩ (.int .i64 x)) g f0 x f2 := by
 obtain ⟨hb, hg⟩ := h
 exact ⟨by simpa using blk_set hb 1 (.int .i64 x), hg⟩
theorem cellS67_2 {W : World} {g : Nat} {f0 : Bool} {f1 : Int} {f2 : Int} (h : W.heap[g]? = some (.cells #[.bool f0, .int .i64 f1, .int .i64 f2] 67 (0, 0))) : W.cell? ⟨g, 2, none⟩ = some (.int .i64 f2) := (blk_cell h 2).trans rfl
theorem IsS67.set_2 {w0 W : World} {g : Nat} {f0 : Bool} {f1 : Int} {f2 : Int} (h : IsS67 w0 W g f0 f1 f2) (x : Int) : IsS67 w0 (W.setCell ⟨g, 2, none⟩ (.int .i64 x)) g f0 f1 x := by
 obtain ⟨hb, hg⟩ := h
 exact ⟨by simpa using blk_set hb 2 (.int .i64 x), hg⟩
theorem IsS67.new (w0 W : World) (f0 : Bool) (f1 : Int) (f2 : Int) (hB : Below w0.heap.size w0 W) : IsS67 w0 (W.alloc (.cells #[.bool f0, .int .i64 f1, .int .i64 f2] 67)) W.heap.size f0 f1 f2 := ⟨by simpa using heap_alloc_new W _, hB.size⟩

/-! ### spec_l8R_add: function 92 -/
attribute [local go_sem] Go.Proofs.YthbkakcchgnhpaaSet.isSome_setCell
def spec_l8R_add.j0 : Nat → Int → Bool → Bool → Int → Int → Option (Bool × Int × Int)
 | 0, _, _, _, _, _ => none
 | k + 1, x1, x2, x3, x4, x5 => if x2 = true then (if x3 = true then (if x1 > x5 then (some (true, x1, x1)) else (some (true, x1, x5))) else (some (true, x1, x1))) else (if x3 = true then (if x1 > x5 then (some (true, x4, x1)) else (some (true, x4, x5))) else (some (true, x4, x1)))
def spec_l8R_add.f (k : Nat) (s0_0 : Bool) (s0_1 : Int) (s0_2 : Int) (a1 : Int) : Option (Bool × Int × Int) := if s0_0 = true then (spec_l8R_add.j0 k a1 (decide (a1 < s0_1)) s0_0 s0_1 s0_2) else (spec_l8R_add.j0 k a1 true s0_0 s0_1 s0_2)
theorem spec_l8R_add.mono_l : ∀ k, (∀ y0 y1 y2 y3 y4, LeO (spec_l8R_add.j0 k y0 y1 y2 y3 y4) (spec_l8R_add.j0 (k + 1) y0 y1 y2 y3 y4))
 | 0 => fun _ _ _ _ _ r h => by simp [spec_l8R_add.j0] at h
 | k + 1 => by
  have ih0 := spec_l8R_add.mono_l k
  ·intro y0 y1 y2 y3 y4
   unfold spec_l8R_add.j0
   repeat' first | (with_reducible first | apply ih0 | apply LeO.refl | apply LeO.none | refine LeO.ite ?_ ?_ | refine LeO.bind ?_ (fun _ => ?_)) | apply ih0 | apply LeO.none | refine LeO.ite ?_ ?_ | refine LeO.bind ?_ (fun _ => ?_)
theorem spec_l8R_add.mono : ∀ a0 a1 a2 a3 k, LeO (spec_l8R_add.f k a0 a1 a2 a3) (spec_l8R_add.f (k + 1) a0 a1 a2 a3) := by
 intro a0 a1 a2 a3 k
 have ih0 := spec_l8R_add.mono_l k
 unfold spec_l8R_add.f
 repeat' first | (with_reducible first | apply ih0 | apply LeO.refl | apply LeO.none | refine LeO.ite ?_ ?_ | refine LeO.bind ?_ (fun _ => ?_)) | apply ih0 | apply LeO.none | refine LeO.ite ?_ ?_ | refine LeO.bind ?_ (fun _ => ?_)
set_option maxHeartbeats 8000000 in
set_option maxRecDepth 100000 in
theorem spec_l8R_add.calls (k : Nat) (g : Nat) (s0_0 : Bool) (s0_1 : Int) (s0_2 : Int) (a1 : Int) (r1 : Bool) (r2 : Int) (r3 : Int) (w1 w : World) (hI : IsS67 w1 w g s0_0 s0_1 s0_2) (hB : Below w1.heap.size w1 w) (h : spec_l8R_add.f k s0_0 s0_1 s0_2 a1 = some (r1, r2, r3)) :
  Calls Try.prog 92 #[.pointer (some ⟨g, 0, none⟩), .int .i64 a1] w fun e w' => e = .returned (.tuple #[]) ∧ IsS67 w1 w' g r1 r2 r3 ∧ Below w1.heap.size w1 w' ∧ KeepBut w w' g none := by
 have I1 := am hI
 have HK := am (KeepBut.refl w g none)
 have HL := am hB.size
 clear hI
 have HW0 := am hB.size
 have HB := am hB
 clear hB
 have H : (if s0_0 = true then (spec_l8R_add.j0 k a1 (decide (a1 < s0_1)) s0_0 s0_1 s0_2) else (spec_l8R_add.j0 k a1 true s0_0 s0_1 s0_2)) = some (r1, r2, r3) := h
 clear h
 have C1 := am H
 clear H
 go_enter Try.func92, Try.ntmps92
 go_upto_region 0 with (fail)
 go_cut [16] (fun v1 wc => ∃ (kq : Nat) (x1 : Bool), v1 = .bool x1 ∧ Aside0 (spec_l8R_add.j0 kq a1 x1 s0_0 s0_1 s0_2 = some (r1, r2, r3)) ∧ Aside0 (kq ≤ k) ∧ Aside0 (IsS67 w1 wc g s0_0 s0_1 s0_2) ∧ Aside0 (KeepBut w wc g none) ∧ Aside0 (Below w1.heap.size w1 wc))
 case first =>
  have H := C1.out
  clear C1
  by_cases c1 : s0_0 = true
  ·subst c1
   rw [if_pos rfl] at H
   have H' := am H
   clear H
   obtain ⟨Z1, hgz5⟩ := I1.out
   have z1 := cellS67_0 Z1
   have z2 := cellS67_1 Z1
   have z3 := cellS67_2 Z1
   have z4 := blk_frozen Z1 0
   have z5 := blk_frozen Z1 1
   have z6 := blk_frozen Z1 2
   clear Z1 hgz5
   go_wp2
   go_meet
   case rel => exact ⟨_, (decide (a1 < s0_1)), ey, H', le0, ⟨by repeat (first | (with_reducible first | exact I1.out | apply IsS67.alloc | apply IsS67.drewN | apply IsS67.drew | apply IsS67.set_0 | apply IsS67.set_1 | apply IsS67.set_2) | exact I1.out)⟩, ⟨by repeat (first | (with_reducible first | exact HK.out | apply KeepBut.set_ | apply keep_drewN | apply keep_drew | apply keep_alloc) | exact HK.out)⟩, ⟨by repeat (first | (with_reducible first | exact HB.out | apply below_alloc | apply pw_below_drewN | apply below_drew1 | refine below_set ?_ (IsS67.ge I1.out)) | exact HB.out)⟩⟩
  replace c1 := Bool.eq_false_iff.mpr c1
  subst c1
  rw [if_neg ff] at H
  have H' := am H
  clear H
  obtain ⟨Z1, hgz6⟩ := I1.out
  have z1 := cellS67_0 Z1
  have z2 := cellS67_1 Z1
  have z3 := cellS67_2 Z1
  have z4 := blk_frozen Z1 0
  have z5 := blk_frozen Z1 1
  have z6 := blk_frozen Z1 2
  clear Z1 hgz6
  go_wp2
  go_meet
  case rel => exact ⟨_, (true), ey, H', le0, ⟨by repeat (first | (with_reducible first | exact I1.out | apply IsS67.alloc | apply IsS67.drewN | apply IsS67.drew | apply IsS67.set_0 | apply IsS67.set_1 | apply IsS67.set_2) | exact I1.out)⟩, ⟨by repeat (first | (with_reducible first | exact HK.out | apply KeepBut.set_ | apply keep_drewN | apply keep_drew | apply keep_alloc) | exact HK.out)⟩, ⟨by repeat (first | (with_reducible first | exact HB.out | apply below_alloc | apply pw_below_drewN | apply below_drew1 | refine below_set ?_ (IsS67.ge I1.out)) | exact HB.out)⟩⟩
 case rest =>
  clear C1
  obtain ⟨kq, x1, rfl, HA, J1, I1, HK, HB⟩ := hcut
  cases kq with
  | zero => exact absurd HA.out (by simp [spec_l8R_add.j0])
  | succ k1 =>
   have H := HA.out
   clear HA
   simp only [spec_l8R_add.j0] at H
   by_cases c1 : x1 = true
   ·subst c1
    rw [if_pos rfl] at H
    by_cases c2 : s0_0 = true
    rotate_left
    ·replace c2 := Bool.eq_false_iff.mpr c2
     subst c2
     rw [if_neg ff] at H
     simp only [Option.some.injEq, Prod.mk.injEq] at H
     obtain ⟨rfl, rfl, rfl⟩ := H
     obtain ⟨Z1, hgz12⟩ := I1.out
     have z1 := cellS67_0 Z1
     have z2 := cellS67_1 Z1
     have z3 := cellS67_2 Z1
     have z4 := blk_frozen Z1 0
     have z5 := blk_frozen Z1 1
     have z6 := blk_frozen Z1 2
     clear Z1 hgz12
     go_wp2
     first | go_end0 | ((try simp only [Exit.inBlock, Exit.then]); refine bodyPost_ret (results_none rfl _ _ _) rfl ?_)
     exact ⟨ez, by repeat (first | (with_reducible first | exact I1.out | apply IsS67.alloc | apply IsS67.drewN | apply IsS67.drew | apply IsS67.set_0 | apply IsS67.set_1 | apply IsS67.set_2) | exact I1.out), by repeat (first | (with_reducible first | exact HB.out | apply below_alloc | apply pw_below_drewN | apply below_drew1 | refine below_set ?_ (IsS67.ge I1.out)) | exact HB.out), by repeat (first | (with_reducible first | exact HK.out | apply KeepBut.set_ | apply keep_drewN | apply keep_drew | apply keep_alloc) | exact HK.out)⟩
    subst c2
    rw [if_pos rfl] at H
    by_cases c3 : a1 > s0_2
    ·rw [if_pos c3] at H
     have d1 := dT c3
     clear c3
     simp only [Option.some.injEq, Prod.mk.injEq] at H
     obtain ⟨rfl, rfl, rfl⟩ := H
     obtain ⟨Z1, hgz10⟩ := I1.out
     have z1 := cellS67_0 Z1
     have z2 := cellS67_1 Z1
     have z3 := cellS67_2 Z1
     have z4 := blk_frozen Z1 0
     have z5 := blk_frozen Z1 1
     have z6 := blk_frozen Z1 2
     clear Z1 hgz10
     go_wp2
     first | go_end0 | ((try simp only [Exit.inBlock, Exit.then]); refine bodyPost_ret (results_none rfl _ _ _) rfl ?_)
     exact ⟨ez, by repeat (first | (with_reducible first | exact I1.out | apply IsS67.alloc | apply IsS67.drewN | apply IsS67.drew | apply IsS67.set_0 | apply IsS67.set_1 | apply IsS67.set_2) | exact I1.out), by repeat (first | (with_reducible first | exact HB.out | apply below_alloc | apply pw_below_drewN | apply below_drew1 | refine below_set ?_ (IsS67.ge I1.out)) | exact HB.out), by repeat (first | (with_reducible first | exact HK.out | apply KeepBut.set_ | apply keep_drewN | apply keep_drew | apply keep_alloc) | exact HK.out)⟩
    rw [if_neg c3] at H
    have d1 := dF c3
    clear c3
    simp only [Option.some.injEq, Prod.mk.injEq] at H
    obtain ⟨rfl, rfl, rfl⟩ := H
    obtain ⟨Z1, hgz11⟩ := I1.out
    have z1 := cellS67_0 Z1
    have z2 := cellS67_1 Z1
    have z3 := cellS67_2 Z1
    have z4 := blk_frozen Z1 0
    have z5 := blk_frozen Z1 1
    have z6 := blk_frozen Z1 2
    clear Z1 hgz11
    go_wp2
    first | go_end0 | ((try simp only [Exit.inBlock, Exit.then]); refine bodyPost_ret (results_none rfl _ _ _) rfl ?_)
    exact ⟨ez, by repeat (first | (with_reducible first | exact I1.out | apply IsS67.alloc | apply IsS67.drewN | apply IsS67.drew | apply IsS67.set_0 | apply IsS67.set_1 | apply IsS67.set_2) | exact I1.out), by repeat (first | (with_reducible first | exact HB.out | apply below_alloc | apply pw_below_drewN | apply below_drew1 | refine below_set ?_ (IsS67.ge I1.out)) | exact HB.out), by repeat (first | (with_reducible first | exact HK.out | apply KeepBut.set_ | apply keep_drewN | apply keep_drew | apply keep_alloc) | exact HK.out)⟩
   replace c1 := Bool.eq_false_iff.mpr c1
   subst c1
   rw [if_neg ff] at H
   by_cases c2 : s0_0 = true
   rotate_left
   ·replace c2 := Bool.eq_false_iff.mpr c2
    subst c2
    rw [if_neg ff] at H
    simp only [Option.some.injEq, Prod.mk.injEq] at H
    obtain ⟨rfl, rfl, rfl⟩ := H
    obtain ⟨Z1, hgz17⟩ := I1.out
    have z1 := cellS67_0 Z1
    have z2 := cellS67_1 Z1
    have z3 := cellS67_2 Z1
    have z4 := blk_frozen Z1 0
    have z5 := blk_frozen Z1 1
    have z6 := blk_frozen Z1 2
    clear Z1 hgz17
    go_wp2
    first | go_end0 | ((try simp only [Exit.inBlock, Exit.then]); refine bodyPost_ret (results_none rfl _ _ _) rfl ?_)
    exact ⟨ez, by repeat (first | (with_reducible first | exact I1.out | apply IsS67.alloc | apply IsS67.drewN | apply IsS67.drew | apply IsS67.set_0 | apply IsS67.set_1 | apply IsS67.set_2) | exact I1.out), by repeat (first | (with_reducible first | exact HB.out | apply below_alloc | apply pw_below_drewN | apply below_drew1 | refine below_set ?_ (IsS67.ge I1.out)) | exact HB.out), by repeat (first | (with_reducible first | exact HK.out | apply KeepBut.set_ | apply keep_drewN | apply keep_drew | apply keep_alloc) | exact HK.out)⟩
   subst c2
   rw [if_pos rfl] at H
   by_cases c3 : a1 > s0_2
   ·rw [if_pos c3] at H
    have d1 := dT c3
    clear c3
    simp only [Option.some.injEq, Prod.mk.injEq] at H
    obtain ⟨rfl, rfl, rfl⟩ := H
    obtain ⟨Z1, hgz15⟩ := I1.out
    have z1 := cellS67_0 Z1
    have z2 := cellS67_1 Z1
    have z3 := cellS67_2 Z1
    have z4 := blk_frozen Z1 0
    have z5 := blk_frozen Z1 1
    have z6 := blk_frozen Z1 2
    clear Z1 hgz15
    go_wp2
    first | go_end0 | ((try simp only [Exit.inBlock, Exit.then]); refine bodyPost_ret (results_none rfl _ _ _) rfl ?_)
    exact ⟨ez, by repeat (first | (with_reducible first | exact I1.out | apply IsS67.alloc | apply IsS67.drewN | apply IsS67.drew | apply IsS67.set_0 | apply IsS67.set_1 | apply IsS67.set_2) | exact I1.out), by repeat (first | (with_reducible first | exact HB.out | apply below_alloc | apply pw_below_drewN | apply below_drew1 | refine below_set ?_ (IsS67.ge I1.out)) | exact HB.out), by repeat (first | (with_reducible first | exact HK.out | apply KeepBut.set_ | apply keep_drewN | apply keep_drew | apply keep_alloc) | exact HK.out)⟩
   rw [if_neg c3] at H
   have d1 := dF c3
   clear c3
   simp only [Option.some.injEq, Prod.mk.injEq] at H
   obtain ⟨rfl, rfl, rfl⟩ := H
   obtain ⟨Z1, hgz16⟩ := I1.out
   have z1 := cellS67_0 Z1
   have z2 := cellS67_1 Z1
   have z3 := cellS67_2 Z1
   have z4 := blk_frozen Z1 0
   have z5 := blk_frozen Z1 1
   have z6 := blk_frozen Z1 2
   clear Z1 hgz16
   go_wp2
   first | go_end0 | ((try simp only [Exit.inBlock, Exit.then]); refine bodyPost_ret (results_none rfl _ _ _) rfl ?_)
   exact ⟨ez, by repeat (first | (with_reducible first | exact I1.out | apply IsS67.alloc | apply IsS67.drewN | apply IsS67.drew | apply IsS67.set_0 | apply IsS67.set_1 | apply IsS67.set_2) | exact I1.out), by repeat (first | (with_reducible first | exact HB.out | apply below_alloc | apply pw_below_drewN | apply below_drew1 | refine below_set ?_ (IsS67.ge I1.out)) | exact HB.out), by repeat (first | (with_reducible first | exact HK.out | apply KeepBut.set_ | apply keep_drewN | apply keep_drew | apply keep_alloc) | exact HK.out)⟩

/-! ### spec_l8R_corners: function 42 -/
attribute [local go_sem] Go.Proofs.YthbkakcchgnhpaaSet.isSome_setCell
def spec_l8R_corners.f (k : Nat) (s0_0 : Bool) (s0_1 : Int) (s0_2 : Int) (a1 : Int) (a2_0 : Int) (a2_1 : Int) (a3_0 : Int) (a3_1 : Int) : Option (Bool × Int × Int) := (spec_l1Exact.f k a1 a2_0 a3_0).bind fun t1 => ((spec_l8R_add.f k s0_0 s0_1 s0_2 t1).bind fun u1 => ((spec_l1Exact.f k a1 a2_0 a3_1).bind fun t2 => ((spec_l8R_add.f k u1.1 u1.2.1 u1.2.2 t2).bind fun u2 => ((spec_l1Exact.f k a1 a2_1 a3_0).bind fun t3 => ((spec_l8R_add.f k u2.1 u2.2.1 u2.2.2 t3).bind fun u3 => ((spec_l1Exact.f k a1 a2_1 a3_1).bind fun t4 => ((spec_l8R_add.f k u3.1 u3.2.1 u3.2.2 t4).bind fun u4 => (some (u4.1, u4.2.1, u4.2.2)))))))))
theorem spec_l8R_corners.mono : ∀ a0 a1 a2 a3 a4 a5 a6 a7 k, LeO (spec_l8R_corners.f k a0 a1 a2 a3 a4 a5 a6 a7) (spec_l8R_corners.f (k + 1) a0 a1 a2 a3 a4 a5 a6 a7) := by
 intro a0 a1 a2 a3 a4 a5 a6 a7 k
 unfold spec_l8R_corners.f
 repeat' first | (with_reducible first | apply spec_l1Exact.mono | apply spec_l8R_add.mono | apply LeO.refl | apply LeO.none | refine LeO.ite ?_ ?_ | refine LeO.bind ?_ (fun _ => ?_)) | apply spec_l1Exact.mono | apply spec_l8R_add.mono | apply LeO.none | refine LeO.ite ?_ ?_ | refine LeO.bind ?_ (fun _ => ?_)
set_option maxHeartbeats 8000000 in
set_option maxRecDepth 100000 in
theorem spec_l8R_corners.calls (k : Nat) (g : Nat) (s0_0 : Bool) (s0_1 : Int) (s0_2 : Int) (a1 : Int) (a2_0 : Int) (a2_1 : Int) (a3_0 : Int) (a3_1 : Int) (r1 : Bool) (r2 : Int) (r3 : Int) (w1 w : World) (hI : IsS67 w1 w g s0_0 s0_1 s0_2) (hB : Below w1.heap.size w1 w) (h : spec_l8R_corners.f k s0_0 s0_1 s0_2 a1 a2_0 a2_1 a3_0 a3_1 = some (r1, r2, r3)) :
  Calls Try.prog 42 #[.pointer (some ⟨g, 0, none⟩), .int .i64 a1, .agg #[.int .i64 a2_0, .int .i64 a2_1], .agg #[.int .i64 a3_0, .int .i64 a3_1]] w fun e w' => e = .returned (.tuple #[]) ∧ IsS67 w1 w' g r1 r2 r3 ∧ Below w1.heap.size w1 w' ∧ KeepBut w w' g none := by
 have hu24 := Try.underlying24
 have I1 := am hI
 have HK := am (KeepBut.refl w g none)
 have HL := am hB.size
 clear hI
 have HW0 := am hB.size
 have HB := am hB
 clear hB
 have H : ((spec_l1Exact.f k a1 a2_0 a3_0).bind fun t1 => ((spec_l8R_add.f k s0_0 s0_1 s0_2 t1).bind fun u1 => ((spec_l1Exact.f k a1 a2_0 a3_1).bind fun t2 => ((spec_l8R_add.f k u1.1 u1.2.1 u1.2.2 t2).bind fun u2 => ((spec_l1Exact.f k a1 a2_1 a3_0).bind fun t3 => ((spec_l8R_add.f k u2.1 u2.2.1 u2.2.2 t3).bind fun u3 => ((spec_l1Exact.f k a1 a2_1 a3_1).bind fun t4 => ((spec_l8R_add.f k u3.1 u3.2.1 u3.2.2 t4).bind fun u4 => (some (u4.1, u4.2.1, u4.2.2)))))))))) = some (r1, r2, r3) := h
 clear h
 obtain ⟨t1, A1, H⟩ := bd H
 try dsimp only at H
 obtain ⟨⟨t5, t6, t7⟩, A2, H⟩ := bd H
 try dsimp only at H
 obtain ⟨t2, A3, H⟩ := bd H
 try dsimp only at H
 obtain ⟨⟨t8, t9, t10⟩, A4, H⟩ := bd H
 try dsimp only at H
 obtain ⟨t3, A5, H⟩ := bd H
 try dsimp only at H
 obtain ⟨⟨t11, t12, t13⟩, A6, H⟩ := bd H
 try dsimp only at H
 obtain ⟨t4, A7, H⟩ := bd H
 try dsimp only at H
 obtain ⟨⟨t14, t15, t16⟩, A8, H⟩ := bd H
 try dsimp only at H
 simp only [Option.some.injEq, Prod.mk.injEq] at H
 obtain ⟨rfl, rfl, rfl⟩ := H
 go_enter Try.func42, Try.ntmps42
 go_wp2_with (first | ((with_reducible refine gate_dst (N := 6) rfl ?_); refine bx 6 #[.int .i64 a2_0, .int .i64 a2_1] 24 ?_; intro g1 hg w2 hbox hb; have K1 := am (hbox); have G1 := am ((by rw [hg]; exact (keep_size (w := w) (g := g) (row := none) (by repeat (first | (with_reducible first | exact HK.out | apply KeepBut.set_ | apply keep_drewN | apply keep_drew | apply keep_alloc) | exact HK.out))) : w.heap.size ≤ g1)); have G2 := am ((Nat.le_trans HW0.out (by rw [hg]; exact (keep_size (w := w) (g := g) (row := none) (by repeat (first | (with_reducible first | exact HK.out | apply KeepBut.set_ | apply keep_drewN | apply keep_drew | apply keep_alloc) | exact HK.out))) : w.heap.size ≤ g1) : w1.heap.size ≤ g1)); have N1 := am ((by rw [hg]; exact Nat.ne_of_lt (IsS67.lt (show IsS67 w1 _ g s0_0 s0_1 s0_2 from by repeat (first | (with_reducible first | exact I1.out | apply IsS67.alloc | apply IsS67.drewN | apply IsS67.drew | apply IsS67.set_0 | apply IsS67.set_1 | apply IsS67.set_2) | exact I1.out))) : g ≠ g1)); have N2 := am ((by rw [hg]; exact Nat.ne_of_gt (IsS67.lt (show IsS67 w1 _ g s0_0 s0_1 s0_2 from by repeat (first | (with_reducible first | exact I1.out | apply IsS67.alloc | apply IsS67.drewN | apply IsS67.drew | apply IsS67.set_0 | apply IsS67.set_1 | apply IsS67.set_2) | exact I1.out))) : g1 ≠ g)); replace HK := am (KeepBut.trans (by repeat (first | (with_reducible first | exact HK.out | apply KeepBut.set_ | apply keep_drewN | apply keep_drew | apply keep_alloc) | exact HK.out)) (KeepBut.of_below hb g none) (.inl rfl)); replace HB := am (below_step (by repeat (first | (with_reducible first | exact HB.out | apply below_alloc | apply pw_below_drewN | apply below_drew1 | refine below_set ?_ (IsS67.ge I1.out)) | exact HB.out)) hb); replace I1 := am (IsS67.below (by repeat (first | (with_reducible first | exact I1.out | apply IsS67.alloc | apply IsS67.drewN | apply IsS67.drew | apply IsS67.set_0 | apply IsS67.set_1 | apply IsS67.set_2) | exact I1.out)) hb); clear hb hbox hg) | ((with_reducible refine gate_dst (N := 7) rfl ?_); refine bx 7 #[.int .i64 a3_0, .int .i64 a3_1] 24 ?_; intro g2 hg w3 hbox hb; have K2 := am (hbox); have G3 := am ((by rw [hg]; exact (keep_size (w := w) (g := g) (row := none) (by repeat (first | (with_reducible first | exact HK.out | apply KeepBut.set_ | apply keep_drewN | apply keep_drew | apply keep_alloc | refine keep_far ?_ G1.out _) | exact HK.out))) : w.heap.size ≤ g2)); have G4 := am ((Nat.le_trans HW0.out (by rw [hg]; exact (keep_size (w := w) (g := g) (row := none) (by repeat (first | (with_reducible first | exact HK.out | apply KeepBut.set_ | apply keep_drewN | apply keep_drew | apply keep_alloc | refine keep_far ?_ G1.out _) | exact HK.out))) : w.heap.size ≤ g2) : w1.heap.size ≤ g2)); obtain ⟨N3,N4⟩ := ne_ hg K1; have N5 := am ((by rw [hg]; exact Nat.ne_of_lt (IsS67.lt (show IsS67 w1 _ g s0_0 s0_1 s0_2 from by repeat (first | (with_reducible first | exact I1.out | apply IsS67.alloc | apply IsS67.drewN | apply IsS67.drew | apply IsS67.set_0 | apply IsS67.set_1 | apply IsS67.set_2 | refine IsS67.far ?_ N1.out _) | exact I1.out))) : g ≠ g2)); have N6 := am ((by rw [hg]; exact Nat.ne_of_gt (IsS67.lt (show IsS67 w1 _ g s0_0 s0_1 s0_2 from by repeat (first | (with_reducible first | exact I1.out | apply IsS67.alloc | apply IsS67.drewN | apply IsS67.drew | apply IsS67.set_0 | apply IsS67.set_1 | apply IsS67.set_2 | refine IsS67.far ?_ N1.out _) | exact I1.out))) : g2 ≠ g)); replace K1 := bb K1 hb; replace HK := am (KeepBut.trans (by repeat (first | (with_reducible first | exact HK.out | apply KeepBut.set_ | apply keep_drewN | apply keep_drew | apply keep_alloc | refine keep_far ?_ G1.out _) | exact HK.out)) (KeepBut.of_below hb g none) (.inl rfl)); replace HB := am (below_step (by repeat (first | (with_reducible first | exact HB.out | apply below_alloc | apply pw_below_drewN | apply below_drew1 | refine below_set ?_ (IsS67.ge I1.out) | refine below_set ?_ G2.out) | exact HB.out)) hb); replace I1 := am (IsS67.below (by repeat (first | (with_reducible first | exact I1.out | apply IsS67.alloc | apply IsS67.drewN | apply IsS67.drew | apply IsS67.set_0 | apply IsS67.set_1 | apply IsS67.set_2 | refine IsS67.far ?_ N1.out _) | exact I1.out)) hb); clear hb hbox hg; have z_ := ns3 N3 N2 N6; have z_ := cB2 K1; have z_ := cB2 K2) | ((with_reducible refine gate_callee (f := 63) rfl ?_); refine goesL_ (some 14) rfl rfl Try.func63 (by kernel_rfl) rfl #[.int .i64 a1, .int .i64 a2_0, .int .i64 a3_0] rfl mz ?_; (with_reducible refine (spec_l1Exact.calls _ _ _ _ _ _ A1.out).mono ?_); rintro e w' ⟨rfl, ⟨nd, rfl⟩⟩; refine ⟨_, rfl, ?_⟩) | ((with_reducible refine gate_callee (f := 92) rfl ?_); refine goesL_ (some 15) rfl rfl Try.func92 (by kernel_rfl) rfl #[.pointer (some ⟨g, 0, none⟩), .int .i64 t1] rfl mz ?_; (with_reducible refine (spec_l8R_add.calls k g s0_0 s0_1 s0_2 t1 t5 t6 t7 w1 _ ?side1 ?side2 A2.out).mono ?_); (case side1 => repeat (first | (with_reducible first | exact I1.out | apply IsS67.alloc | apply IsS67.drewN | apply IsS67.drew | apply IsS67.set_0 | apply IsS67.set_1 | apply IsS67.set_2 | refine IsS67.far ?_ N1.out _ | refine IsS67.far ?_ N5.out _) | exact I1.out)); (case side2 => repeat (first | (with_reducible first | exact HB.out | apply below_alloc | apply pw_below_drewN | apply below_drew1 | refine below_set ?_ (IsS67.ge I1.out) | refine below_set ?_ G2.out | refine below_set ?_ G4.out) | exact HB.out)); rintro e w4 ⟨rfl, hi, hb, hk⟩; refine ⟨_, rfl, ?_⟩; replace K1 := am (KeepBut.blk hk (g' := g1) (o := b2 a2_0 a2_1 24) (Z K1) N2.out (by simp)); replace K2 := am (KeepBut.blk hk (g' := g2) (o := b2 a3_0 a3_1 24) (Z K2) N6.out (by simp)); replace HK := am (KeepBut.trans (by repeat (first | (with_reducible first | exact HK.out | apply KeepBut.set_ | apply keep_drewN | apply keep_drew | apply keep_alloc | refine keep_far ?_ G1.out _ | refine keep_far ?_ G3.out _) | exact HK.out)) hk (.inl rfl)); replace HB := am (hb); replace I1 := am (hi); (try clear hb); have z_ := cB2 K1; have z_ := cB2 K2) | ((with_reducible refine gate_callee (f := 63) rfl ?_); refine goesL_ (some 22) rfl rfl Try.func63 (by kernel_rfl) rfl #[.int .i64 a1, .int .i64 a2_0, .int .i64 a3_1] rfl mz ?_; (with_reducible refine (spec_l1Exact.calls _ _ _ _ _ _ A3.out).mono ?_); rintro e w' ⟨rfl, ⟨nd, rfl⟩⟩; refine ⟨_, rfl, ?_⟩) | ((with_reducible refine gate_callee (f := 92) rfl ?_); refine goesL_ (some 23) rfl rfl Try.func92 (by kernel_rfl) rfl #[.pointer (some ⟨g, 0, none⟩), .int .i64 t2] rfl mz ?_; (with_reducible refine (spec_l8R_add.calls k g t5 t6 t7 t2 t8 t9 t10 w1 _ ?side1 ?side2 A4.out).mono ?_); (case side1 => repeat (first | (with_reducible first | exact I1.out | apply IsS67.alloc | apply IsS67.drewN | apply IsS67.drew | apply IsS67.set_0 | apply IsS67.set_1 | apply IsS67.set_2 | refine IsS67.far ?_ N1.out _ | refine IsS67.far ?_ N5.out _) | exact I1.out)); (case side2 => repeat (first | (with_reducible first | exact HB.out | apply below_alloc | apply pw_below_drewN | apply below_drew1 | refine below_set ?_ (IsS67.ge I1.out) | refine below_set ?_ G2.out | refine below_set ?_ G4.out) | exact HB.out)); rintro e w5 ⟨rfl, hi, hb, hk⟩; refine ⟨_, rfl, ?_⟩; replace K1 := am (KeepBut.blk hk (g' := g1) (o := b2 a2_0 a2_1 24) (Z K1) N2.out (by simp)); replace K2 := am (KeepBut.blk hk (g' := g2) (o := b2 a3_0 a3_1 24) (Z K2) N6.out (by simp)); replace HK := am (KeepBut.trans (by repeat (first | (with_reducible first | exact HK.out | apply KeepBut.set_ | apply keep_drewN | apply keep_drew | apply keep_alloc | refine keep_far ?_ G1.out _ | refine keep_far ?_ G3.out _) | exact HK.out)) hk (.inl rfl)); replace HB := am (hb); replace I1 := am (hi); (try clear hb); have z_ := cB2 K1; have z_ := cB2 K2) | ((with_reducible refine gate_callee (f := 63) rfl ?_); refine goesL_ (some 30) rfl rfl Try.func63 (by kernel_rfl) rfl #[.int .i64 a1, .int .i64 a2_1, .int .i64 a3_0] rfl mz ?_; (with_reducible refine (spec_l1Exact.calls _ _ _ _ _ _ A5.out).mono ?_); rintro e w' ⟨rfl, ⟨nd, rfl⟩⟩; refine ⟨_, rfl, ?_⟩) | ((with_reducible refine gate_callee (f := 92) rfl ?_); refine goesL_ (some 31) rfl rfl Try.func92 (by kernel_rfl) rfl #[.pointer (some ⟨g, 0, none⟩), .int .i64 t3] rfl mz ?_; (with_reducible refine (spec_l8R_add.calls k g t8 t9 t10 t3 t11 t12 t13 w1 _ ?side1 ?side2 A6.out).mono ?_); (case side1 => repeat (first | (with_reducible first | exact I1.out | apply IsS67.alloc | apply IsS67.drewN | apply IsS67.drew | apply IsS67.set_0 | apply IsS67.set_1 | apply IsS67.set_2 | refine IsS67.far ?_ N1.out _ | refine IsS67.far ?_ N5.out _) | exact I1.out)); (case side2 => repeat (first | (with_reducible first | exact HB.out | apply below_alloc | apply pw_below_drewN | apply below_drew1 | refine below_set ?_ (IsS67.ge I1.out) | refine below_set ?_ G2.out | refine below_set ?_ G4.out) | exact HB.out)); rintro e w6 ⟨rfl, hi, hb, hk⟩; refine ⟨_, rfl, ?_⟩; replace K1 := am (KeepBut.blk hk (g' := g1) (o := b2 a2_0 a2_1 24) (Z K1) N2.out (by simp)); replace K2 := am (KeepBut.blk hk (g' := g2) (o := b2 a3_0 a3_1 24) (Z K2) N6.out (by simp)); replace HK := am (KeepBut.trans (by repeat (first | (with_reducible first | exact HK.out | apply KeepBut.set_ | apply keep_drewN | apply keep_drew | apply keep_alloc | refine keep_far ?_ G1.out _ | refine keep_far ?_ G3.out _) | exact HK.out)) hk (.inl rfl)); replace HB := am (hb); replace I1 := am (hi); (try clear hb); have z_ := cB2 K1; have z_ := cB2 K2) | ((with_reducible refine gate_callee (f := 63) rfl ?_); refine goesL_ (some 38) rfl rfl Try.func63 (by kernel_rfl) rfl #[.int .i64 a1, .int .i64 a2_1, .int .i64 a3_1] rfl mz ?_; (with_reducible refine (spec_l1Exact.calls _ _ _ _ _ _ A7.out).mono ?_); rintro e w' ⟨rfl, ⟨nd, rfl⟩⟩; refine ⟨_, rfl, ?_⟩) | ((with_reducible refine gate_callee (f := 92) rfl ?_); refine goesL_ (some 39) rfl rfl Try.func92 (by kernel_rfl) rfl #[.pointer (some ⟨g, 0, none⟩), .int .i64 t4] rfl mz ?_; (with_reducible refine (spec_l8R_add.calls k g t11 t12 t13 t4 t14 t15 t16 w1 _ ?side1 ?side2 A8.out).mono ?_); (case side1 => repeat (first | (with_reducible first | exact I1.out | apply IsS67.alloc | apply IsS67.drewN | apply IsS67.drew | apply IsS67.set_0 | apply IsS67.set_1 | apply IsS67.set_2 | refine IsS67.far ?_ N1.out _ | refine IsS67.far ?_ N5.out _) | exact I1.out)); (case side2 => repeat (first | (with_reducible first | exact HB.out | apply below_alloc | apply pw_below_drewN | apply below_drew1 | refine below_set ?_ (IsS67.ge I1.out) | refine below_set ?_ G2.out | refine below_set ?_ G4.out) | exact HB.out)); rintro e w7 ⟨rfl, hi, hb, hk⟩; refine ⟨_, rfl, ?_⟩; replace K1 := am (KeepBut.blk hk (g' := g1) (o := b2 a2_0 a2_1 24) (Z K1) N2.out (by simp)); replace K2 := am (KeepBut.blk hk (g' := g2) (o := b2 a3_0 a3_1 24) (Z K2) N6.out (by simp)); replace HK := am (KeepBut.trans (by repeat (first | (with_reducible first | exact HK.out | apply KeepBut.set_ | apply keep_drewN | apply keep_drew | apply keep_alloc | refine keep_far ?_ G1.out _ | refine keep_far ?_ G3.out _) | exact HK.out)) hk (.inl rfl)); replace HB := am (hb); replace I1 := am (hi); (try clear hb)))
 first | go_end0 | ((try simp only [Exit.inBlock, Exit.then]); refine bodyPost_ret (results_none rfl _ _ _) rfl ?_)
 exact ⟨ez, by repeat (first | (with_reducible first | exact I1.out | apply IsS67.alloc | apply IsS67.drewN | apply IsS67.drew | apply IsS67.set_0 | apply IsS67.set_1 | apply IsS67.set_2 | refine IsS67.far ?_ N1.out _ | refine IsS67.far ?_ N5.out _) | exact I1.out), by repeat (first | (with_reducible first | exact HB.out | apply below_alloc | apply pw_below_drewN | apply below_drew1 | refine below_set ?_ (IsS67.ge I1.out) | refine below_set ?_ G2.out | refine below_set ?_ G4.out) | exact HB.out), by repeat (first | (with_reducible first | exact HK.out | apply KeepBut.set_ | apply keep_drewN | apply keep_drew | apply keep_alloc | refine keep_far ?_ G1.out _ | refine keep_far ?_ G3.out _) | exact HK.out)⟩

/-! ### spec_l8Rem: function 89 -/
attribute [local go_sem] Go.Proofs.YthbkakcchgnhpaaSet.isSome_setCell
def spec_l8Rem.j0 : Nat → Int → Bool → Int → Int → Option (Int × Int)
 | 0, _, _, _, _ => none
 | k + 1, x1, x2, x3, x4 => if x2 = true then (some (x3, x4)) else (if x3 < 0 then ((spec_l8Max.f x3 (wrap64 (1 - x1))).bind fun t1 => (if x4 > 0 then ((spec_l8Min.f x4 (wrap64 (x1 - 1))).bind fun t2 => (some (t1, t2))) else (some (t1, 0)))) else (if x4 > 0 then ((spec_l8Min.f x4 (wrap64 (x1 - 1))).bind fun t3 => (some (0, t3))) else (some (0, 0))))
def spec_l8Rem.f (k : Nat) (a0_0 : Int) (a0_1 : Int) (a1 : Int) (a2 : Int) : Option (Int × Int) := if a0_0 > (wrap64 (-a1)) then (spec_l8Rem.j0 k a2 (decide (a0_1 < a1)) a0_0 a0_1) else (spec_l8Rem.j0 k a2 false a0_0 a0_1)
theorem spec_l8Rem.mono_l : ∀ k, (∀ y0 y1 y2 y3, LeO (spec_l8Rem.j0 k y0 y1 y2 y3) (spec_l8Rem.j0 (k + 1) y0 y1 y2 y3))
 | 0 => fun _ _ _ _ r h => by simp [spec_l8Rem.j0] at h
 | k + 1 => by
  have ih0 := spec_l8Rem.mono_l k
  ·intro y0 y1 y2 y3
   unfold spec_l8Rem.j0
   repeat' first | (with_reducible first | apply ih0 | apply LeO.refl | apply LeO.none | refine LeO.ite ?_ ?_ | refine LeO.bind ?_ (fun _ => ?_)) | apply ih0 | apply LeO.none | refine LeO.ite ?_ ?_ | refine LeO.bind ?_ (fun _ => ?_)
theorem spec_l8Rem.mono : ∀ a0 a1 a2 a3 k, LeO (spec_l8Rem.f k a0 a1 a2 a3) (spec_l8Rem.f (k + 1) a0 a1 a2 a3) := by
 intro a0 a1 a2 a3 k
 have ih0 := spec_l8Rem.mono_l k
 unfold spec_l8Rem.f
 repeat' first | (with_reducible first | apply ih0 | apply LeO.refl | apply LeO.none | refine LeO.ite ?_ ?_ | refine LeO.bind ?_ (fun _ => ?_)) | apply ih0 | apply LeO.none | refine LeO.ite ?_ ?_ | refine LeO.bind ?_ (fun _ => ?_)
set_option maxHeartbeats 8000000 in
set_option maxRecDepth 100000 in
theorem spec_l8Rem.calls (k : Nat) (a0_0 : Int) (a0_1 : Int) (a1 : Int) (a2 : Int) (r1 : Int) (r2 : Int) (w : World) (h : spec_l8Rem.f k a0_0 a0_1 a1 a2 = some (r1, r2)) :
  Calls Try.prog 89 #[.agg #[.int .i64 a0_0, .int .i64 a0_1], .int .i64 a1, .int .i64 a2] w fun e w' => e = .returned (.agg #[.int .i64 r1, .int .i64 r2]) ∧ Below w.heap.size w w' := by
 have hu24 := Try.underlying24
 have HB := am (Below.refl w.heap.size w)
 have H : (if a0_0 > (wrap64 (-a1)) then (spec_l8Rem.j0 k a2 (decide (a0_1 < a1)) a0_0 a0_1) else (spec_l8Rem.j0 k a2 false a0_0 a0_1)) = some (r1, r2) := h
 clear h
 have C1 := am H
 clear H
 go_enter Try.func89, Try.ntmps89
 go_upto_region 1 with (first | ((with_reducible refine gate_dst (N := 3) rfl ?_); refine bxn 3 #[.int .i64 a0_0, .int .i64 a0_1] 24 HB fun g1 w1 K1 G1 hg hb => ?_; replace HB := am (below_step (YA HB) hb); clear hb hg) | ((with_reducible refine gate_dst (N := 6) rfl ?_); refine bxn 6 #[.int .i64 0, .int .i64 0] 24 HB fun g2 w2 K2 G2 hg hb => ?_; obtain ⟨N1,N2⟩ := ne_ hg K1; obtain ⟨K1, HB⟩ := bk1 K1 HB hb; clear hb hg))
 (try simp only [Act.put, List.setIfInBounds_toArray, List.set_cons_zero, List.set_cons_succ])
 go_cut [18] (fun v1 wc => ∃ (kq : Nat) (x1 : Bool), v1 = .bool x1 ∧ Aside0 (spec_l8Rem.j0 kq a2 x1 a0_0 a0_1 = some (r1, r2)) ∧ Aside0 (kq ≤ k) ∧ Bx2 wc g1 a0_0 a0_1 24 ∧ Bx2 wc g2 0 0 24 ∧ Aside0 (Below w.heap.size w wc))
 case first =>
  have H := C1.out
  clear C1
  by_cases c1 : a0_0 > (wrap64 (-a1))
  rotate_left
  ·rw [if_neg c1] at H
   have d1 := dF c1
   clear c1
   (first | rw [d1] | (simp only [i64_w, i32_w]; rw [d1]) | skip)
   have H' := am H
   clear H
   have z_ := ns1 N1
   have z_ := cB2 K1
   go_wp2
   go_meet
   case rel => exact ⟨_, (false), ey, H', le0, ⟨Z K1⟩, ⟨Z K2⟩, ⟨YA HB⟩⟩
  rw [if_pos c1] at H
  have d1 := dT c1
  clear c1
  (first | rw [d1] | (simp only [i64_w, i32_w]; rw [d1]) | skip)
  have H' := am H
  clear H
  have z_ := ns1 N1
  have z_ := cB2 K1
  go_wp2
  go_meet
  case rel => exact ⟨_, (decide (a0_1 < a1)), ey, H', le0, ⟨Z K1⟩, ⟨Z K2⟩, ⟨YA HB⟩⟩
 case rest =>
  clear C1
  obtain ⟨kq, x1, rfl, HA, J1, K1, K2, HB⟩ := hcut
  cases kq with
  | zero => exact absurd HA.out (by simp [spec_l8Rem.j0])
  | succ k1 =>
   have H := HA.out
   clear HA
   simp only [spec_l8Rem.j0] at H
   by_cases c1 : x1 = true
   ·subst c1
    rw [if_pos rfl] at H
    simp only [Option.some.injEq, Prod.mk.injEq] at H
    obtain ⟨rfl, rfl⟩ := H
    have z_ := ns1 N1
    have z_ := cB2 K1
    have z_ := cB2 K2
    go_wp2
    refine bodyPost_ret (results_cell_row rfl _ _ g2 24 #[.int .i64 a0_0, .int .i64 a0_1] (0, 0) _ rfl (by refine pf ?_; refine blk_put (cs := #[.int .i64 a0_0, .int .i64 0]) ?_ 1 _ rfl; refine pf ?_; refine blk_put (cs := #[.int .i64 0, .int .i64 0]) ?_ 0 _ rfl; exact Z K2) Try.underlying24 rfl (by kernel_rfl)) rfl ?_
    exact ⟨ez, YA HB⟩
   replace c1 := Bool.eq_false_iff.mpr c1
   subst c1
   rw [if_neg ff] at H
   by_cases c2 : a0_0 < 0
   rotate_left
   ·rw [if_neg c2] at H
    have d1 := dF c2
    clear c2
    by_cases c3 : a0_1 > 0
    rotate_left
    ·rw [if_neg c3] at H
     have d2 := dF c3
     clear c3
     simp only [Option.some.injEq, Prod.mk.injEq] at H
     obtain ⟨rfl, rfl⟩ := H
     go_wp2_with (first | ((with_reducible refine gate_dst (N := 7) rfl ?_); refine bxn 7 #[.int .i64 0, .int .i64 0] 24 HB fun g3 w3 K3 G3 hg hb => ?_; obtain ⟨N3,N4⟩ := ne_ hg K1; obtain ⟨N5,N6⟩ := ne_ hg K2; obtain ⟨K1, K2, HB⟩ := bk2 K1 K2 HB hb; clear hb hg; have z_ := ns3 N4 N6 N1; have z_ := cB2 K3; have z_ := cB2 K1; have z_ := cB2 K2))
     refine bodyPost_ret (results_cell_row rfl _ _ g2 24 #[.int .i64 0, .int .i64 0] (0, 0) _ rfl (by refine pf ?_; refine blk_put (cs := #[.int .i64 0, .int .i64 0]) ?_ 1 _ rfl; refine pf ?_; refine blk_put (cs := #[.int .i64 0, .int .i64 0]) ?_ 0 _ rfl; refine fa N5 ?_; refine fa N5 ?_; exact Z K2) Try.underlying24 rfl (by kernel_rfl)) rfl ?_
     exact ⟨ez, YA HB⟩
    rw [if_pos c3] at H
    have d2 := dT c3
    clear c3
    obtain ⟨t1, A1, H⟩ := bd H
    try dsimp only at H
    simp only [Option.some.injEq, Prod.mk.injEq] at H
    obtain ⟨rfl, rfl⟩ := H
    go_wp2_with (first | ((with_reducible refine gate_dst (N := 7) rfl ?_); refine bxn 7 #[.int .i64 0, .int .i64 0] 24 HB fun g3 w3 K3 G3 hg hb => ?_; obtain ⟨N3,N4⟩ := ne_ hg K1; obtain ⟨N5,N6⟩ := ne_ hg K2; obtain ⟨K1, K2, HB⟩ := bk2 K1 K2 HB hb; clear hb hg; have z_ := ns3 N4 N6 N1; have z_ := cB2 K3; have z_ := cB2 K1) | ((with_reducible refine gate_callee (f := 68) rfl ?_); refine goesL_ (some 37) rfl rfl Try.func68 (by kernel_rfl) rfl #[.int .i64 a0_1, .int .i64 (wrap64 (a2 - 1))] rfl mz ?_; (with_reducible refine (spec_l8Min.calls _ _ _ _ A1.out).mono ?_); rintro e w' ⟨rfl, ⟨nd, rfl⟩⟩; refine ⟨_, rfl, ?_⟩; have z_ := cB2 K2))
    refine bodyPost_ret (results_cell_row rfl _ _ g2 24 #[.int .i64 0, .int .i64 t1] (0, 0) _ rfl (by refine pf ?_; refine blk_put (cs := #[.int .i64 0, .int .i64 0]) ?_ 1 _ rfl; refine pf ?_; refine blk_put (cs := #[.int .i64 0, .int .i64 0]) ?_ 0 _ rfl; refine fa N5 ?_; refine fa N5 ?_; refine fa N5 ?_; exact Z K2) Try.underlying24 rfl (by kernel_rfl)) rfl ?_
    exact ⟨ez, YA HB⟩
   rw [if_pos c2] at H
   have d1 := dT c2
   clear c2
   obtain ⟨t1, A1, H⟩ := bd H
   try dsimp only at H
   by_cases c3 : a0_1 > 0
   rotate_left
   ·rw [if_neg c3] at H
    have d2 := dF c3
    clear c3
    simp only [Option.some.injEq, Prod.mk.injEq] at H
    obtain ⟨rfl, rfl⟩ := H
    go_wp2_with (first | ((with_reducible refine gate_dst (N := 7) rfl ?_); refine bxn 7 #[.int .i64 0, .int .i64 0] 24 HB fun g3 w3 K3 G3 hg hb => ?_; obtain ⟨N3,N4⟩ := ne_ hg K1; obtain ⟨N5,N6⟩ := ne_ hg K2; obtain ⟨K1, K2, HB⟩ := bk2 K1 K2 HB hb; clear hb hg; have z_ := ns3 N4 N6 N1; have z_ := cB2 K3; have z_ := cB2 K1) | ((with_reducible refine gate_callee (f := 69) rfl ?_); refine goesL_ (some 28) rfl rfl Try.func69 (by kernel_rfl) rfl #[.int .i64 a0_0, .int .i64 (wrap64 (1 - a2))] rfl mz ?_; (with_reducible refine (spec_l8Max.calls _ _ _ _ A1.out).mono ?_); rintro e w' ⟨rfl, ⟨nd, rfl⟩⟩; refine ⟨_, rfl, ?_⟩; have z_ := cB2 K2))
    refine bodyPost_ret (results_cell_row rfl _ _ g2 24 #[.int .i64 t1, .int .i64 0] (0, 0) _ rfl (by refine pf ?_; refine blk_put (cs := #[.int .i64 t1, .int .i64 0]) ?_ 1 _ rfl; refine pf ?_; refine blk_put (cs := #[.int .i64 0, .int .i64 0]) ?_ 0 _ rfl; refine fa N5 ?_; refine fa N5 ?_; refine fa N5 ?_; exact Z K2) Try.underlying24 rfl (by kernel_rfl)) rfl ?_
    exact ⟨ez, YA HB⟩
   rw [if_pos c3] at H
   have d2 := dT c3
   clear c3
   obtain ⟨t2, A2, H⟩ := bd H
   try dsimp only at H
   simp only [Option.some.injEq, Prod.mk.injEq] at H
   obtain ⟨rfl, rfl⟩ := H
   go_wp2_with (first | ((with_reducible refine gate_dst (N := 7) rfl ?_); refine bxn 7 #[.int .i64 0, .int .i64 0] 24 HB fun g3 w3 K3 G3 hg hb => ?_; obtain ⟨N3,N4⟩ := ne_ hg K1; obtain ⟨N5,N6⟩ := ne_ hg K2; obtain ⟨K1, K2, HB⟩ := bk2 K1 K2 HB hb; clear hb hg; have z_ := ns3 N4 N6 N1; have z_ := cB2 K3; have z_ := cB2 K1) | ((with_reducible refine gate_callee (f := 69) rfl ?_); refine goesL_ (some 28) rfl rfl Try.func69 (by kernel_rfl) rfl #[.int .i64 a0_0, .int .i64 (wrap64 (1 - a2))] rfl mz ?_; (with_reducible refine (spec_l8Max.calls _ _ _ _ A1.out).mono ?_); rintro e w' ⟨rfl, ⟨nd, rfl⟩⟩; refine ⟨_, rfl, ?_⟩) | ((with_reducible refine gate_callee (f := 68) rfl ?_); refine goesL_ (some 37) rfl rfl Try.func68 (by kernel_rfl) rfl #[.int .i64 a0_1, .int .i64 (wrap64 (a2 - 1))] rfl mz ?_; (with_reducible refine (spec_l8Min.calls _ _ _ _ A2.out).mono ?_); rintro e w' ⟨rfl, ⟨nd, rfl⟩⟩; refine ⟨_, rfl, ?_⟩; have z_ := cB2 K2))
   refine bodyPost_ret (results_cell_row rfl _ _ g2 24 #[.int .i64 t1, .int .i64 t2] (0, 0) _ rfl (by refine pf ?_; refine blk_put (cs := #[.int .i64 t1, .int .i64 0]) ?_ 1 _ rfl; refine pf ?_; refine blk_put (cs := #[.int .i64 0, .int .i64 0]) ?_ 0 _ rfl; refine fa N5 ?_; refine fa N5 ?_; refine fa N5 ?_; refine fa N5 ?_; exact Z K2) Try.underlying24 rfl (by kernel_rfl)) rfl ?_
   exact ⟨ez, YA HB⟩

end Go.Proofs.Ythbkakcchgnhpaa.PFnRangeMore
