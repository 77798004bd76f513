/- Written by this session's own driver (wip/dprint.py): the functions that the law FnExactValDo reaches, as Lean functions, each with its contract. -/
import Derived.Test.YthbkakcchgnhpaaPFnExactValDox0
import Derived.Test.YthbkakcchgnhpaaPFnExactValDox1
import Derived.Test.YthbkakcchgnhpaaSv
namespace Go.Proofs.Ythbkakcchgnhpaa.PFnExactValDo
open Go.RowKit Go.Proofs.YthbkakcchgnhpaaV.PrintWords Go.Proofs.YthbkakcchgnhpaaV.PrintLast Go.Proofs.YthbkakcchgnhpaaV.PrintMore Go.Proofs.YthbkakcchgnhpaaSv
set_option linter.unusedVariables false
set_option linter.unusedSimpArgs false
section
attribute [local go_sem] max2_int min2_int max_two min_two max_three min_three max_four min_four
attribute [local go_sem] Go.Proofs.YthbkakcchgnhpaaSet.isSome_setCell
/-- A state of type 67 at block g of W; what its slices lead to came in by w0. -/
def IsS67 (w1 W : World) (g : Nat) (f0 : Bool) (f1 : Int) (f2 : Int) : Prop := W.heap[g]? = some (.cells #[.bool f0, .int .i64 f1, .int .i64 f2] 67 (0, 0)) ∧ w1.heap.size ≤ g
theorem IsS67.grown {w0 W : World} {g : Nat} {f0 : Bool} {f1 : Int} {f2 : Int} {W1 : World} {row : Option Nat} (h : IsS67 w0 W g f0 f1 f2) (hw : W.grownBy W1 row) (hne : some g ≠ row) : IsS67 w0 W1 g f0 f1 f2 := by
 obtain ⟨hb, hg⟩ := h
 exact ⟨blk_grown hb hw hne, hg⟩
theorem IsS67.own_neN {w0 W : World} {g : Nat} {f0 : Bool} {f1 : Int} {f2 : Int} {α : Type} {d : Kd α} {e : Nat} {base : Nat} {ok : Nat → Prop} {v : Value} {xs : List α} (h : IsS67 w0 W g f0 f1 f2) (ho : Kd.N d e W base ok v xs) (ht : e ≠ 67) : some g ≠ v.ownBlock := by
 obtain ⟨hb, hg⟩ := h
 exact Kd.N_ne ho hb ht
theorem IsS67.fresh {w0 W : World} {g : Nat} {f0 : Bool} {f1 : Int} {f2 : Int} (h : IsS67 w0 W g f0 f1 f2) : ∀ k, W.heap.size ≤ k → k ≠ g := by
 obtain ⟨hb, hg⟩ := h
 exact Kd.freshB hb
theorem IsS67.kept {w0 W : World} {g : Nat} {f0 : Bool} {f1 : Int} {f2 : Int} {W1 : World} {S : Nat → Prop} (h : IsS67 w0 W g f0 f1 f2) (hk : Kept W W1 S) (hne : ¬ S g) : IsS67 w0 W1 g f0 f1 f2 := by
 obtain ⟨hb, hg⟩ := h
 exact ⟨blk_kept hb hk hne, hg⟩
theorem IsS67.below {w0 W : World} {g : Nat} {f0 : Bool} {f1 : Int} {f2 : Int} {W1 : World} (h : IsS67 w0 W g f0 f1 f2) (hw : Below W.heap.size W W1) : IsS67 w0 W1 g f0 f1 f2 := h.grown (grown_of_below hw none) (by simp)
theorem IsS67.alloc {w0 W : World} {g : Nat} {f0 : Bool} {f1 : Int} {f2 : Int} (h : IsS67 w0 W g f0 f1 f2) (o : Obj) : IsS67 w0 (W.alloc o) g f0 f1 f2 := h.below (below_alloc (Below.refl _ _) o)
theorem IsS67.drewN {w0 W : World} {g : Nat} {f0 : Bool} {f1 : Int} {f2 : Int} (h : IsS67 w0 W g f0 f1 f2) (m : Nat) : IsS67 w0 (W.drewN m) g f0 f1 f2 := h
theorem IsS67.drew {w0 W : World} {g : Nat} {f0 : Bool} {f1 : Int} {f2 : Int} (h : IsS67 w0 W g f0 f1 f2) : IsS67 w0 W.drew g f0 f1 f2 := h
theorem IsS67.at_ {w0 W : World} {g : Nat} {f0 : Bool} {f1 : Int} {f2 : Int} {w' : World} {m : Nat} (hq : W.drewN m = w') (h : IsS67 w0 W g f0 f1 f2) : IsS67 w0 w' g f0 f1 f2 := by subst hq; exact IsS67.drewN h m
theorem IsS67.apart {w0 W : World} {g : Nat} {f0 : Bool} {f1 : Int} {f2 : Int} {α : Type} {d : Kd α} {e : Nat} {base : Nat} {ok : Nat → Prop} {v : Value} {xs : List α} (h : IsS67 w0 W g f0 f1 f2) (ho : d.R e W base ok v xs) (ht : ∀ q, q ∈ e :: d.E → q ≠ 67) : d.R e W base (fun k => ok k ∧ k ≠ g) v xs := by
 obtain ⟨hb, hg⟩ := h
 exact Kd.R_types ho hb ht
theorem IsS67.own_ne {w0 W : World} {g : Nat} {f0 : Bool} {f1 : Int} {f2 : Int} {α : Type} {d : Kd α} {e : Nat} {base : Nat} {ok : Nat → Prop} {v : Value} {xs : List α} (h : IsS67 w0 W g f0 f1 f2) (ho : d.R e W base ok v xs) (ht : e ≠ 67) : some g ≠ v.ownBlock := by
 obtain ⟨hb, hg⟩ := h
 exact Kd.R_ne ho hb ht
theorem IsS67.apartQ {w0 W : World} {g : Nat} {f0 : Bool} {f1 : Int} {f2 : Int} {α : Type} {d : Kd α} {e : Nat} {base : Nat} {ok : Nat → Prop} {v : Value} {xs : List α} (h : IsS67 w0 W g f0 f1 f2) (ho : d.Q e W base ok v xs) (ht : ∀ q, q ∈ e :: d.E → q ≠ 67) : d.Q e W base (fun k => ok k ∧ k ≠ g) v xs := by
 obtain ⟨hb, hg⟩ := h
 exact Kd.Q_types ho hb ht
theorem IsS67.own_neQ {w0 W : World} {g : Nat} {f0 : Bool} {f1 : Int} {f2 : Int} {α : Type} {d : Kd α} {e : Nat} {base : Nat} {ok : Nat → Prop} {v : Value} {xs : List α} (h : IsS67 w0 W g f0 f1 f2) (ho : d.Q e W base ok v xs) (ht : e ≠ 67) : some g ≠ v.ownBlock := by
 obtain ⟨hb, hg⟩ := h
 exact Kd.Q_ne ho hb ht
theorem IsS67.apartS {w0 W : World} {g : Nat} {f0 : Bool} {f1 : Int} {f2 : Int} {α : Type} {d : Kd α} {e : Nat} {base : Nat} {ok : Nat → Prop} {v : Value} {xs : List α} (h : IsS67 w0 W g f0 f1 f2) (ho : d.S e W base ok v xs) (ht : ∀ q, q ∈ e :: d.E → q ≠ 67) : d.S e W base (fun k => ok k ∧ k ≠ g) v xs := by
 obtain ⟨hb, hg⟩ := h
 exact Kd.S_types ho hb ht
theorem IsS67.own_neS {w0 W : World} {g : Nat} {f0 : Bool} {f1 : Int} {f2 : Int} {α : Type} {d : Kd α} {e : Nat} {base : Nat} {ok : Nat → Prop} {v : Value} {xs : List α} (h : IsS67 w0 W g f0 f1 f2) (ho : d.S e W base ok v xs) (ht : e ≠ 67) : some g ≠ v.ownBlock := by
 obtain ⟨hb, hg⟩ := h
 exact Kd.S_ne ho hb ht
theorem IsS67.lt {w0 W : World} {g : Nat} {f0 : Bool} {f1 : Int} {f2 : Int} (h : IsS67 w0 W g f0 f1 f2) : g < W.heap.size := by
 obtain ⟨hb, hg⟩ := h
 exact blk_lt hb
theorem IsS67.ge {w0 W : World} {g : Nat} {f0 : Bool} {f1 : Int} {f2 : Int} (h : IsS67 w0 W g f0 f1 f2) : w0.heap.size ≤ g := by
 obtain ⟨hb, hg⟩ := h
 exact hg
theorem IsS67.ne_blk {w0 W : World} {g : Nat} {f0 : Bool} {f1 : Int} {f2 : Int} {a : Nat} {cs : Array Value} {t : TypeId} {fr : Nat × Nat} (h : IsS67 w0 W g f0 f1 f2) (hb2 : W.heap[a]? = some (.cells cs t fr)) (ht : t ≠ 67) : g ≠ a := by
 obtain ⟨hb, hg⟩ := h
 rintro rfl
 rw [hb] at hb2
 injection hb2 with hb2
 injection hb2 with _ ht2
 exact ht ht2.symm
theorem IsS67.far {w0 W : World} {g : Nat} {f0 : Bool} {f1 : Int} {f2 : Int} {p : Addr} (h : IsS67 w0 W g f0 f1 f2) (hne : g ≠ p.block) (u : Value) : IsS67 w0 (W.setCell p u) g f0 f1 f2 := by
 obtain ⟨hb, hg⟩ := h
 exact ⟨blk_far hb hne u, hg⟩
theorem cellS67_0 {W : World} {g : Nat} {f0 : Bool} {f1 : Int} {f2 : Int} (h : W.heap[g]? = some (.cells #[.bool f0, .int .i64 f1, .int .i64 f2] 67 (0, 0))) : W.cell? ⟨g, 0, none⟩ = some (.bool f0) := (blk_cell h 0).trans rfl
theorem IsS67.set_0 {w0 W : World} {g : Nat} {f0 : Bool} {f1 : Int} {f2 : Int} (h : IsS67 w0 W g f0 f1 f2) (x : Bool) : IsS67 w0 (W.setCell ⟨g, 0, none⟩ (.bool x)) g x f1 f2 := by
 obtain ⟨hb, hg⟩ := h
 exact ⟨by simpa using blk_set hb 0 (.bool x), hg⟩
theorem cellS67_1 {W : World} {g : Nat} {f0 : Bool} {f1 : Int} {f2 : Int} (h : W.heap[g]? = some (.cells #[.bool f0, .int .i64 f1, .int .i64 f2] 67 (0, 0))) : W.cell? ⟨g, 1, none⟩ = some (.int .i64 f1) := (blk_cell h 1).trans rfl
theorem IsS67.set_1 {w0 W : World} {g : Nat} {f0 : Bool} {f1 : Int} {f2 : Int} (h : IsS67 w0 W g f0 f1 f2) (x : Int) : IsS67 w0 (W.setCell ⟨g, 1, none⟩ (.int .i64 x)) g f0 x f2 := by
 obtain ⟨hb, hg⟩ := h
 exact ⟨by simpa using blk_set hb 1 (.int .i64 x), hg⟩
theorem cellS67_2 {W : World} {g : Nat} {f0 : Bool} {f1 : Int} {f2 : Int} (h : W.heap[g]? = some (.cells #[.bool f0, .int .i64 f1, .int .i64 f2] 67 (0, 0))) : W.cell? ⟨g, 2, none⟩ = some (.int .i64 f2) := (blk_cell h 2).trans rfl
theorem IsS67.set_2 {w0 W : World} {g : Nat} {f0 : Bool} {f1 : Int} {f2 : Int} (h : IsS67 w0 W g f0 f1 f2) (x : Int) : IsS67 w0 (W.setCell ⟨g, 2, none⟩ (.int .i64 x)) g f0 f1 x := by
 obtain ⟨hb, hg⟩ := h
 exact ⟨by simpa using blk_set hb 2 (.int .i64 x), hg⟩
theorem IsS67.new (w0 W : World) (f0 : Bool) (f1 : Int) (f2 : Int) (hB : Below w0.heap.size w0 W) : IsS67 w0 (W.alloc (.cells #[.bool f0, .int .i64 f1, .int .i64 f2] 67)) W.heap.size f0 f1 f2 := ⟨by simpa using heap_alloc_new W _, hB.size⟩

def spec_l8R_add.j0 : Nat → Int → Bool → Bool → Int → Int → Option (Bool × Int × Int)
 | 0, _, _, _, _, _ => none
 | k + 1, x1, x2, x3, x4, x5 => if x2 = true then (if x3 = true then (if x1 > x5 then (some (true, x1, x1)) else (some (true, x1, x5))) else (some (true, x1, x1))) else (if x3 = true then (if x1 > x5 then (some (true, x4, x1)) else (some (true, x4, x5))) else (some (true, x4, x1)))
def spec_l8R_add.f (k : Nat) (s0_0 : Bool) (s0_1 : Int) (s0_2 : Int) (a1 : Int) : Option (Bool × Int × Int) := if s0_0 = true then (spec_l8R_add.j0 k a1 (decide (a1 < s0_1)) s0_0 s0_1 s0_2) else (spec_l8R_add.j0 k a1 true s0_0 s0_1 s0_2)
theorem spec_l8R_add.mono_l : ∀ k, (∀ y0 y1 y2 y3 y4, LeO (spec_l8R_add.j0 k y0 y1 y2 y3 y4) (spec_l8R_add.j0 (k + 1) y0 y1 y2 y3 y4))
 | 0 => fun _ _ _ _ _ r h => by simp [spec_l8R_add.j0] at h
 | k + 1 => by
  have ih0 := spec_l8R_add.mono_l k
  ·intro y0 y1 y2 y3 y4
   unfold spec_l8R_add.j0
   repeat' first | (with_reducible first | apply ih0 | apply LeO.refl | apply LeO.none | refine LeO.ite ?_ ?_ | refine LeO.bind ?_ (fun _ => ?_)) | apply ih0 | apply LeO.none | refine LeO.ite ?_ ?_ | refine LeO.bind ?_ (fun _ => ?_)
theorem spec_l8R_add.mono : ∀ a0 a1 a2 a3 k, LeO (spec_l8R_add.f k a0 a1 a2 a3) (spec_l8R_add.f (k + 1) a0 a1 a2 a3) := by
 intro a0 a1 a2 a3 k
 have ih0 := spec_l8R_add.mono_l k
 unfold spec_l8R_add.f
 repeat' first | (with_reducible first | apply ih0 | apply LeO.refl | apply LeO.none | refine LeO.ite ?_ ?_ | refine LeO.bind ?_ (fun _ => ?_)) | apply ih0 | apply LeO.none | refine LeO.ite ?_ ?_ | refine LeO.bind ?_ (fun _ => ?_)
set_option maxHeartbeats 8000000 in
set_option maxRecDepth 100000 in
theorem spec_l8R_add.calls (k : Nat) (g : Nat) (s0_0 : Bool) (s0_1 : Int) (s0_2 : Int) (a1 : Int) (r1 : Bool) (r2 : Int) (r3 : Int) (w1 w : World) (hI : IsS67 w1 w g s0_0 s0_1 s0_2) (hB : Below w1.heap.size w1 w) (h : spec_l8R_add.f k s0_0 s0_1 s0_2 a1 = some (r1, r2, r3)) :
  Calls Try.prog 92 #[.pointer (some ⟨g, 0, none⟩), .int .i64 a1] w fun e w' => e = .returned (.tuple #[]) ∧ IsS67 w1 w' g r1 r2 r3 ∧ Below w1.heap.size w1 w' ∧ KeepBut w w' g none := by
 have I1 := am hI
 have HK := am (KeepBut.refl w g none)
 have HL := am hB.size
 clear hI
 have HW0 := am hB.size
 have HB := am hB
 clear hB
 have H : (if s0_0 = true then (spec_l8R_add.j0 k a1 (decide (a1 < s0_1)) s0_0 s0_1 s0_2) else (spec_l8R_add.j0 k a1 true s0_0 s0_1 s0_2)) = some (r1, r2, r3) := h
 clear h
 have C1 := am H
 clear H
 go_enter Try.func92, Try.ntmps92
 go_upto_region 0 with (fail)
 go_cut [16] (fun v1 wc => ∃ (kq : Nat) (x1 : Bool), v1 = .bool x1 ∧ Aside0 (spec_l8R_add.j0 kq a1 x1 s0_0 s0_1 s0_2 = some (r1, r2, r3)) ∧ Aside0 (kq ≤ k) ∧ Aside0 (IsS67 w1 wc g s0_0 s0_1 s0_2) ∧ Aside0 (KeepBut w wc g none) ∧ Aside0 (Below w1.heap.size w1 wc))
 case first =>
  have H := C1.out
  clear C1
  by_cases c1 : s0_0 = true
  ·subst c1
   rw [if_pos rfl] at H
   have H' := am H
   clear H
   obtain ⟨Z1, hgz5⟩ := I1.out
   have z1 := cellS67_0 Z1
   have z2 := cellS67_1 Z1
   have z3 := cellS67_2 Z1
   have z4 := blk_frozen Z1 0
   have z5 := blk_frozen Z1 1
   have z6 := blk_frozen Z1 2
   clear Z1 hgz5
   go_wp2
   go_meet
   case rel => exact ⟨_, (decide (a1 < s0_1)), ey, H', le0, ⟨by repeat (first | (with_reducible first | exact I1.out | apply IsS67.alloc | apply IsS67.drewN | apply IsS67.drew | apply IsS67.set_0 | apply IsS67.set_1 | apply IsS67.set_2) | exact I1.out)⟩, ⟨by repeat (first | (with_reducible first | exact HK.out | apply KeepBut.set_ | apply keep_drewN | apply keep_drew | apply keep_alloc) | exact HK.out)⟩, ⟨by repeat (first | (with_reducible first | exact HB.out | apply below_alloc | apply pw_below_drewN | apply below_drew1 | refine below_set ?_ (IsS67.ge I1.out)) | exact HB.out)⟩⟩
  replace c1 := Bool.eq_false_iff.mpr c1
  subst c1
  rw [if_neg ff] at H
  have H' := am H
  clear H
  obtain ⟨Z1, hgz6⟩ := I1.out
  have z1 := cellS67_0 Z1
  have z2 := cellS67_1 Z1
  have z3 := cellS67_2 Z1
  have z4 := blk_frozen Z1 0
  have z5 := blk_frozen Z1 1
  have z6 := blk_frozen Z1 2
  clear Z1 hgz6
  go_wp2
  go_meet
  case rel => exact ⟨_, (true), ey, H', le0, ⟨by repeat (first | (with_reducible first | exact I1.out | apply IsS67.alloc | apply IsS67.drewN | apply IsS67.drew | apply IsS67.set_0 | apply IsS67.set_1 | apply IsS67.set_2) | exact I1.out)⟩, ⟨by repeat (first | (with_reducible first | exact HK.out | apply KeepBut.set_ | apply keep_drewN | apply keep_drew | apply keep_alloc) | exact HK.out)⟩, ⟨by repeat (first | (with_reducible first | exact HB.out | apply below_alloc | apply pw_below_drewN | apply below_drew1 | refine below_set ?_ (IsS67.ge I1.out)) | exact HB.out)⟩⟩
 case rest =>
  clear C1
  obtain ⟨kq, x1, rfl, HA, J1, I1, HK, HB⟩ := hcut
  cases kq with
  | zero => exact absurd HA.out (by simp [spec_l8R_add.j0])
  | succ k1 =>
   have H := HA.out
   clear HA
   simp only [spec_l8R_add.j0] at H
   by_cases c1 : x1 = true
   ·subst c1
    rw [if_pos rfl] at H
    by_cases c2 : s0_0 = true
    rotate_left
    ·replace c2 := Bool.eq_false_iff.mpr c2
     subst c2
     rw [if_neg ff] at H
     simp only [Option.some.injEq, Prod.mk.injEq] at H
     obtain ⟨rfl, rfl, rfl⟩ := H
     obtain ⟨Z1, hgz12⟩ := I1.out
     have z1 := cellS67_0 Z1
     have z2 := cellS67_1 Z1
     have z3 := cellS67_2 Z1
     have z4 := blk_frozen Z1 0
     have z5 := blk_frozen Z1 1
     have z6 := blk_frozen Z1 2
     clear Z1 hgz12
     go_wp2
     first | go_end0 | ((try simp only [Exit.inBlock, Exit.then]); refine bodyPost_ret (results_none rfl _ _ _) rfl ?_)
     exact ⟨ez, by repeat (first | (with_reducible first | exact I1.out | apply IsS67.alloc | apply IsS67.drewN | apply IsS67.drew | apply IsS67.set_0 | apply IsS67.set_1 | apply IsS67.set_2) | exact I1.out), by repeat (first | (with_reducible first | exact HB.out | apply below_alloc | apply pw_below_drewN | apply below_drew1 | refine below_set ?_ (IsS67.ge I1.out)) | exact HB.out), by repeat (first | (with_reducible first | exact HK.out | apply KeepBut.set_ | apply keep_drewN | apply keep_drew | apply keep_alloc) | exact HK.out)⟩
    subst c2
    rw [if_pos rfl] at H
    by_cases c3 : a1 > s0_2
    ·rw [if_pos c3] at H
     have d1 := dT c3
     clear c3
     simp only [Option.some.injEq, Prod.mk.injEq] at H
     obtain ⟨rfl, rfl, rfl⟩ := H
     obtain ⟨Z1, hgz10⟩ := I1.out
     have z1 := cellS67_0 Z1
     have z2 := cellS67_1 Z1
     have z3 := cellS67_2 Z1
     have z4 := blk_frozen Z1 0
     have z5 := blk_frozen Z1 1
     have z6 := blk_frozen Z1 2
     clear Z1 hgz10
     go_wp2
     first | go_end0 | ((try simp only [Exit.inBlock, Exit.then]); refine bodyPost_ret (results_none rfl _ _ _) rfl ?_)
     exact ⟨ez, by repeat (first | (with_reducible first | exact I1.out | apply IsS67.alloc | apply IsS67.drewN | apply IsS67.drew | apply IsS67.set_0 | apply IsS67.set_1 | apply IsS67.set_2) | exact I1.out), by repeat (first | (with_reducible first | exact HB.out | apply below_alloc | apply pw_below_drewN | apply below_drew1 | refine below_set ?_ (IsS67.ge I1.out)) | exact HB.out), by repeat (first | (with_reducible first | exact HK.out | apply KeepBut.set_ | apply keep_drewN | apply keep_drew | apply keep_alloc) | exact HK.out)⟩
    rw [if_neg c3] at H
    have d1 := dF c3
    clear c3
    simp only [Option.some.injEq, Prod.mk.injEq] at H
    obtain ⟨rfl, rfl, rfl⟩ := H
    obtain ⟨Z1, hgz11⟩ := I1.out
    have z1 := cellS67_0 Z1
    have z2 := cellS67_1 Z1
    have z3 := cellS67_2 Z1
    have z4 := blk_frozen Z1 0
    have z5 := blk_frozen Z1 1
    have z6 := blk_frozen Z1 2
    clear Z1 hgz11
    go_wp2
    first | go_end0 | ((try simp only [Exit.inBlock, Exit.then]); refine bodyPost_ret (results_none rfl _ _ _) rfl ?_)
    exact ⟨ez, by repeat (first | (with_reducible first | exact I1.out | apply IsS67.alloc | apply IsS67.drewN | apply IsS67.drew | apply IsS67.set_0 | apply IsS67.set_1 | apply IsS67.set_2) | exact I1.out), by repeat (first | (with_reducible first | exact HB.out | apply below_alloc | apply pw_below_drewN | apply below_drew1 | refine below_set ?_ (IsS67.ge I1.out)) | exact HB.out), by repeat (first | (with_reducible first | exact HK.out | apply KeepBut.set_ | apply keep_drewN | apply keep_drew | apply keep_alloc) | exact HK.out)⟩
   replace c1 := Bool.eq_false_iff.mpr c1
   subst c1
   rw [if_neg ff] at H
   by_cases c2 : s0_0 = true
   rotate_left
   ·replace c2 := Bool.eq_false_iff.mpr c2
    subst c2
    rw [if_neg ff] at H
    simp only [Option.some.injEq, Prod.mk.injEq] at H
    obtain ⟨rfl, rfl, rfl⟩ := H
    obtain ⟨Z1, hgz17⟩ := I1.out
    have z1 := cellS67_0 Z1
    have z2 := cellS67_1 Z1
    have z3 := cellS67_2 Z1
    have z4 := blk_frozen Z1 0
    have z5 := blk_frozen Z1 1
    have z6 := blk_frozen Z1 2
    clear Z1 hgz17
    go_wp2
    first | go_end0 | ((try simp only [Exit.inBlock, Exit.then]); refine bodyPost_ret (results_none rfl _ _ _) rfl ?_)
    exact ⟨ez, by repeat (first | (with_reducible first | exact I1.out | apply IsS67.alloc | apply IsS67.drewN | apply IsS67.drew | apply IsS67.set_0 | apply IsS67.set_1 | apply IsS67.set_2) | exact I1.out), by repeat (first | (with_reducible first | exact HB.out | apply below_alloc | apply pw_below_drewN | apply below_drew1 | refine below_set ?_ (IsS67.ge I1.out)) | exact HB.out), by repeat (first | (with_reducible first | exact HK.out | apply KeepBut.set_ | apply keep_drewN | apply keep_drew | apply keep_alloc) | exact HK.out)⟩
   subst c2
   rw [if_pos rfl] at H
   by_cases c3 : a1 > s0_2
   ·rw [if_pos c3] at H
    have d1 := dT c3
    clear c3
    simp only [Option.some.injEq, Prod.mk.injEq] at H
    obtain ⟨rfl, rfl, rfl⟩ := H
    obtain ⟨Z1, hgz15⟩ := I1.out
    have z1 := cellS67_0 Z1
    have z2 := cellS67_1 Z1
    have z3 := cellS67_2 Z1
    have z4 := blk_frozen Z1 0
    have z5 := blk_frozen Z1 1
    have z6 := blk_frozen Z1 2
    clear Z1 hgz15
    go_wp2
    first | go_end0 | ((try simp only [Exit.inBlock, Exit.then]); refine bodyPost_ret (results_none rfl _ _ _) rfl ?_)
    exact ⟨ez, by repeat (first | (with_reducible first | exact I1.out | apply IsS67.alloc | apply IsS67.drewN | apply IsS67.drew | apply IsS67.set_0 | apply IsS67.set_1 | apply IsS67.set_2) | exact I1.out), by repeat (first | (with_reducible first | exact HB.out | apply below_alloc | apply pw_below_drewN | apply below_drew1 | refine below_set ?_ (IsS67.ge I1.out)) | exact HB.out), by repeat (first | (with_reducible first | exact HK.out | apply KeepBut.set_ | apply keep_drewN | apply keep_drew | apply keep_alloc) | exact HK.out)⟩
   rw [if_neg c3] at H
   have d1 := dF c3
   clear c3
   simp only [Option.some.injEq, Prod.mk.injEq] at H
   obtain ⟨rfl, rfl, rfl⟩ := H
   obtain ⟨Z1, hgz16⟩ := I1.out
   have z1 := cellS67_0 Z1
   have z2 := cellS67_1 Z1
   have z3 := cellS67_2 Z1
   have z4 := blk_frozen Z1 0
   have z5 := blk_frozen Z1 1
   have z6 := blk_frozen Z1 2
   clear Z1 hgz16
   go_wp2
   first | go_end0 | ((try simp only [Exit.inBlock, Exit.then]); refine bodyPost_ret (results_none rfl _ _ _) rfl ?_)
   exact ⟨ez, by repeat (first | (with_reducible first | exact I1.out | apply IsS67.alloc | apply IsS67.drewN | apply IsS67.drew | apply IsS67.set_0 | apply IsS67.set_1 | apply IsS67.set_2) | exact I1.out), by repeat (first | (with_reducible first | exact HB.out | apply below_alloc | apply pw_below_drewN | apply below_drew1 | refine below_set ?_ (IsS67.ge I1.out)) | exact HB.out), by repeat (first | (with_reducible first | exact HK.out | apply KeepBut.set_ | apply keep_drewN | apply keep_drew | apply keep_alloc) | exact HK.out)⟩

def spec_l8R_corners.f (k : Nat) (s0_0 : Bool) (s0_1 : Int) (s0_2 : Int) (a1 : Int) (a2_0 : Int) (a2_1 : Int) (a3_0 : Int) (a3_1 : Int) : Option (Bool × Int × Int) := (spec_l1Exact.f k a1 a2_0 a3_0).bind fun t1 => ((spec_l8R_add.f k s0_0 s0_1 s0_2 t1).bind fun u1 => ((spec_l1Exact.f k a1 a2_0 a3_1).bind fun t2 => ((spec_l8R_add.f k u1.1 u1.2.1 u1.2.2 t2).bind fun u2 => ((spec_l1Exact.f k a1 a2_1 a3_0).bind fun t3 => ((spec_l8R_add.f k u2.1 u2.2.1 u2.2.2 t3).bind fun u3 => ((spec_l1Exact.f k a1 a2_1 a3_1).bind fun t4 => ((spec_l8R_add.f k u3.1 u3.2.1 u3.2.2 t4).bind fun u4 => (some (u4.1, u4.2.1, u4.2.2)))))))))
theorem spec_l8R_corners.mono : ∀ a0 a1 a2 a3 a4 a5 a6 a7 k, LeO (spec_l8R_corners.f k a0 a1 a2 a3 a4 a5 a6 a7) (spec_l8R_corners.f (k + 1) a0 a1 a2 a3 a4 a5 a6 a7) := by
 intro a0 a1 a2 a3 a4 a5 a6 a7 k
 unfold spec_l8R_corners.f
 repeat' first | (with_reducible first | apply spec_l1Exact.mono | apply spec_l8R_add.mono | apply LeO.refl | apply LeO.none | refine LeO.ite ?_ ?_ | refine LeO.bind ?_ (fun _ => ?_)) | apply spec_l1Exact.mono | apply spec_l8R_add.mono | apply LeO.none | refine LeO.ite ?_ ?_ | refine LeO.bind ?_ (fun _ => ?_)
set_option maxHeartbeats 8000000 in
set_option maxRecDepth 100000 in
theorem spec_l8R_corners.calls (k : Nat) (g : Nat) (s0_0 : Bool) (s0_1 : Int) (s0_2 : Int) (a1 : Int) (a2_0 : Int) (a2_1 : Int) (a3_0 : Int) (a3_1 : Int) (r1 : Bool) (r2 : Int) (r3 : Int) (w1 w : World) (hI : IsS67 w1 w g s0_0 s0_1 s0_2) (hB : Below w1.heap.size w1 w) (h : spec_l8R_corners.f k s0_0 s0_1 s0_2 a1 a2_0 a2_1 a3_0 a3_1 = some (r1, r2, r3)) :
  Calls Try.prog 42 #[.pointer (some ⟨g, 0, none⟩), .int .i64 a1, .agg #[.int .i64 a2_0, .int .i64 a2_1], .agg #[.int .i64 a3_0, .int .i64 a3_1]] w fun e w' => e = .returned (.tuple #[]) ∧ IsS67 w1 w' g r1 r2 r3 ∧ Below w1.heap.size w1 w' ∧ KeepBut w w' g none := by
 have hu24 := Try.underlying24
 have I1 := am hI
 have HK := am (KeepBut.refl w g none)
 have HL := am hB.size
 clear hI
 have HW0 := am hB.size
 have HB := am hB
 clear hB
 have H : ((spec_l1Exact.f k a1 a2_0 a3_0).bind fun t1 => ((spec_l8R_add.f k s0_0 s0_1 s0_2 t1).bind fun u1 => ((spec_l1Exact.f k a1 a2_0 a3_1).bind fun t2 => ((spec_l8R_add.f k u1.1 u1.2.1 u1.2.2 t2).bind fun u2 => ((spec_l1Exact.f k a1 a2_1 a3_0).bind fun t3 => ((spec_l8R_add.f k u2.1 u2.2.1 u2.2.2 t3).bind fun u3 => ((spec_l1Exact.f k a1 a2_1 a3_1).bind fun t4 => ((spec_l8R_add.f k u3.1 u3.2.1 u3.2.2 t4).bind fun u4 => (some (u4.1, u4.2.1, u4.2.2)))))))))) = some (r1, r2, r3) := h
 clear h
 obtain ⟨t1, A1, H⟩ := bd H
 try dsimp only at H
 obtain ⟨⟨t5, t6, t7⟩, A2, H⟩ := bd H
 try dsimp only at H
 obtain ⟨t2, A3, H⟩ := bd H
 try dsimp only at H
 obtain ⟨⟨t8, t9, t10⟩, A4, H⟩ := bd H
 try dsimp only at H
 obtain ⟨t3, A5, H⟩ := bd H
 try dsimp only at H
 obtain ⟨⟨t11, t12, t13⟩, A6, H⟩ := bd H
 try dsimp only at H
 obtain ⟨t4, A7, H⟩ := bd H
 try dsimp only at H
 obtain ⟨⟨t14, t15, t16⟩, A8, H⟩ := bd H
 try dsimp only at H
 simp only [Option.some.injEq, Prod.mk.injEq] at H
 obtain ⟨rfl, rfl, rfl⟩ := H
 go_enter Try.func42, Try.ntmps42
 go_wp2_with (first | ((with_reducible refine gate_dst (N := 6) rfl ?_); refine bx 6 #[.int .i64 a2_0, .int .i64 a2_1] 24 ?_; intro g1 hg w2 hbox hb; have K1 := am (hbox); have G1 := am ((by rw [hg]; exact (keep_size (w := w) (g := g) (row := none) (by repeat (first | (with_reducible first | exact HK.out | apply KeepBut.set_ | apply keep_drewN | apply keep_drew | apply keep_alloc) | exact HK.out))) : w.heap.size ≤ g1)); have G2 := am ((Nat.le_trans HW0.out (by rw [hg]; exact (keep_size (w := w) (g := g) (row := none) (by repeat (first | (with_reducible first | exact HK.out | apply KeepBut.set_ | apply keep_drewN | apply keep_drew | apply keep_alloc) | exact HK.out))) : w.heap.size ≤ g1) : w1.heap.size ≤ g1)); have N1 := am ((by rw [hg]; exact Nat.ne_of_lt (IsS67.lt (show IsS67 w1 _ g s0_0 s0_1 s0_2 from by repeat (first | (with_reducible first | exact I1.out | apply IsS67.alloc | apply IsS67.drewN | apply IsS67.drew | apply IsS67.set_0 | apply IsS67.set_1 | apply IsS67.set_2) | exact I1.out))) : g ≠ g1)); have N2 := am ((by rw [hg]; exact Nat.ne_of_gt (IsS67.lt (show IsS67 w1 _ g s0_0 s0_1 s0_2 from by repeat (first | (with_reducible first | exact I1.out | apply IsS67.alloc | apply IsS67.drewN | apply IsS67.drew | apply IsS67.set_0 | apply IsS67.set_1 | apply IsS67.set_2) | exact I1.out))) : g1 ≠ g)); replace HK := am (KeepBut.trans (by repeat (first | (with_reducible first | exact HK.out | apply KeepBut.set_ | apply keep_drewN | apply keep_drew | apply keep_alloc) | exact HK.out)) (KeepBut.of_below hb g none) (.inl rfl)); replace HB := am (below_step (by repeat (first | (with_reducible first | exact HB.out | apply below_alloc | apply pw_below_drewN | apply below_drew1 | refine below_set ?_ (IsS67.ge I1.out)) | exact HB.out)) hb); replace I1 := am (IsS67.below (by repeat (first | (with_reducible first | exact I1.out | apply IsS67.alloc | apply IsS67.drewN | apply IsS67.drew | apply IsS67.set_0 | apply IsS67.set_1 | apply IsS67.set_2) | exact I1.out)) hb); clear hb hbox hg) | ((with_reducible refine gate_dst (N := 7) rfl ?_); refine bx 7 #[.int .i64 a3_0, .int .i64 a3_1] 24 ?_; intro g2 hg w3 hbox hb; have K2 := am (hbox); have G3 := am ((by rw [hg]; exact (keep_size (w := w) (g := g) (row := none) (by repeat (first | (with_reducible first | exact HK.out | apply KeepBut.set_ | apply keep_drewN | apply keep_drew | apply keep_alloc | refine keep_far ?_ G1.out _) | exact HK.out))) : w.heap.size ≤ g2)); have G4 := am ((Nat.le_trans HW0.out (by rw [hg]; exact (keep_size (w := w) (g := g) (row := none) (by repeat (first | (with_reducible first | exact HK.out | apply KeepBut.set_ | apply keep_drewN | apply keep_drew | apply keep_alloc | refine keep_far ?_ G1.out _) | exact HK.out))) : w.heap.size ≤ g2) : w1.heap.size ≤ g2)); obtain ⟨N3,N4⟩ := ne_ hg K1; have N5 := am ((by rw [hg]; exact Nat.ne_of_lt (IsS67.lt (show IsS67 w1 _ g s0_0 s0_1 s0_2 from by repeat (first | (with_reducible first | exact I1.out | apply IsS67.alloc | apply IsS67.drewN | apply IsS67.drew | apply IsS67.set_0 | apply IsS67.set_1 | apply IsS67.set_2 | refine IsS67.far ?_ N1.out _) | exact I1.out))) : g ≠ g2)); have N6 := am ((by rw [hg]; exact Nat.ne_of_gt (IsS67.lt (show IsS67 w1 _ g s0_0 s0_1 s0_2 from by repeat (first | (with_reducible first | exact I1.out | apply IsS67.alloc | apply IsS67.drewN | apply IsS67.drew | apply IsS67.set_0 | apply IsS67.set_1 | apply IsS67.set_2 | refine IsS67.far ?_ N1.out _) | exact I1.out))) : g2 ≠ g)); replace K1 := bb K1 hb; replace HK := am (KeepBut.trans (by repeat (first | (with_reducible first | exact HK.out | apply KeepBut.set_ | apply keep_drewN | apply keep_drew | apply keep_alloc | refine keep_far ?_ G1.out _) | exact HK.out)) (KeepBut.of_below hb g none) (.inl rfl)); replace HB := am (below_step (by repeat (first | (with_reducible first | exact HB.out | apply below_alloc | apply pw_below_drewN | apply below_drew1 | refine below_set ?_ (IsS67.ge I1.out) | refine below_set ?_ G2.out) | exact HB.out)) hb); replace I1 := am (IsS67.below (by repeat (first | (with_reducible first | exact I1.out | apply IsS67.alloc | apply IsS67.drewN | apply IsS67.drew | apply IsS67.set_0 | apply IsS67.set_1 | apply IsS67.set_2 | refine IsS67.far ?_ N1.out _) | exact I1.out)) hb); clear hb hbox hg; have z_ := ns3 N3 N2 N6; have z_ := cB2 K1; have z_ := cB2 K2) | ((with_reducible refine gate_callee (f := 63) rfl ?_); refine goesL_ (some 14) rfl rfl Try.func63 (by kernel_rfl) rfl #[.int .i64 a1, .int .i64 a2_0, .int .i64 a3_0] rfl mz ?_; (with_reducible refine (spec_l1Exact.calls _ _ _ _ _ _ A1.out).mono ?_); rintro e w' ⟨rfl, ⟨nd, rfl⟩⟩; refine ⟨_, rfl, ?_⟩) | ((with_reducible refine gate_callee (f := 92) rfl ?_); refine goesL_ (some 15) rfl rfl Try.func92 (by kernel_rfl) rfl #[.pointer (some ⟨g, 0, none⟩), .int .i64 t1] rfl mz ?_; (with_reducible refine (spec_l8R_add.calls k g s0_0 s0_1 s0_2 t1 t5 t6 t7 w1 _ ?side1 ?side2 A2.out).mono ?_); (case side1 => repeat (first | (with_reducible first | exact I1.out | apply IsS67.alloc | apply IsS67.drewN | apply IsS67.drew | apply IsS67.set_0 | apply IsS67.set_1 | apply IsS67.set_2 | refine IsS67.far ?_ N1.out _ | refine IsS67.far ?_ N5.out _) | exact I1.out)); (case side2 => repeat (first | (with_reducible first | exact HB.out | apply below_alloc | apply pw_below_drewN | apply below_drew1 | refine below_set ?_ (IsS67.ge I1.out) | refine below_set ?_ G2.out | refine below_set ?_ G4.out) | exact HB.out)); rintro e w4 ⟨rfl, hi, hb, hk⟩; refine ⟨_, rfl, ?_⟩; replace K1 := am (KeepBut.blk hk (g' := g1) (o := b2 a2_0 a2_1 24) (Z K1) N2.out (by simp)); replace K2 := am (KeepBut.blk hk (g' := g2) (o := b2 a3_0 a3_1 24) (Z K2) N6.out (by simp)); replace HK := am (KeepBut.trans (by repeat (first | (with_reducible first | exact HK.out | apply KeepBut.set_ | apply keep_drewN | apply keep_drew | apply keep_alloc | refine keep_far ?_ G1.out _ | refine keep_far ?_ G3.out _) | exact HK.out)) hk (.inl rfl)); replace HB := am (hb); replace I1 := am (hi); (try clear hb); have z_ := cB2 K1; have z_ := cB2 K2) | ((with_reducible refine gate_callee (f := 63) rfl ?_); refine goesL_ (some 22) rfl rfl Try.func63 (by kernel_rfl) rfl #[.int .i64 a1, .int .i64 a2_0, .int .i64 a3_1] rfl mz ?_; (with_reducible refine (spec_l1Exact.calls _ _ _ _ _ _ A3.out).mono ?_); rintro e w' ⟨rfl, ⟨nd, rfl⟩⟩; refine ⟨_, rfl, ?_⟩) | ((with_reducible refine gate_callee (f := 92) rfl ?_); refine goesL_ (some 23) rfl rfl Try.func92 (by kernel_rfl) rfl #[.pointer (some ⟨g, 0, none⟩), .int .i64 t2] rfl mz ?_; (with_reducible refine (spec_l8R_add.calls k g t5 t6 t7 t2 t8 t9 t10 w1 _ ?side1 ?side2 A4.out).mono ?_); (case side1 => repeat (first | (with_reducible first | exact I1.out | apply IsS67.alloc | apply IsS67.drewN | apply IsS67.drew | apply IsS67.set_0 | apply IsS67.set_1 | apply IsS67.set_2 | refine IsS67.far ?_ N1.out _ | refine IsS67.far ?_ N5.out _) | exact I1.out)); (case side2 => repeat (first | (with_reducible first | exact HB.out | apply below_alloc | apply pw_below_drewN | apply below_drew1 | refine below_set ?_ (IsS67.ge I1.out) | refine below_set ?_ G2.out | refine below_set ?_ G4.out) | exact HB.out)); rintro e w5 ⟨rfl, hi, hb, hk⟩; refine ⟨_, rfl, ?_⟩; replace K1 := am (KeepBut.blk hk (g' := g1) (o := b2 a2_0 a2_1 24) (Z K1) N2.out (by simp)); replace K2 := am (KeepBut.blk hk (g' := g2) (o := b2 a3_0 a3_1 24) (Z K2) N6.out (by simp)); replace HK := am (KeepBut.trans (by repeat (first | (with_reducible first | exact HK.out | apply KeepBut.set_ | apply keep_drewN | apply keep_drew | apply keep_alloc | refine keep_far ?_ G1.out _ | refine keep_far ?_ G3.out _) | exact HK.out)) hk (.inl rfl)); replace HB := am (hb); replace I1 := am (hi); (try clear hb); have z_ := cB2 K1; have z_ := cB2 K2) | ((with_reducible refine gate_callee (f := 63) rfl ?_); refine goesL_ (some 30) rfl rfl Try.func63 (by kernel_rfl) rfl #[.int .i64 a1, .int .i64 a2_1, .int .i64 a3_0] rfl mz ?_; (with_reducible refine (spec_l1Exact.calls _ _ _ _ _ _ A5.out).mono ?_); rintro e w' ⟨rfl, ⟨nd, rfl⟩⟩; refine ⟨_, rfl, ?_⟩) | ((with_reducible refine gate_callee (f := 92) rfl ?_); refine goesL_ (some 31) rfl rfl Try.func92 (by kernel_rfl) rfl #[.pointer (some ⟨g, 0, none⟩), .int .i64 t3] rfl mz ?_; (with_reducible refine (spec_l8R_add.calls k g t8 t9 t10 t3 t11 t12 t13 w1 _ ?side1 ?side2 A6.out).mono ?_); (case side1 => repeat (first | (with_reducible first | exact I1.out | apply IsS67.alloc | apply IsS67.drewN | apply IsS67.drew | apply IsS67.set_0 | apply IsS67.set_1 | apply IsS67.set_2 | refine IsS67.far ?_ N1.out _ | refine IsS67.far ?_ N5.out _) | exact I1.out)); (case side2 => repeat (first | (with_reducible first | exact HB.out | apply below_alloc | apply pw_below_drewN | apply below_drew1 | refine below_set ?_ (IsS67.ge I1.out) | refine below_set ?_ G2.out | refine below_set ?_ G4.out) | exact HB.out)); rintro e w6 ⟨rfl, hi, hb, hk⟩; refine ⟨_, rfl, ?_⟩; replace K1 := am (KeepBut.blk hk (g' := g1) (o := b2 a2_0 a2_1 24) (Z K1) N2.out (by simp)); replace K2 := am (KeepBut.blk hk (g' := g2) (o := b2 a3_0 a3_1 24) (Z K2) N6.out (by simp)); replace HK := am (KeepBut.trans (by repeat (first | (with_reducible first | exact HK.out | apply KeepBut.set_ | apply keep_drewN | apply keep_drew | apply keep_alloc | refine keep_far ?_ G1.out _ | refine keep_far ?_ G3.out _) | exact HK.out)) hk (.inl rfl)); replace HB := am (hb); replace I1 := am (hi); (try clear hb); have z_ := cB2 K1; have z_ := cB2 K2) | ((with_reducible refine gate_callee (f := 63) rfl ?_); refine goesL_ (some 38) rfl rfl Try.func63 (by kernel_rfl) rfl #[.int .i64 a1, .int .i64 a2_1, .int .i64 a3_1] rfl mz ?_; (with_reducible refine (spec_l1Exact.calls _ _ _ _ _ _ A7.out).mono ?_); rintro e w' ⟨rfl, ⟨nd, rfl⟩⟩; refine ⟨_, rfl, ?_⟩) | ((with_reducible refine gate_callee (f := 92) rfl ?_); refine goesL_ (some 39) rfl rfl Try.func92 (by kernel_rfl) rfl #[.pointer (some ⟨g, 0, none⟩), .int .i64 t4] rfl mz ?_; (with_reducible refine (spec_l8R_add.calls k g t11 t12 t13 t4 t14 t15 t16 w1 _ ?side1 ?side2 A8.out).mono ?_); (case side1 => repeat (first | (with_reducible first | exact I1.out | apply IsS67.alloc | apply IsS67.drewN | apply IsS67.drew | apply IsS67.set_0 | apply IsS67.set_1 | apply IsS67.set_2 | refine IsS67.far ?_ N1.out _ | refine IsS67.far ?_ N5.out _) | exact I1.out)); (case side2 => repeat (first | (with_reducible first | exact HB.out | apply below_alloc | apply pw_below_drewN | apply below_drew1 | refine below_set ?_ (IsS67.ge I1.out) | refine below_set ?_ G2.out | refine below_set ?_ G4.out) | exact HB.out)); rintro e w7 ⟨rfl, hi, hb, hk⟩; refine ⟨_, rfl, ?_⟩; replace K1 := am (KeepBut.blk hk (g' := g1) (o := b2 a2_0 a2_1 24) (Z K1) N2.out (by simp)); replace K2 := am (KeepBut.blk hk (g' := g2) (o := b2 a3_0 a3_1 24) (Z K2) N6.out (by simp)); replace HK := am (KeepBut.trans (by repeat (first | (with_reducible first | exact HK.out | apply KeepBut.set_ | apply keep_drewN | apply keep_drew | apply keep_alloc | refine keep_far ?_ G1.out _ | refine keep_far ?_ G3.out _) | exact HK.out)) hk (.inl rfl)); replace HB := am (hb); replace I1 := am (hi); (try clear hb)))
 first | go_end0 | ((try simp only [Exit.inBlock, Exit.then]); refine bodyPost_ret (results_none rfl _ _ _) rfl ?_)
 exact ⟨ez, by repeat (first | (with_reducible first | exact I1.out | apply IsS67.alloc | apply IsS67.drewN | apply IsS67.drew | apply IsS67.set_0 | apply IsS67.set_1 | apply IsS67.set_2 | refine IsS67.far ?_ N1.out _ | refine IsS67.far ?_ N5.out _) | exact I1.out), by repeat (first | (with_reducible first | exact HB.out | apply below_alloc | apply pw_below_drewN | apply below_drew1 | refine below_set ?_ (IsS67.ge I1.out) | refine below_set ?_ G2.out | refine below_set ?_ G4.out) | exact HB.out), by repeat (first | (with_reducible first | exact HK.out | apply KeepBut.set_ | apply keep_drewN | apply keep_drew | apply keep_alloc | refine keep_far ?_ G1.out _ | refine keep_far ?_ G3.out _) | exact HK.out)⟩

def spec_l8Rem.j0 : Nat → Int → Bool → Int → Int → Option (Int × Int)
 | 0, _, _, _, _ => none
 | k + 1, x1, x2, x3, x4 => if x2 = true then (some (x3, x4)) else (if x3 < 0 then ((spec_l8Max.f x3 (wrap64 (1 - x1))).bind fun t1 => (if x4 > 0 then ((spec_l8Min.f x4 (wrap64 (x1 - 1))).bind fun t2 => (some (t1, t2))) else (some (t1, 0)))) else (if x4 > 0 then ((spec_l8Min.f x4 (wrap64 (x1 - 1))).bind fun t3 => (some (0, t3))) else (some (0, 0))))
def spec_l8Rem.f (k : Nat) (a0_0 : Int) (a0_1 : Int) (a1 : Int) (a2 : Int) : Option (Int × Int) := if a0_0 > (wrap64 (-a1)) then (spec_l8Rem.j0 k a2 (decide (a0_1 < a1)) a0_0 a0_1) else (spec_l8Rem.j0 k a2 false a0_0 a0_1)
theorem spec_l8Rem.mono_l : ∀ k, (∀ y0 y1 y2 y3, LeO (spec_l8Rem.j0 k y0 y1 y2 y3) (spec_l8Rem.j0 (k + 1) y0 y1 y2 y3))
 | 0 => fun _ _ _ _ r h => by simp [spec_l8Rem.j0] at h
 | k + 1 => by
  have ih0 := spec_l8Rem.mono_l k
  ·intro y0 y1 y2 y3
   unfold spec_l8Rem.j0
   repeat' first | (with_reducible first | apply ih0 | apply LeO.refl | apply LeO.none | refine LeO.ite ?_ ?_ | refine LeO.bind ?_ (fun _ => ?_)) | apply ih0 | apply LeO.none | refine LeO.ite ?_ ?_ | refine LeO.bind ?_ (fun _ => ?_)
theorem spec_l8Rem.mono : ∀ a0 a1 a2 a3 k, LeO (spec_l8Rem.f k a0 a1 a2 a3) (spec_l8Rem.f (k + 1) a0 a1 a2 a3) := by
 intro a0 a1 a2 a3 k
 have ih0 := spec_l8Rem.mono_l k
 unfold spec_l8Rem.f
 repeat' first | (with_reducible first | apply ih0 | apply LeO.refl | apply LeO.none | refine LeO.ite ?_ ?_ | refine LeO.bind ?_ (fun _ => ?_)) | apply ih0 | apply LeO.none | refine LeO.ite ?_ ?_ | refine LeO.bind ?_ (fun _ => ?_)
set_option maxHeartbeats 8000000 in
set_option maxRecDepth 100000 in
theorem spec_l8Rem.calls (k : Nat) (a0_0 : Int) (a0_1 : Int) (a1 : Int) (a2 : Int) (r1 : Int) (r2 : Int) (w : World) (h : spec_l8Rem.f k a0_0 a0_1 a1 a2 = some (r1, r2)) :
  Calls Try.prog 89 #[.agg #[.int .i64 a0_0, .int .i64 a0_1], .int .i64 a1, .int .i64 a2] w fun e w' => e = .returned (.agg #[.int .i64 r1, .int .i64 r2]) ∧ Below w.heap.size w w' := by
 have hu24 := Try.underlying24
 have HB := am (Below.refl w.heap.size w)
 have H : (if a0_0 > (wrap64 (-a1)) then (spec_l8Rem.j0 k a2 (decide (a0_1 < a1)) a0_0 a0_1) else (spec_l8Rem.j0 k a2 false a0_0 a0_1)) = some (r1, r2) := h
 clear h
 have C1 := am H
 clear H
 go_enter Try.func89, Try.ntmps89
 go_upto_region 1 with (first | ((with_reducible refine gate_dst (N := 3) rfl ?_); refine bxn 3 #[.int .i64 a0_0, .int .i64 a0_1] 24 HB fun g1 w1 K1 G1 hg hb => ?_; replace HB := am (below_step (YA HB) hb); clear hb hg) | ((with_reducible refine gate_dst (N := 6) rfl ?_); refine bxn 6 #[.int .i64 0, .int .i64 0] 24 HB fun g2 w2 K2 G2 hg hb => ?_; obtain ⟨N1,N2⟩ := ne_ hg K1; obtain ⟨K1, HB⟩ := bk1 K1 HB hb; clear hb hg))
 (try simp only [Act.put, List.setIfInBounds_toArray, List.set_cons_zero, List.set_cons_succ])
 go_cut [18] (fun v1 wc => ∃ (kq : Nat) (x1 : Bool), v1 = .bool x1 ∧ Aside0 (spec_l8Rem.j0 kq a2 x1 a0_0 a0_1 = some (r1, r2)) ∧ Aside0 (kq ≤ k) ∧ Bx2 wc g1 a0_0 a0_1 24 ∧ Bx2 wc g2 0 0 24 ∧ Aside0 (Below w.heap.size w wc))
 case first =>
  have H := C1.out
  clear C1
  by_cases c1 : a0_0 > (wrap64 (-a1))
  rotate_left
  ·rw [if_neg c1] at H
   have d1 := dF c1
   clear c1
   (first | rw [d1] | (simp only [i64_w, i32_w]; rw [d1]) | skip)
   have H' := am H
   clear H
   have z_ := ns1 N1
   have z_ := cB2 K1
   go_wp2
   go_meet
   case rel => exact ⟨_, (false), ey, H', le0, ⟨Z K1⟩, ⟨Z K2⟩, ⟨YA HB⟩⟩
  rw [if_pos c1] at H
  have d1 := dT c1
  clear c1
  (first | rw [d1] | (simp only [i64_w, i32_w]; rw [d1]) | skip)
  have H' := am H
  clear H
  have z_ := ns1 N1
  have z_ := cB2 K1
  go_wp2
  go_meet
  case rel => exact ⟨_, (decide (a0_1 < a1)), ey, H', le0, ⟨Z K1⟩, ⟨Z K2⟩, ⟨YA HB⟩⟩
 case rest =>
  clear C1
  obtain ⟨kq, x1, rfl, HA, J1, K1, K2, HB⟩ := hcut
  cases kq with
  | zero => exact absurd HA.out (by simp [spec_l8Rem.j0])
  | succ k1 =>
   have H := HA.out
   clear HA
   simp only [spec_l8Rem.j0] at H
   by_cases c1 : x1 = true
   ·subst c1
    rw [if_pos rfl] at H
    simp only [Option.some.injEq, Prod.mk.injEq] at H
    obtain ⟨rfl, rfl⟩ := H
    have z_ := ns1 N1
    have z_ := cB2 K1
    have z_ := cB2 K2
    go_wp2
    refine bodyPost_ret (results_cell_row rfl _ _ g2 24 #[.int .i64 a0_0, .int .i64 a0_1] (0, 0) _ rfl (by refine pf ?_; refine blk_put (cs := #[.int .i64 a0_0, .int .i64 0]) ?_ 1 _ rfl; refine pf ?_; refine blk_put (cs := #[.int .i64 0, .int .i64 0]) ?_ 0 _ rfl; exact Z K2) Try.underlying24 rfl (by kernel_rfl)) rfl ?_
    exact ⟨ez, YA HB⟩
   replace c1 := Bool.eq_false_iff.mpr c1
   subst c1
   rw [if_neg ff] at H
   by_cases c2 : a0_0 < 0
   rotate_left
   ·rw [if_neg c2] at H
    have d1 := dF c2
    clear c2
    by_cases c3 : a0_1 > 0
    rotate_left
    ·rw [if_neg c3] at H
     have d2 := dF c3
     clear c3
     simp only [Option.some.injEq, Prod.mk.injEq] at H
     obtain ⟨rfl, rfl⟩ := H
     go_wp2_with (first | ((with_reducible refine gate_dst (N := 7) rfl ?_); refine bxn 7 #[.int .i64 0, .int .i64 0] 24 HB fun g3 w3 K3 G3 hg hb => ?_; obtain ⟨N3,N4⟩ := ne_ hg K1; obtain ⟨N5,N6⟩ := ne_ hg K2; obtain ⟨K1, K2, HB⟩ := bk2 K1 K2 HB hb; clear hb hg; have z_ := ns3 N4 N6 N1; have z_ := cB2 K3; have z_ := cB2 K1; have z_ := cB2 K2))
     refine bodyPost_ret (results_cell_row rfl _ _ g2 24 #[.int .i64 0, .int .i64 0] (0, 0) _ rfl (by refine pf ?_; refine blk_put (cs := #[.int .i64 0, .int .i64 0]) ?_ 1 _ rfl; refine pf ?_; refine blk_put (cs := #[.int .i64 0, .int .i64 0]) ?_ 0 _ rfl; refine fa N5 ?_; refine fa N5 ?_; exact Z K2) Try.underlying24 rfl (by kernel_rfl)) rfl ?_
     exact ⟨ez, YA HB⟩
    rw [if_pos c3] at H
    have d2 := dT c3
    clear c3
    obtain ⟨t1, A1, H⟩ := bd H
    try dsimp only at H
    simp only [Option.some.injEq, Prod.mk.injEq] at H
    obtain ⟨rfl, rfl⟩ := H
    go_wp2_with (first | ((with_reducible refine gate_dst (N := 7) rfl ?_); refine bxn 7 #[.int .i64 0, .int .i64 0] 24 HB fun g3 w3 K3 G3 hg hb => ?_; obtain ⟨N3,N4⟩ := ne_ hg K1; obtain ⟨N5,N6⟩ := ne_ hg K2; obtain ⟨K1, K2, HB⟩ := bk2 K1 K2 HB hb; clear hb hg; have z_ := ns3 N4 N6 N1; have z_ := cB2 K3; have z_ := cB2 K1) | ((with_reducible refine gate_callee (f := 68) rfl ?_); refine goesL_ (some 37) rfl rfl Try.func68 (by kernel_rfl) rfl #[.int .i64 a0_1, .int .i64 (wrap64 (a2 - 1))] rfl mz ?_; (with_reducible refine (spec_l8Min.calls _ _ _ _ A1.out).mono ?_); rintro e w' ⟨rfl, ⟨nd, rfl⟩⟩; refine ⟨_, rfl, ?_⟩; have z_ := cB2 K2))
    refine bodyPost_ret (results_cell_row rfl _ _ g2 24 #[.int .i64 0, .int .i64 t1] (0, 0) _ rfl (by refine pf ?_; refine blk_put (cs := #[.int .i64 0, .int .i64 0]) ?_ 1 _ rfl; refine pf ?_; refine blk_put (cs := #[.int .i64 0, .int .i64 0]) ?_ 0 _ rfl; refine fa N5 ?_; refine fa N5 ?_; refine fa N5 ?_; exact Z K2) Try.underlying24 rfl (by kernel_rfl)) rfl ?_
    exact ⟨ez, YA HB⟩
   rw [if_pos c2] at H
   have d1 := dT c2
   clear c2
   obtain ⟨t1, A1, H⟩ := bd H
   try dsimp only at H
   by_cases c3 : a0_1 > 0
   rotate_left
   ·rw [if_neg c3] at H
    have d2 := dF c3
    clear c3
    simp only [Option.some.injEq, Prod.mk.injEq] at H
    obtain ⟨rfl, rfl⟩ := H
    go_wp2_with (first | ((with_reducible refine gate_dst (N := 7) rfl ?_); refine bxn 7 #[.int .i64 0, .int .i64 0] 24 HB fun g3 w3 K3 G3 hg hb => ?_; obtain ⟨N3,N4⟩ := ne_ hg K1; obtain ⟨N5,N6⟩ := ne_ hg K2; obtain ⟨K1, K2, HB⟩ := bk2 K1 K2 HB hb; clear hb hg; have z_ := ns3 N4 N6 N1; have z_ := cB2 K3; have z_ := cB2 K1) | ((with_reducible refine gate_callee (f := 69) rfl ?_); refine goesL_ (some 28) rfl rfl Try.func69 (by kernel_rfl) rfl #[.int .i64 a0_0, .int .i64 (wrap64 (1 - a2))] rfl mz ?_; (with_reducible refine (spec_l8Max.calls _ _ _ _ A1.out).mono ?_); rintro e w' ⟨rfl, ⟨nd, rfl⟩⟩; refine ⟨_, rfl, ?_⟩; have z_ := cB2 K2))
    refine bodyPost_ret (results_cell_row rfl _ _ g2 24 #[.int .i64 t1, .int .i64 0] (0, 0) _ rfl (by refine pf ?_; refine blk_put (cs := #[.int .i64 t1, .int .i64 0]) ?_ 1 _ rfl; refine pf ?_; refine blk_put (cs := #[.int .i64 0, .int .i64 0]) ?_ 0 _ rfl; refine fa N5 ?_; refine fa N5 ?_; refine fa N5 ?_; exact Z K2) Try.underlying24 rfl (by kernel_rfl)) rfl ?_
    exact ⟨ez, YA HB⟩
   rw [if_pos c3] at H
   have d2 := dT c3
   clear c3
   obtain ⟨t2, A2, H⟩ := bd H
   try dsimp only at H
   simp only [Option.some.injEq, Prod.mk.injEq] at H
   obtain ⟨rfl, rfl⟩ := H
   go_wp2_with (first | ((with_reducible refine gate_dst (N := 7) rfl ?_); refine bxn 7 #[.int .i64 0, .int .i64 0] 24 HB fun g3 w3 K3 G3 hg hb => ?_; obtain ⟨N3,N4⟩ := ne_ hg K1; obtain ⟨N5,N6⟩ := ne_ hg K2; obtain ⟨K1, K2, HB⟩ := bk2 K1 K2 HB hb; clear hb hg; have z_ := ns3 N4 N6 N1; have z_ := cB2 K3; have z_ := cB2 K1) | ((with_reducible refine gate_callee (f := 69) rfl ?_); refine goesL_ (some 28) rfl rfl Try.func69 (by kernel_rfl) rfl #[.int .i64 a0_0, .int .i64 (wrap64 (1 - a2))] rfl mz ?_; (with_reducible refine (spec_l8Max.calls _ _ _ _ A1.out).mono ?_); rintro e w' ⟨rfl, ⟨nd, rfl⟩⟩; refine ⟨_, rfl, ?_⟩) | ((with_reducible refine gate_callee (f := 68) rfl ?_); refine goesL_ (some 37) rfl rfl Try.func68 (by kernel_rfl) rfl #[.int .i64 a0_1, .int .i64 (wrap64 (a2 - 1))] rfl mz ?_; (with_reducible refine (spec_l8Min.calls _ _ _ _ A2.out).mono ?_); rintro e w' ⟨rfl, ⟨nd, rfl⟩⟩; refine ⟨_, rfl, ?_⟩; have z_ := cB2 K2))
   refine bodyPost_ret (results_cell_row rfl _ _ g2 24 #[.int .i64 t1, .int .i64 t2] (0, 0) _ rfl (by refine pf ?_; refine blk_put (cs := #[.int .i64 t1, .int .i64 0]) ?_ 1 _ rfl; refine pf ?_; refine blk_put (cs := #[.int .i64 0, .int .i64 0]) ?_ 0 _ rfl; refine fa N5 ?_; refine fa N5 ?_; refine fa N5 ?_; refine fa N5 ?_; exact Z K2) Try.underlying24 rfl (by kernel_rfl)) rfl ?_
   exact ⟨ez, YA HB⟩
end
section
attribute [local go_sem] max2_int min2_int max_two min_two max_three min_three max_four min_four
attribute [local go_sem high] eqA24
attribute [local go_sem] Go.Proofs.YthbkakcchgnhpaaSet.isSome_setCell
mutual
def spec_l8Div.j0 : Nat → Int → List Int → Bool → Int → Int → Int → Int → Int → Int → Int → Int → Option (Int × Int × List Int)
 | 0, _, _, _, _, _, _, _, _, _, _, _ => none
 | k + 1, x1, x2, x3, x4, x5, x6, x7, x8, x9, x10, x11 => if x3 = true then (if x2.length < 17592186044416 then (spec_l8Div.j1 k x1 (x2 ++ [1]) x4 x5 x6 x7 x8 x9 x10 x11) else (none)) else (spec_l8Div.j1 k x1 x2 x4 x5 x6 x7 x8 x9 x10 x11)
def spec_l8Div.j1 : Nat → Int → List Int → Int → Int → Int → Int → Int → Int → Int → Int → Option (Int × Int × List Int)
 | 0, _, _, _, _, _, _, _, _, _, _ => none
 | k + 1, x1, x2, x3, x4, x5, x6, x7, x8, x9, x10 => (spec_RangeHas.f x5 x6 0).bind fun t1 => (if t1 = true then (if x2.length < 17592186044416 then (spec_l8Div.j2 k x1 (x2 ++ [2]) x3 x4 x5 x6 x7 x8 x9 x10) else (none)) else (spec_l8Div.j2 k x1 x2 x3 x4 x5 x6 x7 x8 x9 x10))
def spec_l8Div.j2 : Nat → Int → List Int → Int → Int → Int → Int → Int → Int → Int → Int → Option (Int × Int × List Int)
 | 0, _, _, _, _, _, _, _, _, _, _ => none
 | k + 1, x1, x2, x3, x4, x5, x6, x7, x8, x9, x10 => if x1 = 5 then ((spec_l8None.f).bind fun u1 => ((spec_l8None.f).bind fun u2 => (if (!(x7 == u2.1) || (!(x8 == u2.2))) = true then ((spec_l8Rem.f k x3 x4 (wrap64 (-x8)) (wrap64 (-x7))).bind fun u3 => ((spec_RangeJoin.f k u1.1 u1.2 u3.1 u3.2).bind fun u4 => (spec_l8Div.j3 k x1 x2 x3 x4 x5 x6 x9 x10 u4.1 u4.2))) else (spec_l8Div.j3 k x1 x2 x3 x4 x5 x6 x9 x10 u1.1 u1.2)))) else ((spec_l8None.f).bind fun u5 => (if (!(x7 == u5.1) || (!(x8 == u5.2))) = true then ((spec_l8R_corners.f k false 0 0 x1 x3 x4 x7 x8).bind fun u6 => (spec_l8Div.j4 k x1 x2 x3 x4 x9 x10 u6.1 u6.2.1 u6.2.2)) else (spec_l8Div.j4 k x1 x2 x3 x4 x9 x10 false 0 0)))
def spec_l8Div.j3 : Nat → Int → List Int → Int → Int → Int → Int → Int → Int → Int → Int → Option (Int × Int × List Int)
 | 0, _, _, _, _, _, _, _, _, _, _ => none
 | k + 1, x1, x2, x3, x4, x5, x6, x7, x8, x9, x10 => (spec_l8None.f).bind fun u1 => (if (!(x7 == u1.1) || (!(x8 == u1.2))) = true then ((spec_l8Rem.f k x3 x4 x7 x8).bind fun u2 => ((spec_RangeJoin.f k x9 x10 u2.1 u2.2).bind fun u3 => (if x3 = x4 then (if x5 = x6 then (if x5 = 0 then (some (u3.1, u3.2, x2)) else ((spec_l1Exact.f k x1 x3 x5).bind fun t1 => (some (t1, t1, x2)))) else (some (u3.1, u3.2, x2))) else (some (u3.1, u3.2, x2))))) else (if x3 = x4 then (if x5 = x6 then (if x5 = 0 then (some (x9, x10, x2)) else ((spec_l1Exact.f k x1 x3 x5).bind fun t2 => (some (t2, t2, x2)))) else (some (x9, x10, x2))) else (some (x9, x10, x2))))
def spec_l8Div.j4 : Nat → Int → List Int → Int → Int → Int → Int → Bool → Int → Int → Option (Int × Int × List Int)
 | 0, _, _, _, _, _, _, _, _, _ => none
 | k + 1, x1, x2, x3, x4, x5, x6, x7, x8, x9 => (spec_l8None.f).bind fun u1 => (if (!(x5 == u1.1) || (!(x6 == u1.2))) = true then ((spec_l8R_corners.f k x7 x8 x9 x1 x3 x4 x5 x6).bind fun u2 => (spec_l8Div.j5 k x2 u2.1 u2.2.1 u2.2.2)) else (spec_l8Div.j5 k x2 x7 x8 x9))
def spec_l8Div.j5 : Nat → List Int → Bool → Int → Int → Option (Int × Int × List Int)
 | 0, _, _, _, _ => none
 | k + 1, x1, x2, x3, x4 => if x2 = true then ((spec_l8Cut.f x3 x4).bind fun u1 => (some (u1.1, u1.2, x1))) else ((spec_l8None.f).bind fun u2 => (some (u2.1, u2.2, x1)))
end
def spec_l8Div.f (k : Nat) (a0 : Int) (a1_0 : Int) (a1_1 : Int) (a2_0 : Int) (a2_1 : Int) : Option (Int × Int × List Int) := (some (([] : List Int) : List Int)).bind fun y1 => ((spec_RangeMeet.f k a2_0 a2_1 (-2147483648) (-1)).bind fun u1 => ((spec_RangeMeet.f k a2_0 a2_1 1 2147483647).bind fun u2 => (if a0 = 4 then (if a1_0 = (-2147483648) then ((spec_RangeHas.f a2_0 a2_1 (-1)).bind fun t1 => (spec_l8Div.j0 k a0 y1 t1 a1_0 a1_1 a2_0 a2_1 u1.1 u1.2 u2.1 u2.2)) else (spec_l8Div.j0 k a0 y1 false a1_0 a1_1 a2_0 a2_1 u1.1 u1.2 u2.1 u2.2)) else (spec_l8Div.j0 k a0 y1 false a1_0 a1_1 a2_0 a2_1 u1.1 u1.2 u2.1 u2.2))))
theorem spec_l8Div.mono_l : ∀ k, (∀ y0 y1 y2 y3 y4 y5 y6 y7 y8 y9 y10, LeO (spec_l8Div.j0 k y0 y1 y2 y3 y4 y5 y6 y7 y8 y9 y10) (spec_l8Div.j0 (k + 1) y0 y1 y2 y3 y4 y5 y6 y7 y8 y9 y10)) ∧ (∀ y0 y1 y2 y3 y4 y5 y6 y7 y8 y9, LeO (spec_l8Div.j1 k y0 y1 y2 y3 y4 y5 y6 y7 y8 y9) (spec_l8Div.j1 (k + 1) y0 y1 y2 y3 y4 y5 y6 y7 y8 y9)) ∧ (∀ y0 y1 y2 y3 y4 y5 y6 y7 y8 y9, LeO (spec_l8Div.j2 k y0 y1 y2 y3 y4 y5 y6 y7 y8 y9) (spec_l8Div.j2 (k + 1) y0 y1 y2 y3 y4 y5 y6 y7 y8 y9)) ∧ (∀ y0 y1 y2 y3 y4 y5 y6 y7 y8 y9, LeO (spec_l8Div.j3 k y0 y1 y2 y3 y4 y5 y6 y7 y8 y9) (spec_l8Div.j3 (k + 1) y0 y1 y2 y3 y4 y5 y6 y7 y8 y9)) ∧ (∀ y0 y1 y2 y3 y4 y5 y6 y7 y8, LeO (spec_l8Div.j4 k y0 y1 y2 y3 y4 y5 y6 y7 y8) (spec_l8Div.j4 (k + 1) y0 y1 y2 y3 y4 y5 y6 y7 y8)) ∧ (∀ y0 y1 y2 y3, LeO (spec_l8Div.j5 k y0 y1 y2 y3) (spec_l8Div.j5 (k + 1) y0 y1 y2 y3))
 | 0 => ⟨fun _ _ _ _ _ _ _ _ _ _ _ r h => by simp [spec_l8Div.j0] at h, fun _ _ _ _ _ _ _ _ _ _ r h => by simp [spec_l8Div.j1] at h, fun _ _ _ _ _ _ _ _ _ _ r h => by simp [spec_l8Div.j2] at h, fun _ _ _ _ _ _ _ _ _ _ r h => by simp [spec_l8Div.j3] at h, fun _ _ _ _ _ _ _ _ _ r h => by simp [spec_l8Div.j4] at h, fun _ _ _ _ r h => by simp [spec_l8Div.j5] at h⟩
 | k + 1 => by
  obtain ⟨ih0, ih1, ih2, ih3, ih4, ih5⟩ := spec_l8Div.mono_l k
  refine ⟨?_, ?_, ?_, ?_, ?_, ?_⟩ <;> (intros; (first | unfold spec_l8Div.j0 | unfold spec_l8Div.j1 | unfold spec_l8Div.j2 | unfold spec_l8Div.j3 | unfold spec_l8Div.j4 | unfold spec_l8Div.j5); repeat' first | (with_reducible first | apply ih0 | apply ih1 | apply ih2 | apply ih3 | apply ih4 | apply ih5 | apply spec_RangeJoin.mono | apply spec_RangeMeet.mono | apply spec_l1Exact.mono | apply spec_l8R_corners.mono | apply spec_l8Rem.mono | apply LeO.refl | apply LeO.none | refine LeO.ite ?_ ?_ | refine LeO.bind ?_ (fun _ => ?_)) | apply ih0 | apply ih1 | apply ih2 | apply ih3 | apply ih4 | apply ih5 | apply spec_RangeJoin.mono | apply spec_RangeMeet.mono | apply spec_l1Exact.mono | apply spec_l8R_corners.mono | apply spec_l8Rem.mono | apply LeO.none | refine LeO.ite ?_ ?_ | refine LeO.bind ?_ (fun _ => ?_))
theorem spec_l8Div.mono : ∀ a0 a1 a2 a3 a4 k, LeO (spec_l8Div.f k a0 a1 a2 a3 a4) (spec_l8Div.f (k + 1) a0 a1 a2 a3 a4) := by
 intro a0 a1 a2 a3 a4 k
 obtain ⟨ih0, ih1, ih2, ih3, ih4, ih5⟩ := spec_l8Div.mono_l k
 unfold spec_l8Div.f
 repeat' first | (with_reducible first | apply ih0 | apply ih1 | apply ih2 | apply ih3 | apply ih4 | apply ih5 | apply spec_RangeJoin.mono | apply spec_RangeMeet.mono | apply spec_l1Exact.mono | apply spec_l8R_corners.mono | apply spec_l8Rem.mono | apply LeO.refl | apply LeO.none | refine LeO.ite ?_ ?_ | refine LeO.bind ?_ (fun _ => ?_)) | apply ih0 | apply ih1 | apply ih2 | apply ih3 | apply ih4 | apply ih5 | apply spec_RangeJoin.mono | apply spec_RangeMeet.mono | apply spec_l1Exact.mono | apply spec_l8R_corners.mono | apply spec_l8Rem.mono | apply LeO.none | refine LeO.ite ?_ ?_ | refine LeO.bind ?_ (fun _ => ?_)
def spec_l8Div.T11 : Bool × List (List Nat × List Nat) := (true, [([], []), ([], []), ([], []), ([2], [2]), ([3], [3]), ([], []), ([5], [5]), ([6], [6]), ([1, 4, 7], [1, 4, 7]), ([0, 8, 8], [0, 8]), ([9, 9, 0, 1, 2, 3, 4, 5, 6, 7, 8, 9], [9])])
def spec_l8Div.B11 : List Nat := [0, 0, 0, 4, 12, 0, 32, 96, 254, 511, 1023]
theorem spec_l8Div.tab11 : rtab .any (opsOf Try.f39 11) = spec_l8Div.T11 := by kernel_rfl
theorem spec_l8Div.bits11 : waitsOk spec_l8Div.T11.2 spec_l8Div.B11 = true := by kernel_rfl
def spec_l8Div.T13 : Bool × List (List Nat × List Nat) := (true, [([], []), ([], []), ([], []), ([2], [2]), ([], []), ([4], [4]), ([1, 3, 5], [1, 3, 5]), ([0, 6, 6], [0, 6]), ([7, 7, 0, 1, 2, 3, 4, 5, 6, 7], [7])])
def spec_l8Div.B13 : List Nat := [0, 0, 0, 4, 0, 16, 62, 127, 255]
theorem spec_l8Div.tab13 : rtab .any (opsOf Try.f39 13) = spec_l8Div.T13 := by kernel_rfl
theorem spec_l8Div.bits13 : waitsOk spec_l8Div.T13.2 spec_l8Div.B13 = true := by kernel_rfl
def spec_l8Div.T25 : Bool × List (List Nat × List Nat) := (true, [([], []), ([0], [0]), ([1], [1]), ([2], [2]), ([], []), ([4], [4]), ([5], [5]), ([6], [6]), ([3, 7], [3, 7]), ([], []), ([8, 8, 0, 1, 2, 3, 4, 5, 6, 7, 8], [8]), ([9, 10, 0, 1, 2, 3, 4, 5, 6, 7, 8, 9, 10], [9])])
def spec_l8Div.B25 : List Nat := [0, 1, 3, 7, 0, 16, 48, 112, 255, 0, 511, 2047]
theorem spec_l8Div.tab25 : rtab .any (opsOf Try.f39 25) = spec_l8Div.T25 := by kernel_rfl
theorem spec_l8Div.bits25 : waitsOk spec_l8Div.T25.2 spec_l8Div.B25 = true := by kernel_rfl
set_option maxHeartbeats 8000000 in
set_option maxRecDepth 100000 in
theorem spec_l8Div.calls (k : Nat) (a0 : Int) (a1_0 : Int) (a1_1 : Int) (a2_0 : Int) (a2_1 : Int) (r1 : Int) (r2 : Int) (r3 : List Int) (w : World) (h : spec_l8Div.f k a0 a1_0 a1_1 a2_0 a2_1 = some (r1, r2, r3)) :
  Calls Try.prog 39 #[.int .i64 a0, .agg #[.int .i64 a1_0, .int .i64 a1_1], .agg #[.int .i64 a2_0, .int .i64 a2_1]] w fun e w' => ∃ v2_ : Value, e = .returned (.tuple #[.agg #[.int .i64 r1, .int .i64 r2], v2_]) ∧ Kd.R (Kd.int .i64) 3 w' w.heap.size (fun _ => True) v2_ r3 ∧ Below w.heap.size w w' := by
 have hu24 := Try.underlying24
 have hu67 := Try.underlying67
 have HB := am (Below.refl w.heap.size w)
 have H : ((some (([] : List Int) : List Int)).bind fun y1 => ((spec_RangeMeet.f k a2_0 a2_1 (-2147483648) (-1)).bind fun u1 => ((spec_RangeMeet.f k a2_0 a2_1 1 2147483647).bind fun u2 => (if a0 = 4 then (if a1_0 = (-2147483648) then ((spec_RangeHas.f a2_0 a2_1 (-1)).bind fun t1 => (spec_l8Div.j0 k a0 y1 t1 a1_0 a1_1 a2_0 a2_1 u1.1 u1.2 u2.1 u2.2)) else (spec_l8Div.j0 k a0 y1 false a1_0 a1_1 a2_0 a2_1 u1.1 u1.2 u2.1 u2.2)) else (spec_l8Div.j0 k a0 y1 false a1_0 a1_1 a2_0 a2_1 u1.1 u1.2 u2.1 u2.2))))) = some (r1, r2, r3) := h
 clear h
 obtain ⟨y1, y2⟩ : ∃ y_ : List Int, y_ = (([] : List Int)) := ⟨_, rfl⟩
 replace H : ((spec_RangeMeet.f k a2_0 a2_1 (-2147483648) (-1)).bind fun u1 => ((spec_RangeMeet.f k a2_0 a2_1 1 2147483647).bind fun u2 => (if a0 = 4 then (if a1_0 = (-2147483648) then ((spec_RangeHas.f a2_0 a2_1 (-1)).bind fun t1 => (spec_l8Div.j0 k a0 y1 t1 a1_0 a1_1 a2_0 a2_1 u1.1 u1.2 u2.1 u2.2)) else (spec_l8Div.j0 k a0 y1 false a1_0 a1_1 a2_0 a2_1 u1.1 u1.2 u2.1 u2.2)) else (spec_l8Div.j0 k a0 y1 false a1_0 a1_1 a2_0 a2_1 u1.1 u1.2 u2.1 u2.2)))) = some (r1, r2, r3) := by first | (rw [y2]; with_reducible exact H) | (have H2_ := (Option.bind_some _ _).symm.trans H; rw [y2]; with_reducible exact H2_) | (have H2_ := (Option.bind_some _ _).symm.trans H; with_reducible exact H2_) | with_reducible exact H | (rw [y2]; exact H) | exact H
 have Y25 := am y2
 clear y2
 obtain ⟨⟨t2, t3⟩, A1, H⟩ := bd H
 try dsimp only at H
 obtain ⟨⟨t4, t5⟩, A2, H⟩ := bd H
 try dsimp only at H
 have C1 := am H
 clear H
 go_enter Try.func39, Try.ntmps39
 go_upto_region 4 with (first | ((with_reducible refine gate_dst (N := 4) rfl ?_); refine bxn 4 #[.int .i64 a1_0, .int .i64 a1_1] 24 HB fun g1 w2 K1 G1 hg hb => ?_; replace HB := am (below_step (YA HB) hb); clear hb hg) | ((with_reducible refine gate_dst (N := 5) rfl ?_); refine bxn 5 #[.int .i64 a2_0, .int .i64 a2_1] 24 HB fun g2 w3 K2 G2 hg hb => ?_; obtain ⟨N1,N2⟩ := ne_ hg K1; obtain ⟨K1, HB⟩ := bk1 K1 HB hb; clear hb hg) | ((with_reducible refine gate_dst (N := 6) rfl ?_); refine bxn 6 #[.int .i64 0, .int .i64 0] 24 HB fun g3 w4 K3 G3 hg hb => ?_; obtain ⟨N3,N4⟩ := ne_ hg K1; obtain ⟨N5,N6⟩ := ne_ hg K2; obtain ⟨K1, K2, HB⟩ := bk2 K1 K2 HB hb; clear hb hg) | ((with_reducible refine gate_dst (N := 14) rfl ?_); refine Kd.R_lit (Kd.int .i64) _ 3 ?hg (N := 14) ?hd (xs := ([] : List Int)) (inner := []) (ok := fun _ => True) (okp := fun _ => True) ?hr ?hp (fun _ hk => hk) trivial (Below.refl _ _) (Nat.le_refl _) (by simp) ?_; (case hd => rfl); (case hg => rfl); (case hr => first | (go_simp; done) | (go_simp; rfl)); (case hp => exact (Reps.none _ _)); intro v1 w5 o1 hb hg_ hnew_; clear hg_ hnew_; (first | rw [← Y25.out] at o1 | (simp only [Int.reduceToNat] at o1; rw [← Y25.out] at o1)); have O1 := am (Kd.R_lower o1 (below_size (YA HB))); obtain ⟨K1, K2, K3, HB⟩ := bk3 K1 K2 K3 HB hb; clear hb o1; have z_ := ns2 N2 N5; have z_ := cB2 K2) | ((with_reducible refine gate_callee (f := 41) rfl ?_); refine gL 17 Try.func41 (spec_RangeMeet.calls _ _ _ _ _ _ _ _ A1.out) fun w6 hb => ?_; replace O1 := am (Kd.R_below (RZ O1) hb); obtain ⟨K1, K2, K3, HB⟩ := bk3 K1 K2 K3 HB hb; (try clear hb)) | ((with_reducible refine gate_dst (N := 9) rfl ?_); refine bxn 9 #[.int .i64 0, .int .i64 0] 24 HB fun g4 w7 K4 G4 hg hb => ?_; obtain ⟨N7,N8⟩ := ne_ hg K1; obtain ⟨N9,N10⟩ := ne_ hg K2; obtain ⟨N11,N12⟩ := ne_ hg K3; replace O1 := am (Kd.R_below (RZ O1) hb); obtain ⟨K1, K2, K3, HB⟩ := bk3 K1 K2 K3 HB hb; clear hb hg; have z_ := ns3 N8 N10 N12; have z_ := cB2 K4; have z_ := cB2 K2) | ((with_reducible refine gate_callee (f := 41) rfl ?_); refine gL 20 Try.func41 (spec_RangeMeet.calls _ _ _ _ _ _ _ _ A2.out) fun w8 hb => ?_; replace O1 := am (Kd.R_below (by (with_reducible repeat (first | apply Kd.R_alloc | apply Kd.R_drewN | apply Kd.R_drew)); exact (Kd.R_mono (Kd.R_far (p := ⟨g4, 1, none⟩) (Kd.R_far (p := ⟨g4, 0, none⟩) (Kd.R_types O1.out K4.out (by decide)) (fun _ hk => hk.2) (.int .i64 t2)) (fun _ hk => hk.2) (.int .i64 t3)) (fun _ h_ => h_.1))) hb); replace K1 := am (blk_below (g := g1) (o := b2 a1_0 a1_1 24) (by refine fa N7 ?_; refine fa N7 ?_; exact Z K1) hb); replace K2 := am (blk_below (g := g2) (o := b2 a2_0 a2_1 24) (by refine fa N9 ?_; refine fa N9 ?_; exact Z K2) hb); replace K3 := am (blk_below (g := g3) (o := b2 0 0 24) (by refine fa N11 ?_; refine fa N11 ?_; exact Z K3) hb); replace K4 := am (blk_below (g := g4) (o := b2 t2 t3 24) (by refine pf ?_; refine blk_put (cs := #[.int .i64 t2, .int .i64 0]) ?_ 1 _ rfl; refine pf ?_; refine blk_put (cs := #[.int .i64 0, .int .i64 0]) ?_ 0 _ rfl; exact Z K4) hb); replace HB := am (below_step (YA HB) hb); (try clear hb)) | ((with_reducible refine gate_dst (N := 10) rfl ?_); refine bxn 10 #[.int .i64 0, .int .i64 0] 24 HB fun g5 w9 K5 G5 hg hb => ?_; obtain ⟨N13,N14⟩ := ne_ hg K1; obtain ⟨N15,N16⟩ := ne_ hg K2; obtain ⟨N17,N18⟩ := ne_ hg K3; obtain ⟨N19,N20⟩ := ne_ hg K4; replace O1 := am (Kd.R_below (RZ O1) hb); obtain ⟨K1, K2, K3, K4, HB⟩ := bk4 K1 K2 K3 K4 HB hb; clear hb hg; have z_ := ns4 N14 N16 N18 N20; have z_ := cB2 K5))
 (try simp only [Act.put, List.setIfInBounds_toArray, List.set_cons_zero, List.set_cons_succ])
 go_cut [31] (fun v2 wc => ∃ (kq : Nat) (x1 : Bool), v2 = .bool x1 ∧ Aside0 (spec_l8Div.j0 kq a0 y1 x1 a1_0 a1_1 a2_0 a2_1 t2 t3 t4 t5 = some (r1, r2, r3)) ∧ Aside0 (kq ≤ k) ∧ Aside0 (Kd.R (Kd.int .i64) 3 wc w.heap.size (fun _ => True) v1 y1) ∧ Bx2 wc g1 a1_0 a1_1 24 ∧ Bx2 wc g2 a2_0 a2_1 24 ∧ Bx2 wc g3 0 0 24 ∧ Bx2 wc g4 t2 t3 24 ∧ Bx2 wc g5 t4 t5 24 ∧ Aside0 (Below w.heap.size w wc))
 case first =>
  have H := C1.out
  clear C1
  by_cases c1 : a0 = 4
  rotate_left
  ·rw [if_neg c1] at H
   have d1 := eF c1
   have d2 := nT c1
   (first | rw [d1] | (simp only [i64_w, i32_w]; rw [d1]) | skip)
   have H' := am H
   clear H
   go_wp2
   go_meet
   case rel => exact ⟨_, (false), ey, H', le0, ⟨by (with_reducible repeat (first | apply Kd.R_alloc | apply Kd.R_drewN | apply Kd.R_drew)); exact Kd.R_mono (Kd.R_far (p := ⟨g5, 1, none⟩) (Kd.R_far (p := ⟨g5, 0, none⟩) (Kd.R_types O1.out K5.out (by decide)) (fun _ hk => hk.2) (.int .i64 t4)) (fun _ hk => hk.2) (.int .i64 t5)) (fun _ hk => trivial)⟩, ⟨by refine fa N13 ?_; refine fa N13 ?_; exact Z K1⟩, ⟨by refine fa N15 ?_; refine fa N15 ?_; exact Z K2⟩, ⟨by refine fa N17 ?_; refine fa N17 ?_; exact Z K3⟩, ⟨by refine fa N19 ?_; refine fa N19 ?_; exact Z K4⟩, ⟨by refine pf ?_; refine blk_put (cs := #[.int .i64 t4, .int .i64 0]) ?_ 1 _ rfl; refine pf ?_; refine blk_put (cs := #[.int .i64 0, .int .i64 0]) ?_ 0 _ rfl; exact Z K5⟩, ⟨YA HB⟩⟩
  rw [if_pos c1] at H
  have d1 := eT c1
  have d2 := nF c1
  clear c1
  (first | rw [d1] | (simp only [i64_w, i32_w]; rw [d1]) | skip)
  by_cases c2 : a1_0 = (-2147483648)
  rotate_left
  ·rw [if_neg c2] at H
   have d3 := eF c2
   have d4 := nT c2
   have H' := am H
   clear H
   have z_ := ns4 N1 N3 N7 N13
   have z_ := cB2 K1
   go_wp2
   go_meet
   case rel => exact ⟨_, (false), ey, H', le0, ⟨by (with_reducible repeat (first | apply Kd.R_alloc | apply Kd.R_drewN | apply Kd.R_drew)); exact Kd.R_mono (Kd.R_far (p := ⟨g5, 1, none⟩) (Kd.R_far (p := ⟨g5, 0, none⟩) (Kd.R_types O1.out K5.out (by decide)) (fun _ hk => hk.2) (.int .i64 t4)) (fun _ hk => hk.2) (.int .i64 t5)) (fun _ hk => trivial)⟩, ⟨by refine fa N13 ?_; refine fa N13 ?_; exact Z K1⟩, ⟨by refine fa N15 ?_; refine fa N15 ?_; exact Z K2⟩, ⟨by refine fa N17 ?_; refine fa N17 ?_; exact Z K3⟩, ⟨by refine fa N19 ?_; refine fa N19 ?_; exact Z K4⟩, ⟨by refine pf ?_; refine blk_put (cs := #[.int .i64 t4, .int .i64 0]) ?_ 1 _ rfl; refine pf ?_; refine blk_put (cs := #[.int .i64 0, .int .i64 0]) ?_ 0 _ rfl; exact Z K5⟩, ⟨YA HB⟩⟩
  rw [if_pos c2] at H
  have d3 := eT c2
  have d4 := nF c2
  clear c2
  obtain ⟨t1, A3, H⟩ := bd H
  try dsimp only at H
  have H' := am H
  clear H
  have z_ := ns7 N1 N3 N7 N13 N5 N9 N15
  have z_ := cB2 K1
  have z_ := cB2 K2
  go_wp2_with (first | (go_at_call 22; (with_reducible refine (spec_RangeHas.calls _ _ _ _ _ A3.out).mono ?_); rintro e w10 ⟨rfl, hb⟩; replace O1 := am (Kd.R_below (by (with_reducible repeat (first | apply Kd.R_alloc | apply Kd.R_drewN | apply Kd.R_drew)); exact (Kd.R_mono (Kd.R_far (p := ⟨g5, 1, none⟩) (Kd.R_far (p := ⟨g5, 0, none⟩) (Kd.R_types O1.out K5.out (by decide)) (fun _ hk => hk.2) (.int .i64 t4)) (fun _ hk => hk.2) (.int .i64 t5)) (fun _ h_ => h_.1))) hb); replace K1 := am (blk_below (g := g1) (o := b2 a1_0 a1_1 24) (by refine fa N13 ?_; refine fa N13 ?_; exact Z K1) hb); replace K2 := am (blk_below (g := g2) (o := b2 a2_0 a2_1 24) (by refine fa N15 ?_; refine fa N15 ?_; exact Z K2) hb); replace K3 := am (blk_below (g := g3) (o := b2 0 0 24) (by refine fa N17 ?_; refine fa N17 ?_; exact Z K3) hb); replace K4 := am (blk_below (g := g4) (o := b2 t2 t3 24) (by refine fa N19 ?_; refine fa N19 ?_; exact Z K4) hb); replace K5 := am (blk_below (g := g5) (o := b2 t4 t5 24) (by refine pf ?_; refine blk_put (cs := #[.int .i64 t4, .int .i64 0]) ?_ 1 _ rfl; refine pf ?_; refine blk_put (cs := #[.int .i64 0, .int .i64 0]) ?_ 0 _ rfl; exact Z K5) hb); replace HB := am (below_step (YA HB) hb); (try clear hb)))
  go_meet
  case rel => exact ⟨_, (t1), ey, H', le0, ⟨by exact RZ O1⟩, ⟨Z K1⟩, ⟨Z K2⟩, ⟨Z K3⟩, ⟨Z K4⟩, ⟨Z K5⟩, ⟨YA HB⟩⟩
 case rest =>
  clear C1
  obtain ⟨kq, x1, rfl, HA, J1, O2, K1, K2, K3, K4, K5, HB⟩ := hcut
  cases kq with
  | zero => exact absurd HA.out (by simp [spec_l8Div.j0])
  | succ k1 =>
   have H := HA.out
   clear HA
   simp only [spec_l8Div.j0] at H
   have C2 := am H
   clear H
   go_upto_if 31 with (fail)
   go_cut [8] (fun v3 wc => ∃ (kq : Nat) (x2 : List Int), Aside0 (spec_l8Div.j1 kq a0 x2 a1_0 a1_1 a2_0 a2_1 t2 t3 t4 t5 = some (r1, r2, r3)) ∧ Aside0 (kq ≤ k1) ∧ Aside0 (Kd.R (Kd.int .i64) 3 wc w.heap.size (fun _ => True) v3 x2) ∧ Bx2 wc g1 a1_0 a1_1 24 ∧ Bx2 wc g2 a2_0 a2_1 24 ∧ Bx2 wc g3 0 0 24 ∧ Bx2 wc g4 t2 t3 24 ∧ Bx2 wc g5 t4 t5 24 ∧ Aside0 (Below w.heap.size w wc))
   case first =>
    have H := C2.out
    clear C2
    by_cases c1 : x1 = true
    rotate_left
    ·replace c1 := Bool.eq_false_iff.mpr c1
     subst c1
     rw [if_neg ff] at H
     have H' := am H
     clear H
     go_wp2
     go_meet
     case rel => exact ⟨_, (y1), H', le1 J1, ⟨by exact RZ O2⟩, ⟨Z K1⟩, ⟨Z K2⟩, ⟨Z K3⟩, ⟨Z K4⟩, ⟨Z K5⟩, ⟨YA HB⟩⟩
    subst c1
    rw [if_pos rfl] at H
    by_cases c2 : y1.length < 17592186044416
    rotate_left
    ·rw [if_neg c2] at H
     exact absurd H (by simp)
    rw [if_pos c2] at H
    have L1 := am c2
    clear c2
    obtain ⟨y3, y4⟩ : ∃ y_ : List Int, y_ = (y1 ++ [1]) := ⟨_, rfl⟩
    replace H : (spec_l8Div.j1 k1 a0 y3 a1_0 a1_1 a2_0 a2_1 t2 t3 t4 t5) = some (r1, r2, r3) := by first | (rw [y4]; with_reducible exact H) | (have H2_ := (Option.bind_some _ _).symm.trans H; rw [y4]; with_reducible exact H2_) | (have H2_ := (Option.bind_some _ _).symm.trans H; with_reducible exact H2_) | with_reducible exact H | (rw [y4]; exact H) | exact H
    have Y26 := am y4
    clear y4
    have H' := am H
    clear H
    go_wp2_with (first | ((with_reducible refine gate_builtin (b := .append) (xs := #[.tmp 32, .tmp 33]) rfl ?_); at_builtin; refine Kd.R_append (Kd.int .i64) (w0 := w) w.heap.size rfl (.tmp 32) (.tmp 33) 25 3 (.int .i64 0) 8 rfl Try.underlying25 info3 rfl (by decide) (by omega) v1 y1 1 [.int .i64 1] (fun _ => True) (fun _ => False) rfl rfl ?aP (fun _ hk => hk.elim) ?aF ?aO ?aB ?aS ?aL ?_; (case aP => exact rfl); (case aB => exact (YA HB)); (case aF => exact (fun _ _ => trivial)); (case aO => exact (RZ O2)); (case aS => exact (below_size (YA HB))); (case aL => have := L1.out; omega); intro v4 w10 ho hb hg hat; rw [← Y26.out] at ho; have O3 := am (ho); replace K1 := am (blk_grown (g := g1) (o := b2 a1_0 a1_1 24) (Z K1) hg (Kd.R_ne O2.out K1.out (by decide))); replace K2 := am (blk_grown (g := g2) (o := b2 a2_0 a2_1 24) (Z K2) hg (Kd.R_ne O2.out K2.out (by decide))); replace K3 := am (blk_grown (g := g3) (o := b2 0 0 24) (Z K3) hg (Kd.R_ne O2.out K3.out (by decide))); replace K4 := am (blk_grown (g := g4) (o := b2 t2 t3 24) (Z K4) hg (Kd.R_ne O2.out K4.out (by decide))); replace K5 := am (blk_grown (g := g5) (o := b2 t4 t5 24) (Z K5) hg (Kd.R_ne O2.out K5.out (by decide))); replace HB := am (hb); clear O2; clear ho hb hg hat))
    go_meet
    case rel => exact ⟨_, (y3), H', le1 J1, ⟨by exact RZ O3⟩, ⟨Z K1⟩, ⟨Z K2⟩, ⟨Z K3⟩, ⟨Z K4⟩, ⟨Z K5⟩, ⟨YA HB⟩⟩
   case rest =>
    clear C2
    obtain ⟨kq, x2, HA, J2, O2, K1, K2, K3, K4, K5, HB⟩ := hcut
    cases kq with
    | zero => exact absurd HA.out (by simp [spec_l8Div.j1])
    | succ k2 =>
     have H := HA.out
     clear HA
     simp only [spec_l8Div.j1] at H
     obtain ⟨t6, A3, H⟩ := bd H
     try dsimp only at H
     have C3 := am H
     clear H
     have z_ := ns4 N2 N5 N9 N15
     have z_ := cB2 K2
     go_upto_if 36 with (first | ((with_reducible refine gate_callee (f := 22) rfl ?_); refine gL 36 Try.func22 (spec_RangeHas.calls _ _ _ _ _ A3.out) fun w10 hb => ?_; replace O2 := am (Kd.R_below (RZ O2) hb); obtain ⟨K1, K2, K3, K4, K5, HB⟩ := bk5 K1 K2 K3 K4 K5 HB hb; (try clear hb)))
     (try simp only [Act.put, List.setIfInBounds_toArray, List.set_cons_zero, List.set_cons_succ])
     go_cut [8] (fun v3 wc => ∃ (kq : Nat) (x3 : List Int), Aside0 (spec_l8Div.j2 kq a0 x3 a1_0 a1_1 a2_0 a2_1 t2 t3 t4 t5 = some (r1, r2, r3)) ∧ Aside0 (kq ≤ k2) ∧ Aside0 (Kd.R (Kd.int .i64) 3 wc w.heap.size (fun _ => True) v3 x3) ∧ Bx2 wc g1 a1_0 a1_1 24 ∧ Bx2 wc g2 a2_0 a2_1 24 ∧ Bx2 wc g3 0 0 24 ∧ Bx2 wc g4 t2 t3 24 ∧ Bx2 wc g5 t4 t5 24 ∧ Aside0 (Below w.heap.size w wc))
     case first =>
      have H := C3.out
      clear C3
      by_cases c1 : t6 = true
      rotate_left
      ·replace c1 := Bool.eq_false_iff.mpr c1
       subst c1
       rw [if_neg ff] at H
       have H' := am H
       clear H
       go_wp2
       go_meet
       case rel => exact ⟨_, (x2), H', ⟨by have := J1.out; have := J2.out; first | omega | exact Nat.le_refl _⟩, ⟨by exact RZ O2⟩, ⟨Z K1⟩, ⟨Z K2⟩, ⟨Z K3⟩, ⟨Z K4⟩, ⟨Z K5⟩, ⟨YA HB⟩⟩
      subst c1
      rw [if_pos rfl] at H
      by_cases c2 : x2.length < 17592186044416
      rotate_left
      ·rw [if_neg c2] at H
       exact absurd H (by simp)
      rw [if_pos c2] at H
      have L1 := am c2
      clear c2
      obtain ⟨y3, y4⟩ : ∃ y_ : List Int, y_ = (x2 ++ [2]) := ⟨_, rfl⟩
      replace H : (spec_l8Div.j2 k2 a0 y3 a1_0 a1_1 a2_0 a2_1 t2 t3 t4 t5) = some (r1, r2, r3) := by first | (rw [y4]; with_reducible exact H) | (have H2_ := (Option.bind_some _ _).symm.trans H; rw [y4]; with_reducible exact H2_) | (have H2_ := (Option.bind_some _ _).symm.trans H; with_reducible exact H2_) | with_reducible exact H | (rw [y4]; exact H) | exact H
      have Y26 := am y4
      clear y4
      have H' := am H
      clear H
      go_wp2_with (first | ((with_reducible refine gate_builtin (b := .append) (xs := #[.tmp 37, .tmp 38]) rfl ?_); at_builtin; refine Kd.R_append (Kd.int .i64) (w0 := w) w.heap.size rfl (.tmp 37) (.tmp 38) 25 3 (.int .i64 0) 8 rfl Try.underlying25 info3 rfl (by decide) (by omega) u8 x2 2 [.int .i64 2] (fun _ => True) (fun _ => False) rfl rfl ?aP (fun _ hk => hk.elim) ?aF ?aO ?aB ?aS ?aL ?_; (case aP => exact rfl); (case aB => exact (YA HB)); (case aF => exact (fun _ _ => trivial)); (case aO => exact (RZ O2)); (case aS => exact (below_size (YA HB))); (case aL => have := L1.out; omega); intro v4 w11 ho hb hg hat; rw [← Y26.out] at ho; have O3 := am (ho); replace K1 := am (blk_grown (g := g1) (o := b2 a1_0 a1_1 24) (Z K1) hg (Kd.R_ne O2.out K1.out (by decide))); replace K2 := am (blk_grown (g := g2) (o := b2 a2_0 a2_1 24) (Z K2) hg (Kd.R_ne O2.out K2.out (by decide))); replace K3 := am (blk_grown (g := g3) (o := b2 0 0 24) (Z K3) hg (Kd.R_ne O2.out K3.out (by decide))); replace K4 := am (blk_grown (g := g4) (o := b2 t2 t3 24) (Z K4) hg (Kd.R_ne O2.out K4.out (by decide))); replace K5 := am (blk_grown (g := g5) (o := b2 t4 t5 24) (Z K5) hg (Kd.R_ne O2.out K5.out (by decide))); replace HB := am (hb); clear O2; clear ho hb hg hat))
      go_meet
      case rel => exact ⟨_, (y3), H', ⟨by have := J1.out; have := J2.out; first | omega | exact Nat.le_refl _⟩, ⟨by exact RZ O3⟩, ⟨Z K1⟩, ⟨Z K2⟩, ⟨Z K3⟩, ⟨Z K4⟩, ⟨Z K5⟩, ⟨YA HB⟩⟩
     case rest =>
      clear C3
      obtain ⟨kq, x3, HA, J3, O2, K1, K2, K3, K4, K5, HB⟩ := hcut
      cases kq with
      | zero => exact absurd HA.out (by simp [spec_l8Div.j2])
      | succ k3 =>
       have H := HA.out
       clear HA
       simp only [spec_l8Div.j2] at H
       by_cases c1 : a0 = 5
       rotate_left
       ·rw [if_neg c1] at H
        have d1 := eF c1
        have d2 := nT c1
        obtain ⟨⟨t7, t8⟩, A4, H⟩ := bd H
        try dsimp only at H
        have C4 := am H
        clear H
        try go_wp2_with (first | ((with_reducible refine gate_dst (N := 96) rfl ?_); refine bxn 96 #[.bool false, .int .i64 0, .int .i64 0] 67 HB fun g6 w11 K6 G6 hg hb => ?_; obtain ⟨N21,N22⟩ := ne_ hg K1; obtain ⟨N23,N24⟩ := ne_ hg K2; obtain ⟨N25,N26⟩ := ne_ hg K3; obtain ⟨N27,N28⟩ := ne_ hg K4; obtain ⟨N29,N30⟩ := ne_ hg K5; replace O2 := am (Kd.R_below (RZ O2) hb); obtain ⟨K1, K2, K3, K4, K5, HB⟩ := bk5 K1 K2 K3 K4 K5 HB hb; clear hb hg))
        replace O2 := am (Kd.R_drew O2.out)
        obtain ⟨K1, K2, K3, K4, K5, K6, HB⟩ := dk6 K1 K2 K3 K4 K5 K6 HB
        refine start_ (n := 3) (S := fun w' => w'.cell? ⟨g4, 0, none⟩ = some (.int .i64 t2) ∧ w'.cell? ⟨g4, 1, none⟩ = some (.int .i64 t3)) (ds := []) (lb 3 0) (by kernel_rfl) rfl rfl ⟨bc K4 0, bc K4 1⟩ (fun hHeld => ?_)
        generalize w11.drew = w12 at O2 K1 K2 K3 K4 K5 K6 HB hHeld ⊢
        refine take_ (i := 0) (N := some 97) (v := ?_) (a' := ?_) (lb 3 1) rfl rfl (by kernel_rfl) (fun _ _ _ h => h) (Or.inl ⟨by rfl, ?_⟩) hHeld ?_ ?_
        rotate_left
        ·rintro w' ⟨s0, s1⟩
         go_simp
         with_reducible rfl
        rotate_left
        ·exact pz
        refine one_ (i := 1) (N := some 98) (lb 3 3) rfl rfl (by kernel_rfl) (by decide) (fun K hK => ?_)
        refine gq Try.func38 (spec_l8None.calls _ _ _ A4.out) fun w13 hb => ?_
        replace O2 := am (Kd.R_below (RZ O2) hb)
        obtain ⟨K1, K2, K3, K4, K5, K6, HB⟩ := bk6 K1 K2 K3 K4 K5 K6 HB hb
        clear hb
        refine kk hK ⟨bc K4 0, bc K4 1⟩ fun hHeld => ?_
        clear hK K
        refine pure_ (i := 2) (N := some 99) (v := ?_) (a' := ?_) (lb 3 7) rfl rfl (by kernel_rfl) (fun _ _ _ h => h) (Or.inl ⟨by rfl, ?_⟩) ?_ ?_
        rotate_left
        ·exact gz
        rotate_left
        ·exact pz
        refine done_ (by kernel_rfl) ?_
        go_upto_if 99 with (fail)
        go_cut [] (fun wc => ∃ (kq : Nat) (x4 : Bool) (x5 : Int) (x6 : Int), Aside0 (spec_l8Div.j4 kq a0 x3 a1_0 a1_1 t4 t5 x4 x5 x6 = some (r1, r2, r3)) ∧ Aside0 (kq ≤ k3) ∧ Aside0 (Kd.R (Kd.int .i64) 3 wc w.heap.size (fun _ => True) u8 x3) ∧ Bx2 wc g1 a1_0 a1_1 24 ∧ Bx2 wc g2 a2_0 a2_1 24 ∧ Bx2 wc g3 0 0 24 ∧ Bx2 wc g4 t2 t3 24 ∧ Bx2 wc g5 t4 t5 24 ∧ Aside0 (wc.heap[g6]? = some (.cells #[.bool x4, .int .i64 x5, .int .i64 x6] 67 (0, 0))) ∧ Aside0 (Below w.heap.size w wc))
        case first =>
         have H := C4.out
         clear C4
         by_cases c2 : (!(t2 == t7) || (!(t3 == t8))) = true
         rotate_left
         ·rw [if_neg c2] at H
          have d3 : (!(t2 == t7) || (!(t3 == t8))) = false := by simpa using c2
          clear c2
          (first | rw [d3] | (simp only [i64_w, i32_w]; rw [d3]) | skip)
          have H' := am H
          clear H
          go_wp2
          go_meet
          case rel => exact ⟨_, (false), (0), (0), H', ⟨by have := J1.out; have := J2.out; have := J3.out; first | omega | exact Nat.le_refl _⟩, ⟨by exact RZ O2⟩, ⟨Z K1⟩, ⟨Z K2⟩, ⟨Z K3⟩, ⟨Z K4⟩, ⟨Z K5⟩, ⟨Z K6⟩, ⟨YA HB⟩⟩
         rw [if_pos c2] at H
         have d3 : (!(t2 == t7) || (!(t3 == t8))) = true := c2
         clear c2
         (first | rw [d3] | (simp only [i64_w, i32_w]; rw [d3]) | skip)
         obtain ⟨⟨t9, t10, t11⟩, A5, H⟩ := bd H
         try dsimp only at H
         have H' := am H
         clear H
         have z_ := ns9 N1 N3 N7 N13 N21 N10 N12 N19 N27
         have z_ := cB2 K1
         have z_ := cB2 K4
         go_wp2_with (first | (have I1 := am (show IsS67 w _ g6 false 0 0 from And.intro K6.out G6.out); (with_reducible refine gate_callee (f := 42) rfl ?_); refine goesL_ (some 104) rfl rfl Try.func42 (by kernel_rfl) rfl #[.pointer (some ⟨g6, 0, none⟩), .int .i64 a0, .agg #[.int .i64 a1_0, .int .i64 a1_1], .agg #[.int .i64 t2, .int .i64 t3]] rfl mz ?_; (with_reducible refine (spec_l8R_corners.calls k3 g6 false 0 0 a0 a1_0 a1_1 t2 t3 t9 t10 t11 w _ ?side1 ?side2 A5.out).mono ?_); (case side1 => repeat (first | (with_reducible first | exact I1.out | apply IsS67.alloc | apply IsS67.drewN | apply IsS67.drew | apply IsS67.set_0 | apply IsS67.set_1 | apply IsS67.set_2 | refine IsS67.far ?_ N22.out _ | refine IsS67.far ?_ N24.out _ | refine IsS67.far ?_ N26.out _ | refine IsS67.far ?_ N28.out _ | refine IsS67.far ?_ N30.out _) | exact I1.out)); (case side2 => repeat (first | (with_reducible first | exact HB.out | apply below_alloc | apply pw_below_drewN | apply below_drew1 | refine below_set ?_ (IsS67.ge I1.out) | refine below_set ?_ G1.out | refine below_set ?_ G2.out | refine below_set ?_ G3.out | refine below_set ?_ G4.out | refine below_set ?_ G5.out) | exact HB.out)); rintro e w14 ⟨rfl, hi, hb, hk⟩; refine ⟨_, rfl, ?_⟩; replace O2 := am (Kd.R_mono (Kd.R_keep (IsS67.apart (show IsS67 w _ g6 false 0 0 from by repeat (first | (with_reducible first | exact I1.out | apply IsS67.alloc | apply IsS67.drewN | apply IsS67.drew | apply IsS67.set_0 | apply IsS67.set_1 | apply IsS67.set_2 | refine IsS67.far ?_ N22.out _ | refine IsS67.far ?_ N24.out _ | refine IsS67.far ?_ N26.out _ | refine IsS67.far ?_ N28.out _ | refine IsS67.far ?_ N30.out _) | exact I1.out)) (RZ O2) (by decide)) hk (fun _ h => h.2)) (fun _ h => h.1)); replace K1 := am (KeepBut.blk hk (g' := g1) (o := b2 a1_0 a1_1 24) (Z K1) N21.out (by simp)); replace K2 := am (KeepBut.blk hk (g' := g2) (o := b2 a2_0 a2_1 24) (Z K2) N23.out (by simp)); replace K3 := am (KeepBut.blk hk (g' := g3) (o := b2 0 0 24) (Z K3) N25.out (by simp)); replace K4 := am (KeepBut.blk hk (g' := g4) (o := b2 t2 t3 24) (Z K4) N27.out (by simp)); replace K5 := am (KeepBut.blk hk (g' := g5) (o := b2 t4 t5 24) (Z K5) N29.out (by simp)); replace HB := am (hb); replace I1 := am (hi); (try clear hb); clear K6; have K6 := am (I1.out.1); clear I1))
         go_meet
         case rel => exact ⟨_, (t9), (t10), (t11), H', ⟨by have := J1.out; have := J2.out; have := J3.out; first | omega | exact Nat.le_refl _⟩, ⟨by exact RZ O2⟩, ⟨Z K1⟩, ⟨Z K2⟩, ⟨Z K3⟩, ⟨Z K4⟩, ⟨Z K5⟩, ⟨Z K6⟩, ⟨YA HB⟩⟩
        case rest =>
         clear C4
         (try clear c1);(try clear d1);(try clear d2)
         obtain ⟨kq, x4, x5, x6, HA, J4, O2, K1, K2, K3, K4, K5, K6, HB⟩ := hcut
         cases kq with
         | zero => exact absurd HA.out (by simp [spec_l8Div.j4])
         | succ k4 =>
          have H := HA.out
          clear HA
          simp only [spec_l8Div.j4] at H
          obtain ⟨⟨t9, t10⟩, A5, H⟩ := bd H
          try dsimp only at H
          have C5 := am H
          clear H
          try go_wp2
          replace O2 := am (Kd.R_drew O2.out)
          obtain ⟨K1, K2, K3, K4, K5, K6, HB⟩ := dk6 K1 K2 K3 K4 K5 K6 HB
          refine start_ (n := 3) (S := fun w' => w'.cell? ⟨g5, 0, none⟩ = some (.int .i64 t4) ∧ w'.cell? ⟨g5, 1, none⟩ = some (.int .i64 t5)) (ds := []) (lb 3 0) (by kernel_rfl) rfl rfl ⟨bc K5 0, bc K5 1⟩ (fun hHeld => ?_)
          generalize wc.drew = w14 at O2 K1 K2 K3 K4 K5 K6 HB hHeld ⊢
          refine take_ (i := 0) (N := some 105) (v := ?_) (a' := ?_) (lb 3 1) rfl rfl (by kernel_rfl) (fun _ _ _ h => h) (Or.inl ⟨by rfl, ?_⟩) hHeld ?_ ?_
          rotate_left
          ·rintro w' ⟨s0, s1⟩
           go_simp
           with_reducible rfl
          rotate_left
          ·exact pz
          refine one_ (i := 1) (N := some 106) (lb 3 3) rfl rfl (by kernel_rfl) (by decide) (fun K hK => ?_)
          refine gq Try.func38 (spec_l8None.calls _ _ _ A5.out) fun w15 hb => ?_
          replace O2 := am (Kd.R_below (RZ O2) hb)
          obtain ⟨K1, K2, K3, K4, K5, K6, HB⟩ := bk6 K1 K2 K3 K4 K5 K6 HB hb
          clear hb
          refine kk hK ⟨bc K5 0, bc K5 1⟩ fun hHeld => ?_
          clear hK K
          refine pure_ (i := 2) (N := some 107) (v := ?_) (a' := ?_) (lb 3 7) rfl rfl (by kernel_rfl) (fun _ _ _ h => h) (Or.inl ⟨by rfl, ?_⟩) ?_ ?_
          rotate_left
          ·exact gz
          rotate_left
          ·exact pz
          refine done_ (by kernel_rfl) ?_
          go_upto_if 107 with (fail)
          go_cut [] (fun wc => ∃ (kq : Nat) (x7 : Bool) (x8 : Int) (x9 : Int), Aside0 (spec_l8Div.j5 kq x3 x7 x8 x9 = some (r1, r2, r3)) ∧ Aside0 (kq ≤ k4) ∧ Aside0 (Kd.R (Kd.int .i64) 3 wc w.heap.size (fun _ => True) u8 x3) ∧ Bx2 wc g1 a1_0 a1_1 24 ∧ Bx2 wc g2 a2_0 a2_1 24 ∧ Bx2 wc g3 0 0 24 ∧ Bx2 wc g4 t2 t3 24 ∧ Bx2 wc g5 t4 t5 24 ∧ Aside0 (wc.heap[g6]? = some (.cells #[.bool x7, .int .i64 x8, .int .i64 x9] 67 (0, 0))) ∧ Aside0 (Below w.heap.size w wc))
          case first =>
           have H := C5.out
           clear C5
           by_cases c2 : (!(t4 == t9) || (!(t5 == t10))) = true
           rotate_left
           ·rw [if_neg c2] at H
            have d3 : (!(t4 == t9) || (!(t5 == t10))) = false := by simpa using c2
            clear c2
            (first | rw [d3] | (simp only [i64_w, i32_w]; rw [d3]) | skip)
            have H' := am H
            clear H
            go_wp2
            go_meet
            case rel => exact ⟨_, (x4), (x5), (x6), H', ⟨by have := J1.out; have := J2.out; have := J3.out; have := J4.out; first | omega | exact Nat.le_refl _⟩, ⟨by exact RZ O2⟩, ⟨Z K1⟩, ⟨Z K2⟩, ⟨Z K3⟩, ⟨Z K4⟩, ⟨Z K5⟩, ⟨Z K6⟩, ⟨YA HB⟩⟩
           rw [if_pos c2] at H
           have d3 : (!(t4 == t9) || (!(t5 == t10))) = true := c2
           clear c2
           (first | rw [d3] | (simp only [i64_w, i32_w]; rw [d3]) | skip)
           obtain ⟨⟨t11, t12, t13⟩, A6, H⟩ := bd H
           try dsimp only at H
           have H' := am H
           clear H
           have z_ := ns9 N1 N3 N7 N13 N21 N16 N18 N20 N29
           have z_ := cB2 K1
           have z_ := cB2 K5
           go_wp2_with (first | (have I1 := am (show IsS67 w _ g6 x4 x5 x6 from And.intro K6.out G6.out); (with_reducible refine gate_callee (f := 42) rfl ?_); refine goesL_ (some 112) rfl rfl Try.func42 (by kernel_rfl) rfl #[.pointer (some ⟨g6, 0, none⟩), .int .i64 a0, .agg #[.int .i64 a1_0, .int .i64 a1_1], .agg #[.int .i64 t4, .int .i64 t5]] rfl mz ?_; (with_reducible refine (spec_l8R_corners.calls k4 g6 x4 x5 x6 a0 a1_0 a1_1 t4 t5 t11 t12 t13 w _ ?side1 ?side2 A6.out).mono ?_); (case side1 => repeat (first | (with_reducible first | exact I1.out | apply IsS67.alloc | apply IsS67.drewN | apply IsS67.drew | apply IsS67.set_0 | apply IsS67.set_1 | apply IsS67.set_2 | refine IsS67.far ?_ N22.out _ | refine IsS67.far ?_ N24.out _ | refine IsS67.far ?_ N26.out _ | refine IsS67.far ?_ N28.out _ | refine IsS67.far ?_ N30.out _) | exact I1.out)); (case side2 => repeat (first | (with_reducible first | exact HB.out | apply below_alloc | apply pw_below_drewN | apply below_drew1 | refine below_set ?_ (IsS67.ge I1.out) | refine below_set ?_ G1.out | refine below_set ?_ G2.out | refine below_set ?_ G3.out | refine below_set ?_ G4.out | refine below_set ?_ G5.out) | exact HB.out)); rintro e w16 ⟨rfl, hi, hb, hk⟩; refine ⟨_, rfl, ?_⟩; replace O2 := am (Kd.R_mono (Kd.R_keep (IsS67.apart (show IsS67 w _ g6 x4 x5 x6 from by repeat (first | (with_reducible first | exact I1.out | apply IsS67.alloc | apply IsS67.drewN | apply IsS67.drew | apply IsS67.set_0 | apply IsS67.set_1 | apply IsS67.set_2 | refine IsS67.far ?_ N22.out _ | refine IsS67.far ?_ N24.out _ | refine IsS67.far ?_ N26.out _ | refine IsS67.far ?_ N28.out _ | refine IsS67.far ?_ N30.out _) | exact I1.out)) (RZ O2) (by decide)) hk (fun _ h => h.2)) (fun _ h => h.1)); replace K1 := am (KeepBut.blk hk (g' := g1) (o := b2 a1_0 a1_1 24) (Z K1) N21.out (by simp)); replace K2 := am (KeepBut.blk hk (g' := g2) (o := b2 a2_0 a2_1 24) (Z K2) N23.out (by simp)); replace K3 := am (KeepBut.blk hk (g' := g3) (o := b2 0 0 24) (Z K3) N25.out (by simp)); replace K4 := am (KeepBut.blk hk (g' := g4) (o := b2 t2 t3 24) (Z K4) N27.out (by simp)); replace K5 := am (KeepBut.blk hk (g' := g5) (o := b2 t4 t5 24) (Z K5) N29.out (by simp)); replace HB := am (hb); replace I1 := am (hi); (try clear hb); clear K6; have K6 := am (I1.out.1); clear I1))
           go_meet
           case rel => exact ⟨_, (t11), (t12), (t13), H', ⟨by have := J1.out; have := J2.out; have := J3.out; have := J4.out; first | omega | exact Nat.le_refl _⟩, ⟨by exact RZ O2⟩, ⟨Z K1⟩, ⟨Z K2⟩, ⟨Z K3⟩, ⟨Z K4⟩, ⟨Z K5⟩, ⟨Z K6⟩, ⟨YA HB⟩⟩
          case rest =>
           clear C5
           obtain ⟨kq, x7, x8, x9, HA, J5, O2, K1, K2, K3, K4, K5, K6, HB⟩ := hcut
           cases kq with
           | zero => exact absurd HA.out (by simp [spec_l8Div.j5])
           | succ k5 =>
            have H := HA.out
            clear HA
            simp only [spec_l8Div.j5] at H
            by_cases c2 : x7 = true
            rotate_left
            ·replace c2 := Bool.eq_false_iff.mpr c2
             subst c2
             rw [if_neg ff] at H
             obtain ⟨⟨t11, t12⟩, A6, H⟩ := bd H
             try dsimp only at H
             simp only [Option.some.injEq, Prod.mk.injEq] at H
             obtain ⟨rfl, rfl, rfl⟩ := H
             have z_ := ns5 N22 N24 N26 N28 N30
             have z_ := cB3 K6
             go_wp2_with (first | ((with_reducible refine gate_callee (f := 38) rfl ?_); refine gL 118 Try.func38 (spec_l8None.calls _ _ _ A6.out) fun w16 hb => ?_; replace O2 := am (Kd.R_below (RZ O2) hb); obtain ⟨K1, K2, K3, K4, K5, K6, HB⟩ := bk6 K1 K2 K3 K4 K5 K6 HB hb; (try clear hb); have z_ := ns4 N4 N6 N11 N17; have z_ := cB2 K3))
             refine bodyPost_ret (results_ct rfl _ _ g3 24 #[.int .i64 t11, .int .i64 t12] (0, 0) _ rfl (by refine pf ?_; refine blk_put (cs := #[.int .i64 t11, .int .i64 0]) ?_ 1 _ rfl; refine pf ?_; refine blk_put (cs := #[.int .i64 0, .int .i64 0]) ?_ 0 _ rfl; exact Z K3) Try.underlying24 rfl (by kernel_rfl)) rfl ?_
             exact ⟨_, ez, by (with_reducible repeat (first | apply Kd.R_alloc | apply Kd.R_drewN | apply Kd.R_drew)); exact Kd.R_mono (Kd.R_far (p := ⟨g3, 1, none⟩) (Kd.R_far (p := ⟨g3, 0, none⟩) (Kd.R_types O2.out K3.out (by decide)) (fun _ hk => hk.2) (.int .i64 t11)) (fun _ hk => hk.2) (.int .i64 t12)) (fun _ hk => trivial), YA HB⟩
            subst c2
            rw [if_pos rfl] at H
            obtain ⟨⟨t11, t12⟩, A6, H⟩ := bd H
            try dsimp only at H
            simp only [Option.some.injEq, Prod.mk.injEq] at H
            obtain ⟨rfl, rfl, rfl⟩ := H
            have z_ := ns5 N22 N24 N26 N28 N30
            have z_ := cB3 K6
            try go_wp2
            replace O2 := am (Kd.R_drew O2.out)
            obtain ⟨K1, K2, K3, K4, K5, K6, HB⟩ := dk6 K1 K2 K3 K4 K5 K6 HB
            refine start_ (n := 12) (S := fun w' => w'.cell? ⟨g6, 0, none⟩ = some (.bool true) ∧ w'.cell? ⟨g6, 1, none⟩ = some (.int .i64 x8) ∧ w'.cell? ⟨g6, 2, none⟩ = some (.int .i64 x9)) (ds := []) (lb 12 0) (by kernel_rfl) rfl rfl ⟨bc K6 0, bc K6 1, bc K6 2⟩ (fun hHeld => ?_); refine with_tabW spec_l8Div.tab25 spec_l8Div.bits25 (fun HT_ HW_ => ?_)
            generalize wc.drew = w16 at O2 K1 K2 K3 K4 K5 K6 HB hHeld ⊢
            refine pk 0 120 1 ?_
            refine pk 1 121 3 ?_
            refine pk 2 122 7 ?_
            refine pk 4 124 23 ?_
            refine pk 5 125 55 ?_
            refine pk 6 126 119 ?_
            refine pk 9 129 631 ?_
            refine tk 3 123 639 hHeld ?_
            refine tk 7 127 767 hHeld ?_
            refine on 8 (some 128) 1023 fun K hK => ?_
            refine gq Try.func44 (spec_l8Cut.calls _ _ _ _ _ A6.out) fun w17 hb => ?_
            replace O2 := am (Kd.R_below (RZ O2) hb)
            obtain ⟨K1, K2, K3, K4, K5, K6, HB⟩ := bk6 K1 K2 K3 K4 K5 K6 HB hb
            clear hb
            refine kk hK ⟨bc K6 0, bc K6 1, bc K6 2⟩ fun hHeld => ?_
            clear hK K
            refine on 10 none 2047 fun K hK => ?_
            have s2 : w17.cell? ⟨g3, 0, none⟩ = some (.int .i64 0) := bc K3 0
            have hfs318 := blk_frozen K3.out 0
            have z_ := ns10 N3 N5 N12 N18 N26 N4 N6 N11 N17 N25
            have s3 : w17.cell? ⟨g3, 1, none⟩ = some (.int .i64 0) := bc K3 1
            have hfs319 := blk_frozen K3.out 1
            have z_ := ns10 N3 N5 N12 N18 N26 N4 N6 N11 N17 N25
            refine skip_ (w1 := ?_) (by rfl) rfl ?_ ?_
            rotate_left
            ·go_simp
             rfl
            refine hK.out _ _ ⟨(cf N26 ((cf N26 (hHeld.1)))), (cf N26 ((cf N26 (hHeld.2.1)))), (cf N26 ((cf N26 (hHeld.2.2))))⟩ (fun hHeld => ?_)
            clear hK K
            refine pk 11 7 4095 ?_
            refine done_ (done_of HT_.out (by kernel_rfl)) ?_
            try go_wp2
            refine bodyPost_ret (results_ct rfl _ _ g3 24 #[.int .i64 t11, .int .i64 t12] (0, 0) _ rfl (by refine pf ?_; refine blk_put (cs := #[.int .i64 t11, .int .i64 0]) ?_ 1 _ rfl; refine pf ?_; refine blk_put (cs := #[.int .i64 0, .int .i64 0]) ?_ 0 _ rfl; exact Z K3) Try.underlying24 rfl (by kernel_rfl)) rfl ?_
            exact ⟨_, ez, by (with_reducible repeat (first | apply Kd.R_alloc | apply Kd.R_drewN | apply Kd.R_drew)); exact Kd.R_mono (Kd.R_far (p := ⟨g3, 1, none⟩) (Kd.R_far (p := ⟨g3, 0, none⟩) (Kd.R_types O2.out K3.out (by decide)) (fun _ hk => hk.2) (.int .i64 t11)) (fun _ hk => hk.2) (.int .i64 t12)) (fun _ hk => trivial), YA HB⟩
       rw [if_pos c1] at H
       have d1 := eT c1
       have d2 := nF c1
       clear c1
       obtain ⟨⟨t7, t8⟩, A4, H⟩ := bd H
       try dsimp only at H
       obtain ⟨⟨t9, t10⟩, A5, H⟩ := bd H
       try dsimp only at H
       have C4 := am H
       clear H
       try go_wp2_with (first | ((with_reducible refine gate_callee (f := 38) rfl ?_); refine gL 42 Try.func38 (spec_l8None.calls _ _ _ A4.out) fun w11 hb => ?_; replace O2 := am (Kd.R_below (RZ O2) hb); obtain ⟨K1, K2, K3, K4, K5, HB⟩ := bk5 K1 K2 K3 K4 K5 HB hb; (try clear hb)) | ((with_reducible refine gate_dst (N := 11) rfl ?_); refine bxn 11 #[.int .i64 0, .int .i64 0] 24 HB fun g6 w12 K6 G6 hg hb => ?_; obtain ⟨N21,N22⟩ := ne_ hg K1; obtain ⟨N23,N24⟩ := ne_ hg K2; obtain ⟨N25,N26⟩ := ne_ hg K3; obtain ⟨N27,N28⟩ := ne_ hg K4; obtain ⟨N29,N30⟩ := ne_ hg K5; replace O2 := am (Kd.R_below (RZ O2) hb); obtain ⟨K1, K2, K3, K4, K5, HB⟩ := bk5 K1 K2 K3 K4 K5 HB hb; clear hb hg; have z_ := ns5 N22 N24 N26 N28 N30; have z_ := cB2 K6))
       have n0_ : Aside0 (Kd.R (Kd.int .i64) 3 ((w12.setCell ⟨g6, 0, none⟩ (.int .i64 t7)).setCell ⟨g6, 1, none⟩ (.int .i64 t8)) w.heap.size (fun _ => True) u8 x3) := ⟨by (with_reducible repeat (first | apply Kd.R_alloc | apply Kd.R_drewN | apply Kd.R_drew)); exact Kd.R_mono (Kd.R_far (p := ⟨g6, 1, none⟩) (Kd.R_far (p := ⟨g6, 0, none⟩) (Kd.R_types O2.out K6.out (by decide)) (fun _ hk => hk.2) (.int .i64 t7)) (fun _ hk => hk.2) (.int .i64 t8)) (fun _ hk => trivial)⟩
       have n1_ : Aside0 (((w12.setCell ⟨g6, 0, none⟩ (.int .i64 t7)).setCell ⟨g6, 1, none⟩ (.int .i64 t8)).heap[g1]? = some (.cells #[.int .i64 a1_0, .int .i64 a1_1] 24 (0, 0))) := ⟨by refine fa N21 ?_; refine fa N21 ?_; exact Z K1⟩
       have n2_ : Aside0 (((w12.setCell ⟨g6, 0, none⟩ (.int .i64 t7)).setCell ⟨g6, 1, none⟩ (.int .i64 t8)).heap[g2]? = some (.cells #[.int .i64 a2_0, .int .i64 a2_1] 24 (0, 0))) := ⟨by refine fa N23 ?_; refine fa N23 ?_; exact Z K2⟩
       have n3_ : Aside0 (((w12.setCell ⟨g6, 0, none⟩ (.int .i64 t7)).setCell ⟨g6, 1, none⟩ (.int .i64 t8)).heap[g3]? = some (.cells #[.int .i64 0, .int .i64 0] 24 (0, 0))) := ⟨by refine fa N25 ?_; refine fa N25 ?_; exact Z K3⟩
       have n4_ : Aside0 (((w12.setCell ⟨g6, 0, none⟩ (.int .i64 t7)).setCell ⟨g6, 1, none⟩ (.int .i64 t8)).heap[g4]? = some (.cells #[.int .i64 t2, .int .i64 t3] 24 (0, 0))) := ⟨by refine fa N27 ?_; refine fa N27 ?_; exact Z K4⟩
       have n5_ : Aside0 (((w12.setCell ⟨g6, 0, none⟩ (.int .i64 t7)).setCell ⟨g6, 1, none⟩ (.int .i64 t8)).heap[g5]? = some (.cells #[.int .i64 t4, .int .i64 t5] 24 (0, 0))) := ⟨by refine fa N29 ?_; refine fa N29 ?_; exact Z K5⟩
       have n6_ : Aside0 (((w12.setCell ⟨g6, 0, none⟩ (.int .i64 t7)).setCell ⟨g6, 1, none⟩ (.int .i64 t8)).heap[g6]? = some (.cells #[.int .i64 t7, .int .i64 t8] 24 (0, 0))) := ⟨by refine pf ?_; refine blk_put (cs := #[.int .i64 t7, .int .i64 0]) ?_ 1 _ rfl; refine pf ?_; refine blk_put (cs := #[.int .i64 0, .int .i64 0]) ?_ 0 _ rfl; exact Z K6⟩
       have n7_ : Aside0 (Below w.heap.size w ((w12.setCell ⟨g6, 0, none⟩ (.int .i64 t7)).setCell ⟨g6, 1, none⟩ (.int .i64 t8))) := ⟨YA HB⟩
       (try clear O2)
       (try clear K1)
       (try clear K2)
       (try clear K3)
       (try clear K4)
       (try clear K5)
       (try clear K6)
       (try clear HB)
       generalize ((w12.setCell ⟨g6, 0, none⟩ (.int .i64 t7)).setCell ⟨g6, 1, none⟩ (.int .i64 t8)) = w13 at n0_ n1_ n2_ n3_ n4_ n5_ n6_ n7_ ⊢
       have O2 := n0_
       have K1 := n1_
       have K2 := n2_
       have K3 := n3_
       have K4 := n4_
       have K5 := n5_
       have K6 := n6_
       have HB := n7_
       clear n0_ n1_ n2_ n3_ n4_ n5_ n6_ n7_
       replace O2 := am (Kd.R_drew O2.out)
       obtain ⟨K1, K2, K3, K4, K5, K6, HB⟩ := dk6 K1 K2 K3 K4 K5 K6 HB
       refine start_ (n := 3) (S := fun w' => w'.cell? ⟨g4, 0, none⟩ = some (.int .i64 t2) ∧ w'.cell? ⟨g4, 1, none⟩ = some (.int .i64 t3)) (ds := []) (lb 3 0) (by kernel_rfl) rfl rfl ⟨bc K4 0, bc K4 1⟩ (fun hHeld => ?_)
       generalize w13.drew = w14 at O2 K1 K2 K3 K4 K5 K6 HB hHeld ⊢
       refine take_ (i := 0) (N := some 43) (v := ?_) (a' := ?_) (lb 3 1) rfl rfl (by kernel_rfl) (fun _ _ _ h => h) (Or.inl ⟨by rfl, ?_⟩) hHeld ?_ ?_
       rotate_left
       ·rintro w' ⟨s0, s1⟩
        go_simp
        with_reducible rfl
       rotate_left
       ·exact pz
       refine one_ (i := 1) (N := some 44) (lb 3 3) rfl rfl (by kernel_rfl) (by decide) (fun K hK => ?_)
       refine gq Try.func38 (spec_l8None.calls _ _ _ A5.out) fun w15 hb => ?_
       replace O2 := am (Kd.R_below (RZ O2) hb)
       obtain ⟨K1, K2, K3, K4, K5, K6, HB⟩ := bk6 K1 K2 K3 K4 K5 K6 HB hb
       clear hb
       refine kk hK ⟨bc K4 0, bc K4 1⟩ fun hHeld => ?_
       clear hK K
       refine pure_ (i := 2) (N := some 45) (v := ?_) (a' := ?_) (lb 3 7) rfl rfl (by kernel_rfl) (fun _ _ _ h => h) (Or.inl ⟨by rfl, ?_⟩) ?_ ?_
       rotate_left
       ·exact gz
       rotate_left
       ·exact pz
       refine done_ (by kernel_rfl) ?_
       go_upto_if 45 with (fail)
       go_cut [] (fun wc => ∃ (kq : Nat) (x4 : Int) (x5 : Int), Aside0 (spec_l8Div.j3 kq a0 x3 a1_0 a1_1 a2_0 a2_1 t4 t5 x4 x5 = some (r1, r2, r3)) ∧ Aside0 (kq ≤ k3) ∧ Aside0 (Kd.R (Kd.int .i64) 3 wc w.heap.size (fun _ => True) u8 x3) ∧ Bx2 wc g1 a1_0 a1_1 24 ∧ Bx2 wc g2 a2_0 a2_1 24 ∧ Bx2 wc g3 0 0 24 ∧ Bx2 wc g4 t2 t3 24 ∧ Bx2 wc g5 t4 t5 24 ∧ Bx2 wc g6 x4 x5 24 ∧ Aside0 (Below w.heap.size w wc))
       case first =>
        have H := C4.out
        clear C4
        by_cases c2 : (!(t2 == t9) || (!(t3 == t10))) = true
        rotate_left
        ·rw [if_neg c2] at H
         have d3 : (!(t2 == t9) || (!(t3 == t10))) = false := by simpa using c2
         clear c2
         (first | rw [d3] | (simp only [i64_w, i32_w]; rw [d3]) | skip)
         have H' := am H
         clear H
         go_wp2
         go_meet
         case rel => exact ⟨_, (t7), (t8), H', ⟨by have := J1.out; have := J2.out; have := J3.out; first | omega | exact Nat.le_refl _⟩, ⟨by exact RZ O2⟩, ⟨Z K1⟩, ⟨Z K2⟩, ⟨Z K3⟩, ⟨Z K4⟩, ⟨Z K5⟩, ⟨Z K6⟩, ⟨YA HB⟩⟩
        rw [if_pos c2] at H
        have d3 : (!(t2 == t9) || (!(t3 == t10))) = true := c2
        clear c2
        (first | rw [d3] | (simp only [i64_w, i32_w]; rw [d3]) | skip)
        obtain ⟨⟨t11, t12⟩, A6, H⟩ := bd H
        try dsimp only at H
        obtain ⟨⟨t13, t14⟩, A7, H⟩ := bd H
        try dsimp only at H
        have H' := am H
        clear H
        try go_wp2
        replace O2 := am (Kd.R_drew O2.out)
        obtain ⟨K1, K2, K3, K4, K5, K6, HB⟩ := dk6 K1 K2 K3 K4 K5 K6 HB
        refine start_ (n := 11) (S := fun w' => w'.cell? ⟨g6, 0, none⟩ = some (.int .i64 t7) ∧ w'.cell? ⟨g6, 1, none⟩ = some (.int .i64 t8) ∧ w'.cell? ⟨g1, 0, none⟩ = some (.int .i64 a1_0) ∧ w'.cell? ⟨g1, 1, none⟩ = some (.int .i64 a1_1) ∧ w'.cell? ⟨g4, 0, none⟩ = some (.int .i64 t2) ∧ w'.cell? ⟨g4, 1, none⟩ = some (.int .i64 t3)) (ds := [10]) (lb 11 0) (by kernel_rfl) rfl rfl ⟨bc K6 0, bc K6 1, bc K1 0, bc K1 1, bc K4 0, bc K4 1⟩ (fun hHeld => ?_); refine with_tabW spec_l8Div.tab11 spec_l8Div.bits11 (fun HT_ HW_ => ?_)
        generalize w15.drew = w16 at O2 K1 K2 K3 K4 K5 K6 HB hHeld ⊢
        refine pk 2 48 4 ?_
        refine pk 5 51 36 ?_
        refine tk 0 46 37 hHeld ?_
        refine tk 1 47 39 hHeld ?_
        refine tk 3 49 47 hHeld ?_
        refine pk 4 50 63 ?_
        refine tk 6 52 127 hHeld ?_
        refine pk 7 53 255 ?_
        refine on 8 (some 54) 511 fun K hK => ?_
        refine gq Try.func89 (spec_l8Rem.calls _ _ _ _ _ _ _ _ A6.out) fun w17 hb => ?_
        replace O2 := am (Kd.R_below (RZ O2) hb)
        obtain ⟨K1, K2, K3, K4, K5, K6, HB⟩ := bk6 K1 K2 K3 K4 K5 K6 HB hb
        clear hb
        refine kk hK ⟨bc K6 0, bc K6 1, bc K1 0, bc K1 1, bc K4 0, bc K4 1⟩ fun hHeld => ?_
        clear hK K
        refine on 9 (some 55) 1023 fun K hK => ?_
        refine gq Try.func25 (spec_RangeJoin.calls _ _ _ _ _ _ _ _ A7.out) fun w18 hb => ?_
        replace O2 := am (Kd.R_below (RZ O2) hb)
        obtain ⟨K1, K2, K3, K4, K5, K6, HB⟩ := bk6 K1 K2 K3 K4 K5 K6 HB hb
        clear hb
        refine kk hK ⟨bc K6 0, bc K6 1, bc K1 0, bc K1 1, bc K4 0, bc K4 1⟩ fun hHeld => ?_
        clear hK K
        refine last_ (i := 10) (N := none) (lb 11 2047) rfl rfl ow (by decide) (fun K hK => ?_)
        have s2 : w18.cell? ⟨g6, 0, none⟩ = some (.int .i64 t7) := bc K6 0
        have hfs83 := blk_frozen K6.out 0
        have z_ := ns10 N21 N23 N25 N27 N29 N22 N24 N26 N28 N30
        have s3 : w18.cell? ⟨g6, 1, none⟩ = some (.int .i64 t8) := bc K6 1
        have hfs84 := blk_frozen K6.out 1
        have z_ := ns10 N21 N23 N25 N27 N29 N22 N24 N26 N28 N30
        refine skip_ (w1 := ?_) (by rfl) rfl ?_ ?_
        rotate_left
        ·go_simp
         rfl
        refine hK.out _ _ ?_
        clear hK K
        refine done_ (done_of HT_.out (by kernel_rfl)) ?_
        try go_wp2
        go_meet
        case rel => exact ⟨_, (t13), (t14), H', ⟨by have := J1.out; have := J2.out; have := J3.out; first | omega | exact Nat.le_refl _⟩, ⟨by (with_reducible repeat (first | apply Kd.R_alloc | apply Kd.R_drewN | apply Kd.R_drew)); exact Kd.R_mono (Kd.R_far (p := ⟨g6, 1, none⟩) (Kd.R_far (p := ⟨g6, 0, none⟩) (Kd.R_types O2.out K6.out (by decide)) (fun _ hk => hk.2) (.int .i64 t13)) (fun _ hk => hk.2) (.int .i64 t14)) (fun _ hk => trivial)⟩, ⟨by refine fa N21 ?_; refine fa N21 ?_; exact Z K1⟩, ⟨by refine fa N23 ?_; refine fa N23 ?_; exact Z K2⟩, ⟨by refine fa N25 ?_; refine fa N25 ?_; exact Z K3⟩, ⟨by refine fa N27 ?_; refine fa N27 ?_; exact Z K4⟩, ⟨by refine fa N29 ?_; refine fa N29 ?_; exact Z K5⟩, ⟨by refine pf ?_; refine blk_put (cs := #[.int .i64 t13, .int .i64 t8]) ?_ 1 _ rfl; refine pf ?_; refine blk_put (cs := #[.int .i64 t7, .int .i64 t8]) ?_ 0 _ rfl; exact Z K6⟩, ⟨YA HB⟩⟩
       case rest =>
        clear C4
        (try clear d1);(try clear d2)
        obtain ⟨kq, x4, x5, HA, J4, O2, K1, K2, K3, K4, K5, K6, HB⟩ := hcut
        cases kq with
        | zero => exact absurd HA.out (by simp [spec_l8Div.j3])
        | succ k4 =>
         have H := HA.out
         clear HA
         simp only [spec_l8Div.j3] at H
         obtain ⟨⟨t11, t12⟩, A6, H⟩ := bd H
         try dsimp only at H
         by_cases c2 : (!(t4 == t11) || (!(t5 == t12))) = true
         rotate_left
         ·rw [if_neg c2] at H
          have d3 : (!(t4 == t11) || (!(t5 == t12))) = false := by simpa using c2
          clear c2
          by_cases c3 : a1_0 = a1_1
          rotate_left
          ·rw [if_neg c3] at H
           have d4 := eF c3
           have d5 := nT c3
           simp only [Option.some.injEq, Prod.mk.injEq] at H
           obtain ⟨rfl, rfl, rfl⟩ := H
           try go_wp2
           replace O2 := am (Kd.R_drew O2.out)
           obtain ⟨K1, K2, K3, K4, K5, K6, HB⟩ := dk6 K1 K2 K3 K4 K5 K6 HB
           refine start_ (n := 3) (S := fun w' => w'.cell? ⟨g5, 0, none⟩ = some (.int .i64 t4) ∧ w'.cell? ⟨g5, 1, none⟩ = some (.int .i64 t5)) (ds := []) (lb 3 0) (by kernel_rfl) rfl rfl ⟨bc K5 0, bc K5 1⟩ (fun hHeld => ?_)
           generalize wc.drew = w16 at O2 K1 K2 K3 K4 K5 K6 HB hHeld ⊢
           refine take_ (i := 0) (N := some 56) (v := ?_) (a' := ?_) (lb 3 1) rfl rfl (by kernel_rfl) (fun _ _ _ h => h) (Or.inl ⟨by rfl, ?_⟩) hHeld ?_ ?_
           rotate_left
           ·rintro w' ⟨s0, s1⟩
            go_simp
            with_reducible rfl
           rotate_left
           ·exact pz
           refine one_ (i := 1) (N := some 57) (lb 3 3) rfl rfl (by kernel_rfl) (by decide) (fun K hK => ?_)
           refine gq Try.func38 (spec_l8None.calls _ _ _ A6.out) fun w17 hb => ?_
           replace O2 := am (Kd.R_below (RZ O2) hb)
           obtain ⟨K1, K2, K3, K4, K5, K6, HB⟩ := bk6 K1 K2 K3 K4 K5 K6 HB hb
           clear hb
           refine kk hK ⟨bc K5 0, bc K5 1⟩ fun hHeld => ?_
           clear hK K
           refine pure_ (i := 2) (N := some 58) (v := ?_) (a' := ?_) (lb 3 7) rfl rfl (by kernel_rfl) (fun _ _ _ h => h) (Or.inl ⟨by rfl, ?_⟩) ?_ ?_
           rotate_left
           ·exact gz
           rotate_left
           ·exact pz
           refine done_ (by kernel_rfl) ?_
           have z_ := ns10 N1 N3 N7 N13 N21 N24 N26 N28 N30 N6
           have z_ := ns2 N11 N17
           have z_ := cB2 K1
           have z_ := cB2 K6
           have z_ := cB2 K3
           try go_wp2
           refine bodyPost_ret (results_ct rfl _ _ g3 24 #[.int .i64 x4, .int .i64 x5] (0, 0) _ rfl (by refine pf ?_; refine blk_put (cs := #[.int .i64 x4, .int .i64 0]) ?_ 1 _ rfl; refine pf ?_; refine blk_put (cs := #[.int .i64 0, .int .i64 0]) ?_ 0 _ rfl; exact Z K3) Try.underlying24 rfl (by kernel_rfl)) rfl ?_
           exact ⟨_, ez, by (with_reducible repeat (first | apply Kd.R_alloc | apply Kd.R_drewN | apply Kd.R_drew)); exact Kd.R_mono (Kd.R_far (p := ⟨g3, 1, none⟩) (Kd.R_far (p := ⟨g3, 0, none⟩) (Kd.R_types O2.out K3.out (by decide)) (fun _ hk => hk.2) (.int .i64 x4)) (fun _ hk => hk.2) (.int .i64 x5)) (fun _ hk => trivial), YA HB⟩
          rw [if_pos c3] at H
          have d4 := eT c3
          have d5 := nF c3
          clear c3
          by_cases c4 : a2_0 = a2_1
          rotate_left
          ·rw [if_neg c4] at H
           have d6 := eF c4
           have d7 := nT c4
           simp only [Option.some.injEq, Prod.mk.injEq] at H
           obtain ⟨rfl, rfl, rfl⟩ := H
           try go_wp2
           replace O2 := am (Kd.R_drew O2.out)
           obtain ⟨K1, K2, K3, K4, K5, K6, HB⟩ := dk6 K1 K2 K3 K4 K5 K6 HB
           refine start_ (n := 3) (S := fun w' => w'.cell? ⟨g5, 0, none⟩ = some (.int .i64 t4) ∧ w'.cell? ⟨g5, 1, none⟩ = some (.int .i64 t5)) (ds := []) (lb 3 0) (by kernel_rfl) rfl rfl ⟨bc K5 0, bc K5 1⟩ (fun hHeld => ?_)
           generalize wc.drew = w16 at O2 K1 K2 K3 K4 K5 K6 HB hHeld ⊢
           refine take_ (i := 0) (N := some 56) (v := ?_) (a' := ?_) (lb 3 1) rfl rfl (by kernel_rfl) (fun _ _ _ h => h) (Or.inl ⟨by rfl, ?_⟩) hHeld ?_ ?_
           rotate_left
           ·rintro w' ⟨s0, s1⟩
            go_simp
            with_reducible rfl
           rotate_left
           ·exact pz
           refine one_ (i := 1) (N := some 57) (lb 3 3) rfl rfl (by kernel_rfl) (by decide) (fun K hK => ?_)
           refine gq Try.func38 (spec_l8None.calls _ _ _ A6.out) fun w17 hb => ?_
           replace O2 := am (Kd.R_below (RZ O2) hb)
           obtain ⟨K1, K2, K3, K4, K5, K6, HB⟩ := bk6 K1 K2 K3 K4 K5 K6 HB hb
           clear hb
           refine kk hK ⟨bc K5 0, bc K5 1⟩ fun hHeld => ?_
           clear hK K
           refine pure_ (i := 2) (N := some 58) (v := ?_) (a' := ?_) (lb 3 7) rfl rfl (by kernel_rfl) (fun _ _ _ h => h) (Or.inl ⟨by rfl, ?_⟩) ?_ ?_
           rotate_left
           ·exact gz
           rotate_left
           ·exact pz
           refine done_ (by kernel_rfl) ?_
           have z_ := ns10 N1 N3 N7 N13 N21 N5 N9 N15 N23 N26
           have z_ := ns4 N28 N30 N11 N17
           have z_ := cB2 K1
           have z_ := cB2 K2
           have z_ := cB2 K6
           have z_ := cB2 K3
           try go_wp2
           refine bodyPost_ret (results_ct rfl _ _ g3 24 #[.int .i64 x4, .int .i64 x5] (0, 0) _ rfl (by refine pf ?_; refine blk_put (cs := #[.int .i64 x4, .int .i64 0]) ?_ 1 _ rfl; refine pf ?_; refine blk_put (cs := #[.int .i64 0, .int .i64 0]) ?_ 0 _ rfl; exact Z K3) Try.underlying24 rfl (by kernel_rfl)) rfl ?_
           exact ⟨_, ez, by (with_reducible repeat (first | apply Kd.R_alloc | apply Kd.R_drewN | apply Kd.R_drew)); exact Kd.R_mono (Kd.R_far (p := ⟨g3, 1, none⟩) (Kd.R_far (p := ⟨g3, 0, none⟩) (Kd.R_types O2.out K3.out (by decide)) (fun _ hk => hk.2) (.int .i64 x4)) (fun _ hk => hk.2) (.int .i64 x5)) (fun _ hk => trivial), YA HB⟩
          rw [if_pos c4] at H
          have d6 := eT c4
          have d7 := nF c4
          clear c4
          by_cases c5 : a2_0 = 0
          ·rw [if_pos c5] at H
           have d8 := eT c5
           have d9 := nF c5
           clear c5
           simp only [Option.some.injEq, Prod.mk.injEq] at H
           obtain ⟨rfl, rfl, rfl⟩ := H
           try go_wp2
           replace O2 := am (Kd.R_drew O2.out)
           obtain ⟨K1, K2, K3, K4, K5, K6, HB⟩ := dk6 K1 K2 K3 K4 K5 K6 HB
           refine start_ (n := 3) (S := fun w' => w'.cell? ⟨g5, 0, none⟩ = some (.int .i64 t4) ∧ w'.cell? ⟨g5, 1, none⟩ = some (.int .i64 t5)) (ds := []) (lb 3 0) (by kernel_rfl) rfl rfl ⟨bc K5 0, bc K5 1⟩ (fun hHeld => ?_)
           generalize wc.drew = w16 at O2 K1 K2 K3 K4 K5 K6 HB hHeld ⊢
           refine take_ (i := 0) (N := some 56) (v := ?_) (a' := ?_) (lb 3 1) rfl rfl (by kernel_rfl) (fun _ _ _ h => h) (Or.inl ⟨by rfl, ?_⟩) hHeld ?_ ?_
           rotate_left
           ·rintro w' ⟨s0, s1⟩
            go_simp
            with_reducible rfl
           rotate_left
           ·exact pz
           refine one_ (i := 1) (N := some 57) (lb 3 3) rfl rfl (by kernel_rfl) (by decide) (fun K hK => ?_)
           refine gq Try.func38 (spec_l8None.calls _ _ _ A6.out) fun w17 hb => ?_
           replace O2 := am (Kd.R_below (RZ O2) hb)
           obtain ⟨K1, K2, K3, K4, K5, K6, HB⟩ := bk6 K1 K2 K3 K4 K5 K6 HB hb
           clear hb
           refine kk hK ⟨bc K5 0, bc K5 1⟩ fun hHeld => ?_
           clear hK K
           refine pure_ (i := 2) (N := some 58) (v := ?_) (a' := ?_) (lb 3 7) rfl rfl (by kernel_rfl) (fun _ _ _ h => h) (Or.inl ⟨by rfl, ?_⟩) ?_ ?_
           rotate_left
           ·exact gz
           rotate_left
           ·exact pz
           refine done_ (by kernel_rfl) ?_
           have z_ := ns10 N1 N3 N7 N13 N21 N5 N9 N15 N23 N26
           have z_ := ns4 N28 N30 N11 N17
           have z_ := cB2 K1
           have z_ := cB2 K2
           have z_ := cB2 K6
           have z_ := cB2 K3
           try go_wp2
           refine bodyPost_ret (results_ct rfl _ _ g3 24 #[.int .i64 x4, .int .i64 x5] (0, 0) _ rfl (by refine pf ?_; refine blk_put (cs := #[.int .i64 x4, .int .i64 0]) ?_ 1 _ rfl; refine pf ?_; refine blk_put (cs := #[.int .i64 0, .int .i64 0]) ?_ 0 _ rfl; exact Z K3) Try.underlying24 rfl (by kernel_rfl)) rfl ?_
           exact ⟨_, ez, by (with_reducible repeat (first | apply Kd.R_alloc | apply Kd.R_drewN | apply Kd.R_drew)); exact Kd.R_mono (Kd.R_far (p := ⟨g3, 1, none⟩) (Kd.R_far (p := ⟨g3, 0, none⟩) (Kd.R_types O2.out K3.out (by decide)) (fun _ hk => hk.2) (.int .i64 x4)) (fun _ hk => hk.2) (.int .i64 x5)) (fun _ hk => trivial), YA HB⟩
          rw [if_neg c5] at H
          have d8 := eF c5
          have d9 := nT c5
          obtain ⟨t13, A7, H⟩ := bd H
          try dsimp only at H
          simp only [Option.some.injEq, Prod.mk.injEq] at H
          obtain ⟨rfl, rfl, rfl⟩ := H
          try go_wp2
          replace O2 := am (Kd.R_drew O2.out)
          obtain ⟨K1, K2, K3, K4, K5, K6, HB⟩ := dk6 K1 K2 K3 K4 K5 K6 HB
          refine start_ (n := 3) (S := fun w' => w'.cell? ⟨g5, 0, none⟩ = some (.int .i64 t4) ∧ w'.cell? ⟨g5, 1, none⟩ = some (.int .i64 t5)) (ds := []) (lb 3 0) (by kernel_rfl) rfl rfl ⟨bc K5 0, bc K5 1⟩ (fun hHeld => ?_)
          generalize wc.drew = w16 at O2 K1 K2 K3 K4 K5 K6 HB hHeld ⊢
          refine take_ (i := 0) (N := some 56) (v := ?_) (a' := ?_) (lb 3 1) rfl rfl (by kernel_rfl) (fun _ _ _ h => h) (Or.inl ⟨by rfl, ?_⟩) hHeld ?_ ?_
          rotate_left
          ·rintro w' ⟨s0, s1⟩
           go_simp
           with_reducible rfl
          rotate_left
          ·exact pz
          refine one_ (i := 1) (N := some 57) (lb 3 3) rfl rfl (by kernel_rfl) (by decide) (fun K hK => ?_)
          refine gq Try.func38 (spec_l8None.calls _ _ _ A6.out) fun w17 hb => ?_
          replace O2 := am (Kd.R_below (RZ O2) hb)
          obtain ⟨K1, K2, K3, K4, K5, K6, HB⟩ := bk6 K1 K2 K3 K4 K5 K6 HB hb
          clear hb
          refine kk hK ⟨bc K5 0, bc K5 1⟩ fun hHeld => ?_
          clear hK K
          refine pure_ (i := 2) (N := some 58) (v := ?_) (a' := ?_) (lb 3 7) rfl rfl (by kernel_rfl) (fun _ _ _ h => h) (Or.inl ⟨by rfl, ?_⟩) ?_ ?_
          rotate_left
          ·exact gz
          rotate_left
          ·exact pz
          refine done_ (by kernel_rfl) ?_
          have z_ := ns9 N1 N3 N7 N13 N21 N5 N9 N15 N23
          have z_ := cB2 K1
          have z_ := cB2 K2
          try go_wp2_with (first | ((with_reducible refine gate_callee (f := 63) rfl ?_); refine goesL_ (some 89) rfl rfl Try.func63 (by kernel_rfl) rfl #[.int .i64 a0, .int .i64 a1_0, .int .i64 a2_0] rfl mz ?_; (with_reducible refine (spec_l1Exact.calls _ _ _ _ _ _ A7.out).mono ?_); rintro e w' ⟨rfl, ⟨nd, rfl⟩⟩; refine ⟨_, rfl, ?_⟩; (try (rw [drewN_self w17]; generalize hq_ : World.drewN w17 _ = w17; replace O2 : Aside0 (Kd.R (Kd.int .i64) 3 w17 w.heap.size (fun _ => True) u8 x3) := ⟨by rw [← hq_]; exact (RZ O2)⟩; replace K1 : Bx2 w17 g1 a1_0 a1_1 24 := ⟨by rw [← hq_]; exact (Z K1)⟩; replace K2 : Bx2 w17 g2 a2_0 a2_1 24 := ⟨by rw [← hq_]; exact (Z K2)⟩; replace K3 : Bx2 w17 g3 0 0 24 := ⟨by rw [← hq_]; exact (Z K3)⟩; replace K4 : Bx2 w17 g4 t2 t3 24 := ⟨by rw [← hq_]; exact (Z K4)⟩; replace K5 : Bx2 w17 g5 t4 t5 24 := ⟨by rw [← hq_]; exact (Z K5)⟩; replace K6 : Bx2 w17 g6 x4 x5 24 := ⟨by rw [← hq_]; exact (Z K6)⟩; replace HB : Aside0 (Below w.heap.size w w17) := ⟨by rw [← hq_]; exact (YA HB)⟩; clear hq_)); have z_ := ns5 N26 N28 N30 N11 N17; have z_ := cB2 K6; have z_ := cB2 K3))
          refine bodyPost_ret (results_ct rfl _ _ g3 24 #[.int .i64 t13, .int .i64 t13] (0, 0) _ rfl (by refine pf ?_; refine blk_put (cs := #[.int .i64 t13, .int .i64 0]) ?_ 1 _ rfl; refine pf ?_; refine blk_put (cs := #[.int .i64 0, .int .i64 0]) ?_ 0 _ rfl; refine fa N25 ?_; refine fa N25 ?_; exact Z K3) Try.underlying24 rfl (by kernel_rfl)) rfl ?_
          exact ⟨_, ez, by (with_reducible repeat (first | apply Kd.R_alloc | apply Kd.R_drewN | apply Kd.R_drew)); exact Kd.R_mono (Kd.R_far (p := ⟨g3, 1, none⟩) (Kd.R_far (p := ⟨g3, 0, none⟩) (Kd.R_far (p := ⟨g6, 1, none⟩) (Kd.R_far (p := ⟨g6, 0, none⟩) (Kd.R_types (Kd.R_types O2.out K6.out (by decide)) K3.out (by decide)) (fun _ hk => hk.1.2) (.int .i64 t13)) (fun _ hk => hk.1.2) (.int .i64 t13)) (fun _ hk => hk.2) (.int .i64 t13)) (fun _ hk => hk.2) (.int .i64 t13)) (fun _ hk => trivial), YA HB⟩
         rw [if_pos c2] at H
         have d3 : (!(t4 == t11) || (!(t5 == t12))) = true := c2
         clear c2
         obtain ⟨⟨t13, t14⟩, A7, H⟩ := bd H
         try dsimp only at H
         obtain ⟨⟨t15, t16⟩, A8, H⟩ := bd H
         try dsimp only at H
         by_cases c3 : a1_0 = a1_1
         rotate_left
         ·rw [if_neg c3] at H
          have d4 := eF c3
          have d5 := nT c3
          simp only [Option.some.injEq, Prod.mk.injEq] at H
          obtain ⟨rfl, rfl, rfl⟩ := H
          try go_wp2
          replace O2 := am (Kd.R_drew O2.out)
          obtain ⟨K1, K2, K3, K4, K5, K6, HB⟩ := dk6 K1 K2 K3 K4 K5 K6 HB
          refine start_ (n := 3) (S := fun w' => w'.cell? ⟨g5, 0, none⟩ = some (.int .i64 t4) ∧ w'.cell? ⟨g5, 1, none⟩ = some (.int .i64 t5)) (ds := []) (lb 3 0) (by kernel_rfl) rfl rfl ⟨bc K5 0, bc K5 1⟩ (fun hHeld => ?_)
          generalize wc.drew = w16 at O2 K1 K2 K3 K4 K5 K6 HB hHeld ⊢
          refine take_ (i := 0) (N := some 56) (v := ?_) (a' := ?_) (lb 3 1) rfl rfl (by kernel_rfl) (fun _ _ _ h => h) (Or.inl ⟨by rfl, ?_⟩) hHeld ?_ ?_
          rotate_left
          ·rintro w' ⟨s0, s1⟩
           go_simp
           with_reducible rfl
          rotate_left
          ·exact pz
          refine one_ (i := 1) (N := some 57) (lb 3 3) rfl rfl (by kernel_rfl) (by decide) (fun K hK => ?_)
          refine gq Try.func38 (spec_l8None.calls _ _ _ A6.out) fun w17 hb => ?_
          replace O2 := am (Kd.R_below (RZ O2) hb)
          obtain ⟨K1, K2, K3, K4, K5, K6, HB⟩ := bk6 K1 K2 K3 K4 K5 K6 HB hb
          clear hb
          refine kk hK ⟨bc K5 0, bc K5 1⟩ fun hHeld => ?_
          clear hK K
          refine pure_ (i := 2) (N := some 58) (v := ?_) (a' := ?_) (lb 3 7) rfl rfl (by kernel_rfl) (fun _ _ _ h => h) (Or.inl ⟨by rfl, ?_⟩) ?_ ?_
          rotate_left
          ·exact gz
          rotate_left
          ·exact pz
          refine done_ (by kernel_rfl) ?_
          try go_wp2
          replace O2 := am (Kd.R_drew O2.out)
          obtain ⟨K1, K2, K3, K4, K5, K6, HB⟩ := dk6 K1 K2 K3 K4 K5 K6 HB
          refine start_ (n := 9) (S := fun w' => w'.cell? ⟨g6, 0, none⟩ = some (.int .i64 x4) ∧ w'.cell? ⟨g6, 1, none⟩ = some (.int .i64 x5) ∧ w'.cell? ⟨g1, 0, none⟩ = some (.int .i64 a1_0) ∧ w'.cell? ⟨g1, 1, none⟩ = some (.int .i64 a1_1) ∧ w'.cell? ⟨g5, 0, none⟩ = some (.int .i64 t4) ∧ w'.cell? ⟨g5, 1, none⟩ = some (.int .i64 t5)) (ds := [8]) (lb 9 0) (by kernel_rfl) rfl rfl ⟨bc K6 0, bc K6 1, bc K1 0, bc K1 1, bc K5 0, bc K5 1⟩ (fun hHeld => ?_); refine with_tabW spec_l8Div.tab13 spec_l8Div.bits13 (fun HT_ HW_ => ?_)
          generalize w17.drew = w18 at O2 K1 K2 K3 K4 K5 K6 HB hHeld ⊢
          refine pk 2 61 4 ?_
          refine pk 4 63 20 ?_
          refine tk 0 59 21 hHeld ?_
          refine tk 1 60 23 hHeld ?_
          refine tk 3 62 31 hHeld ?_
          refine tk 5 64 63 hHeld ?_
          refine on 6 (some 65) 127 fun K hK => ?_
          refine gq Try.func89 (spec_l8Rem.calls _ _ _ _ _ _ _ _ A7.out) fun w19 hb => ?_
          replace O2 := am (Kd.R_below (RZ O2) hb)
          obtain ⟨K1, K2, K3, K4, K5, K6, HB⟩ := bk6 K1 K2 K3 K4 K5 K6 HB hb
          clear hb
          refine kk hK ⟨bc K6 0, bc K6 1, bc K1 0, bc K1 1, bc K5 0, bc K5 1⟩ fun hHeld => ?_
          clear hK K
          refine on 7 (some 66) 255 fun K hK => ?_
          refine gq Try.func25 (spec_RangeJoin.calls _ _ _ _ _ _ _ _ A8.out) fun w20 hb => ?_
          replace O2 := am (Kd.R_below (RZ O2) hb)
          obtain ⟨K1, K2, K3, K4, K5, K6, HB⟩ := bk6 K1 K2 K3 K4 K5 K6 HB hb
          clear hb
          refine kk hK ⟨bc K6 0, bc K6 1, bc K1 0, bc K1 1, bc K5 0, bc K5 1⟩ fun hHeld => ?_
          clear hK K
          refine last_ (i := 8) (N := none) (lb 9 511) rfl rfl ow (by decide) (fun K hK => ?_)
          have s2 : w20.cell? ⟨g6, 0, none⟩ = some (.int .i64 x4) := bc K6 0
          have hfs173 := blk_frozen K6.out 0
          have z_ := ns10 N21 N23 N25 N27 N29 N22 N24 N26 N28 N30
          have s3 : w20.cell? ⟨g6, 1, none⟩ = some (.int .i64 x5) := bc K6 1
          have hfs174 := blk_frozen K6.out 1
          have z_ := ns10 N21 N23 N25 N27 N29 N22 N24 N26 N28 N30
          refine skip_ (w1 := ?_) (by rfl) rfl ?_ ?_
          rotate_left
          ·go_simp
           rfl
          refine hK.out _ _ ?_
          clear hK K
          refine done_ (done_of HT_.out (by kernel_rfl)) ?_
          have z_ := ns10 N1 N3 N7 N13 N21 N24 N26 N28 N30 N6
          have z_ := ns2 N11 N17
          have z_ := cB2 K1
          have z_ := cB2 K6
          have z_ := cB2 K3
          try go_wp2
          refine bodyPost_ret (results_ct rfl _ _ g3 24 #[.int .i64 t15, .int .i64 t16] (0, 0) _ rfl (by refine pf ?_; refine blk_put (cs := #[.int .i64 t15, .int .i64 0]) ?_ 1 _ rfl; refine pf ?_; refine blk_put (cs := #[.int .i64 0, .int .i64 0]) ?_ 0 _ rfl; refine fa N25 ?_; refine fa N25 ?_; exact Z K3) Try.underlying24 rfl (by kernel_rfl)) rfl ?_
          exact ⟨_, ez, by (with_reducible repeat (first | apply Kd.R_alloc | apply Kd.R_drewN | apply Kd.R_drew)); exact Kd.R_mono (Kd.R_far (p := ⟨g3, 1, none⟩) (Kd.R_far (p := ⟨g3, 0, none⟩) (Kd.R_far (p := ⟨g6, 1, none⟩) (Kd.R_far (p := ⟨g6, 0, none⟩) (Kd.R_types (Kd.R_types O2.out K6.out (by decide)) K3.out (by decide)) (fun _ hk => hk.1.2) (.int .i64 t15)) (fun _ hk => hk.1.2) (.int .i64 t16)) (fun _ hk => hk.2) (.int .i64 t15)) (fun _ hk => hk.2) (.int .i64 t16)) (fun _ hk => trivial), YA HB⟩
         rw [if_pos c3] at H
         have d4 := eT c3
         have d5 := nF c3
         clear c3
         by_cases c4 : a2_0 = a2_1
         rotate_left
         ·rw [if_neg c4] at H
          have d6 := eF c4
          have d7 := nT c4
          simp only [Option.some.injEq, Prod.mk.injEq] at H
          obtain ⟨rfl, rfl, rfl⟩ := H
          try go_wp2
          replace O2 := am (Kd.R_drew O2.out)
          obtain ⟨K1, K2, K3, K4, K5, K6, HB⟩ := dk6 K1 K2 K3 K4 K5 K6 HB
          refine start_ (n := 3) (S := fun w' => w'.cell? ⟨g5, 0, none⟩ = some (.int .i64 t4) ∧ w'.cell? ⟨g5, 1, none⟩ = some (.int .i64 t5)) (ds := []) (lb 3 0) (by kernel_rfl) rfl rfl ⟨bc K5 0, bc K5 1⟩ (fun hHeld => ?_)
          generalize wc.drew = w16 at O2 K1 K2 K3 K4 K5 K6 HB hHeld ⊢
          refine take_ (i := 0) (N := some 56) (v := ?_) (a' := ?_) (lb 3 1) rfl rfl (by kernel_rfl) (fun _ _ _ h => h) (Or.inl ⟨by rfl, ?_⟩) hHeld ?_ ?_
          rotate_left
          ·rintro w' ⟨s0, s1⟩
           go_simp
           with_reducible rfl
          rotate_left
          ·exact pz
          refine one_ (i := 1) (N := some 57) (lb 3 3) rfl rfl (by kernel_rfl) (by decide) (fun K hK => ?_)
          refine gq Try.func38 (spec_l8None.calls _ _ _ A6.out) fun w17 hb => ?_
          replace O2 := am (Kd.R_below (RZ O2) hb)
          obtain ⟨K1, K2, K3, K4, K5, K6, HB⟩ := bk6 K1 K2 K3 K4 K5 K6 HB hb
          clear hb
          refine kk hK ⟨bc K5 0, bc K5 1⟩ fun hHeld => ?_
          clear hK K
          refine pure_ (i := 2) (N := some 58) (v := ?_) (a' := ?_) (lb 3 7) rfl rfl (by kernel_rfl) (fun _ _ _ h => h) (Or.inl ⟨by rfl, ?_⟩) ?_ ?_
          rotate_left
          ·exact gz
          rotate_left
          ·exact pz
          refine done_ (by kernel_rfl) ?_
          try go_wp2
          replace O2 := am (Kd.R_drew O2.out)
          obtain ⟨K1, K2, K3, K4, K5, K6, HB⟩ := dk6 K1 K2 K3 K4 K5 K6 HB
          refine start_ (n := 9) (S := fun w' => w'.cell? ⟨g6, 0, none⟩ = some (.int .i64 x4) ∧ w'.cell? ⟨g6, 1, none⟩ = some (.int .i64 x5) ∧ w'.cell? ⟨g1, 0, none⟩ = some (.int .i64 a1_0) ∧ w'.cell? ⟨g1, 1, none⟩ = some (.int .i64 a1_1) ∧ w'.cell? ⟨g5, 0, none⟩ = some (.int .i64 t4) ∧ w'.cell? ⟨g5, 1, none⟩ = some (.int .i64 t5)) (ds := [8]) (lb 9 0) (by kernel_rfl) rfl rfl ⟨bc K6 0, bc K6 1, bc K1 0, bc K1 1, bc K5 0, bc K5 1⟩ (fun hHeld => ?_); refine with_tabW spec_l8Div.tab13 spec_l8Div.bits13 (fun HT_ HW_ => ?_)
          generalize w17.drew = w18 at O2 K1 K2 K3 K4 K5 K6 HB hHeld ⊢
          refine pk 2 61 4 ?_
          refine pk 4 63 20 ?_
          refine tk 0 59 21 hHeld ?_
          refine tk 1 60 23 hHeld ?_
          refine tk 3 62 31 hHeld ?_
          refine tk 5 64 63 hHeld ?_
          refine on 6 (some 65) 127 fun K hK => ?_
          refine gq Try.func89 (spec_l8Rem.calls _ _ _ _ _ _ _ _ A7.out) fun w19 hb => ?_
          replace O2 := am (Kd.R_below (RZ O2) hb)
          obtain ⟨K1, K2, K3, K4, K5, K6, HB⟩ := bk6 K1 K2 K3 K4 K5 K6 HB hb
          clear hb
          refine kk hK ⟨bc K6 0, bc K6 1, bc K1 0, bc K1 1, bc K5 0, bc K5 1⟩ fun hHeld => ?_
          clear hK K
          refine on 7 (some 66) 255 fun K hK => ?_
          refine gq Try.func25 (spec_RangeJoin.calls _ _ _ _ _ _ _ _ A8.out) fun w20 hb => ?_
          replace O2 := am (Kd.R_below (RZ O2) hb)
          obtain ⟨K1, K2, K3, K4, K5, K6, HB⟩ := bk6 K1 K2 K3 K4 K5 K6 HB hb
          clear hb
          refine kk hK ⟨bc K6 0, bc K6 1, bc K1 0, bc K1 1, bc K5 0, bc K5 1⟩ fun hHeld => ?_
          clear hK K
          refine last_ (i := 8) (N := none) (lb 9 511) rfl rfl ow (by decide) (fun K hK => ?_)
          have s2 : w20.cell? ⟨g6, 0, none⟩ = some (.int .i64 x4) := bc K6 0
          have hfs148 := blk_frozen K6.out 0
          have z_ := ns10 N21 N23 N25 N27 N29 N22 N24 N26 N28 N30
          have s3 : w20.cell? ⟨g6, 1, none⟩ = some (.int .i64 x5) := bc K6 1
          have hfs149 := blk_frozen K6.out 1
          have z_ := ns10 N21 N23 N25 N27 N29 N22 N24 N26 N28 N30
          refine skip_ (w1 := ?_) (by rfl) rfl ?_ ?_
          rotate_left
          ·go_simp
           rfl
          refine hK.out _ _ ?_
          clear hK K
          refine done_ (done_of HT_.out (by kernel_rfl)) ?_
          have z_ := ns10 N1 N3 N7 N13 N21 N5 N9 N15 N23 N26
          have z_ := ns4 N28 N30 N11 N17
          have z_ := cB2 K1
          have z_ := cB2 K2
          have z_ := cB2 K6
          have z_ := cB2 K3
          try go_wp2
          refine bodyPost_ret (results_ct rfl _ _ g3 24 #[.int .i64 t15, .int .i64 t16] (0, 0) _ rfl (by refine pf ?_; refine blk_put (cs := #[.int .i64 t15, .int .i64 0]) ?_ 1 _ rfl; refine pf ?_; refine blk_put (cs := #[.int .i64 0, .int .i64 0]) ?_ 0 _ rfl; refine fa N25 ?_; refine fa N25 ?_; exact Z K3) Try.underlying24 rfl (by kernel_rfl)) rfl ?_
          exact ⟨_, ez, by (with_reducible repeat (first | apply Kd.R_alloc | apply Kd.R_drewN | apply Kd.R_drew)); exact Kd.R_mono (Kd.R_far (p := ⟨g3, 1, none⟩) (Kd.R_far (p := ⟨g3, 0, none⟩) (Kd.R_far (p := ⟨g6, 1, none⟩) (Kd.R_far (p := ⟨g6, 0, none⟩) (Kd.R_types (Kd.R_types O2.out K6.out (by decide)) K3.out (by decide)) (fun _ hk => hk.1.2) (.int .i64 t15)) (fun _ hk => hk.1.2) (.int .i64 t16)) (fun _ hk => hk.2) (.int .i64 t15)) (fun _ hk => hk.2) (.int .i64 t16)) (fun _ hk => trivial), YA HB⟩
         rw [if_pos c4] at H
         have d6 := eT c4
         have d7 := nF c4
         clear c4
         by_cases c5 : a2_0 = 0
         ·rw [if_pos c5] at H
          have d8 := eT c5
          have d9 := nF c5
          clear c5
          simp only [Option.some.injEq, Prod.mk.injEq] at H
          obtain ⟨rfl, rfl, rfl⟩ := H
          try go_wp2
          replace O2 := am (Kd.R_drew O2.out)
          obtain ⟨K1, K2, K3, K4, K5, K6, HB⟩ := dk6 K1 K2 K3 K4 K5 K6 HB
          refine start_ (n := 3) (S := fun w' => w'.cell? ⟨g5, 0, none⟩ = some (.int .i64 t4) ∧ w'.cell? ⟨g5, 1, none⟩ = some (.int .i64 t5)) (ds := []) (lb 3 0) (by kernel_rfl) rfl rfl ⟨bc K5 0, bc K5 1⟩ (fun hHeld => ?_)
          generalize wc.drew = w16 at O2 K1 K2 K3 K4 K5 K6 HB hHeld ⊢
          refine take_ (i := 0) (N := some 56) (v := ?_) (a' := ?_) (lb 3 1) rfl rfl (by kernel_rfl) (fun _ _ _ h => h) (Or.inl ⟨by rfl, ?_⟩) hHeld ?_ ?_
          rotate_left
          ·rintro w' ⟨s0, s1⟩
           go_simp
           with_reducible rfl
          rotate_left
          ·exact pz
          refine one_ (i := 1) (N := some 57) (lb 3 3) rfl rfl (by kernel_rfl) (by decide) (fun K hK => ?_)
          refine gq Try.func38 (spec_l8None.calls _ _ _ A6.out) fun w17 hb => ?_
          replace O2 := am (Kd.R_below (RZ O2) hb)
          obtain ⟨K1, K2, K3, K4, K5, K6, HB⟩ := bk6 K1 K2 K3 K4 K5 K6 HB hb
          clear hb
          refine kk hK ⟨bc K5 0, bc K5 1⟩ fun hHeld => ?_
          clear hK K
          refine pure_ (i := 2) (N := some 58) (v := ?_) (a' := ?_) (lb 3 7) rfl rfl (by kernel_rfl) (fun _ _ _ h => h) (Or.inl ⟨by rfl, ?_⟩) ?_ ?_
          rotate_left
          ·exact gz
          rotate_left
          ·exact pz
          refine done_ (by kernel_rfl) ?_
          try go_wp2
          replace O2 := am (Kd.R_drew O2.out)
          obtain ⟨K1, K2, K3, K4, K5, K6, HB⟩ := dk6 K1 K2 K3 K4 K5 K6 HB
          refine start_ (n := 9) (S := fun w' => w'.cell? ⟨g6, 0, none⟩ = some (.int .i64 x4) ∧ w'.cell? ⟨g6, 1, none⟩ = some (.int .i64 x5) ∧ w'.cell? ⟨g1, 0, none⟩ = some (.int .i64 a1_0) ∧ w'.cell? ⟨g1, 1, none⟩ = some (.int .i64 a1_1) ∧ w'.cell? ⟨g5, 0, none⟩ = some (.int .i64 t4) ∧ w'.cell? ⟨g5, 1, none⟩ = some (.int .i64 t5)) (ds := [8]) (lb 9 0) (by kernel_rfl) rfl rfl ⟨bc K6 0, bc K6 1, bc K1 0, bc K1 1, bc K5 0, bc K5 1⟩ (fun hHeld => ?_); refine with_tabW spec_l8Div.tab13 spec_l8Div.bits13 (fun HT_ HW_ => ?_)
          generalize w17.drew = w18 at O2 K1 K2 K3 K4 K5 K6 HB hHeld ⊢
          refine pk 2 61 4 ?_
          refine pk 4 63 20 ?_
          refine tk 0 59 21 hHeld ?_
          refine tk 1 60 23 hHeld ?_
          refine tk 3 62 31 hHeld ?_
          refine tk 5 64 63 hHeld ?_
          refine on 6 (some 65) 127 fun K hK => ?_
          refine gq Try.func89 (spec_l8Rem.calls _ _ _ _ _ _ _ _ A7.out) fun w19 hb => ?_
          replace O2 := am (Kd.R_below (RZ O2) hb)
          obtain ⟨K1, K2, K3, K4, K5, K6, HB⟩ := bk6 K1 K2 K3 K4 K5 K6 HB hb
          clear hb
          refine kk hK ⟨bc K6 0, bc K6 1, bc K1 0, bc K1 1, bc K5 0, bc K5 1⟩ fun hHeld => ?_
          clear hK K
          refine on 7 (some 66) 255 fun K hK => ?_
          refine gq Try.func25 (spec_RangeJoin.calls _ _ _ _ _ _ _ _ A8.out) fun w20 hb => ?_
          replace O2 := am (Kd.R_below (RZ O2) hb)
          obtain ⟨K1, K2, K3, K4, K5, K6, HB⟩ := bk6 K1 K2 K3 K4 K5 K6 HB hb
          clear hb
          refine kk hK ⟨bc K6 0, bc K6 1, bc K1 0, bc K1 1, bc K5 0, bc K5 1⟩ fun hHeld => ?_
          clear hK K
          refine last_ (i := 8) (N := none) (lb 9 511) rfl rfl ow (by decide) (fun K hK => ?_)
          have s2 : w20.cell? ⟨g6, 0, none⟩ = some (.int .i64 x4) := bc K6 0
          have hfs97 := blk_frozen K6.out 0
          have z_ := ns10 N21 N23 N25 N27 N29 N22 N24 N26 N28 N30
          have s3 : w20.cell? ⟨g6, 1, none⟩ = some (.int .i64 x5) := bc K6 1
          have hfs98 := blk_frozen K6.out 1
          have z_ := ns10 N21 N23 N25 N27 N29 N22 N24 N26 N28 N30
          refine skip_ (w1 := ?_) (by rfl) rfl ?_ ?_
          rotate_left
          ·go_simp
           rfl
          refine hK.out _ _ ?_
          clear hK K
          refine done_ (done_of HT_.out (by kernel_rfl)) ?_
          have z_ := ns10 N1 N3 N7 N13 N21 N5 N9 N15 N23 N26
          have z_ := ns4 N28 N30 N11 N17
          have z_ := cB2 K1
          have z_ := cB2 K2
          have z_ := cB2 K6
          have z_ := cB2 K3
          try go_wp2
          refine bodyPost_ret (results_ct rfl _ _ g3 24 #[.int .i64 t15, .int .i64 t16] (0, 0) _ rfl (by refine pf ?_; refine blk_put (cs := #[.int .i64 t15, .int .i64 0]) ?_ 1 _ rfl; refine pf ?_; refine blk_put (cs := #[.int .i64 0, .int .i64 0]) ?_ 0 _ rfl; refine fa N25 ?_; refine fa N25 ?_; exact Z K3) Try.underlying24 rfl (by kernel_rfl)) rfl ?_
          exact ⟨_, ez, by (with_reducible repeat (first | apply Kd.R_alloc | apply Kd.R_drewN | apply Kd.R_drew)); exact Kd.R_mono (Kd.R_far (p := ⟨g3, 1, none⟩) (Kd.R_far (p := ⟨g3, 0, none⟩) (Kd.R_far (p := ⟨g6, 1, none⟩) (Kd.R_far (p := ⟨g6, 0, none⟩) (Kd.R_types (Kd.R_types O2.out K6.out (by decide)) K3.out (by decide)) (fun _ hk => hk.1.2) (.int .i64 t15)) (fun _ hk => hk.1.2) (.int .i64 t16)) (fun _ hk => hk.2) (.int .i64 t15)) (fun _ hk => hk.2) (.int .i64 t16)) (fun _ hk => trivial), YA HB⟩
         rw [if_neg c5] at H
         have d8 := eF c5
         have d9 := nT c5
         obtain ⟨t17, A9, H⟩ := bd H
         try dsimp only at H
         simp only [Option.some.injEq, Prod.mk.injEq] at H
         obtain ⟨rfl, rfl, rfl⟩ := H
         try go_wp2
         replace O2 := am (Kd.R_drew O2.out)
         obtain ⟨K1, K2, K3, K4, K5, K6, HB⟩ := dk6 K1 K2 K3 K4 K5 K6 HB
         refine start_ (n := 3) (S := fun w' => w'.cell? ⟨g5, 0, none⟩ = some (.int .i64 t4) ∧ w'.cell? ⟨g5, 1, none⟩ = some (.int .i64 t5)) (ds := []) (lb 3 0) (by kernel_rfl) rfl rfl ⟨bc K5 0, bc K5 1⟩ (fun hHeld => ?_)
         generalize wc.drew = w16 at O2 K1 K2 K3 K4 K5 K6 HB hHeld ⊢
         refine take_ (i := 0) (N := some 56) (v := ?_) (a' := ?_) (lb 3 1) rfl rfl (by kernel_rfl) (fun _ _ _ h => h) (Or.inl ⟨by rfl, ?_⟩) hHeld ?_ ?_
         rotate_left
         ·rintro w' ⟨s0, s1⟩
          go_simp
          with_reducible rfl
         rotate_left
         ·exact pz
         refine one_ (i := 1) (N := some 57) (lb 3 3) rfl rfl (by kernel_rfl) (by decide) (fun K hK => ?_)
         refine gq Try.func38 (spec_l8None.calls _ _ _ A6.out) fun w17 hb => ?_
         replace O2 := am (Kd.R_below (RZ O2) hb)
         obtain ⟨K1, K2, K3, K4, K5, K6, HB⟩ := bk6 K1 K2 K3 K4 K5 K6 HB hb
         clear hb
         refine kk hK ⟨bc K5 0, bc K5 1⟩ fun hHeld => ?_
         clear hK K
         refine pure_ (i := 2) (N := some 58) (v := ?_) (a' := ?_) (lb 3 7) rfl rfl (by kernel_rfl) (fun _ _ _ h => h) (Or.inl ⟨by rfl, ?_⟩) ?_ ?_
         rotate_left
         ·exact gz
         rotate_left
         ·exact pz
         refine done_ (by kernel_rfl) ?_
         try go_wp2
         replace O2 := am (Kd.R_drew O2.out)
         obtain ⟨K1, K2, K3, K4, K5, K6, HB⟩ := dk6 K1 K2 K3 K4 K5 K6 HB
         refine start_ (n := 9) (S := fun w' => w'.cell? ⟨g6, 0, none⟩ = some (.int .i64 x4) ∧ w'.cell? ⟨g6, 1, none⟩ = some (.int .i64 x5) ∧ w'.cell? ⟨g1, 0, none⟩ = some (.int .i64 a1_0) ∧ w'.cell? ⟨g1, 1, none⟩ = some (.int .i64 a1_1) ∧ w'.cell? ⟨g5, 0, none⟩ = some (.int .i64 t4) ∧ w'.cell? ⟨g5, 1, none⟩ = some (.int .i64 t5)) (ds := [8]) (lb 9 0) (by kernel_rfl) rfl rfl ⟨bc K6 0, bc K6 1, bc K1 0, bc K1 1, bc K5 0, bc K5 1⟩ (fun hHeld => ?_); refine with_tabW spec_l8Div.tab13 spec_l8Div.bits13 (fun HT_ HW_ => ?_)
         generalize w17.drew = w18 at O2 K1 K2 K3 K4 K5 K6 HB hHeld ⊢
         refine pk 2 61 4 ?_
         refine pk 4 63 20 ?_
         refine tk 0 59 21 hHeld ?_
         refine tk 1 60 23 hHeld ?_
         refine tk 3 62 31 hHeld ?_
         refine tk 5 64 63 hHeld ?_
         refine on 6 (some 65) 127 fun K hK => ?_
         refine gq Try.func89 (spec_l8Rem.calls _ _ _ _ _ _ _ _ A7.out) fun w19 hb => ?_
         replace O2 := am (Kd.R_below (RZ O2) hb)
         obtain ⟨K1, K2, K3, K4, K5, K6, HB⟩ := bk6 K1 K2 K3 K4 K5 K6 HB hb
         clear hb
         refine kk hK ⟨bc K6 0, bc K6 1, bc K1 0, bc K1 1, bc K5 0, bc K5 1⟩ fun hHeld => ?_
         clear hK K
         refine on 7 (some 66) 255 fun K hK => ?_
         refine gq Try.func25 (spec_RangeJoin.calls _ _ _ _ _ _ _ _ A8.out) fun w20 hb => ?_
         replace O2 := am (Kd.R_below (RZ O2) hb)
         obtain ⟨K1, K2, K3, K4, K5, K6, HB⟩ := bk6 K1 K2 K3 K4 K5 K6 HB hb
         clear hb
         refine kk hK ⟨bc K6 0, bc K6 1, bc K1 0, bc K1 1, bc K5 0, bc K5 1⟩ fun hHeld => ?_
         clear hK K
         refine last_ (i := 8) (N := none) (lb 9 511) rfl rfl ow (by decide) (fun K hK => ?_)
         have s2 : w20.cell? ⟨g6, 0, none⟩ = some (.int .i64 x4) := bc K6 0
         have hfs123 := blk_frozen K6.out 0
         have z_ := ns10 N21 N23 N25 N27 N29 N22 N24 N26 N28 N30
         have s3 : w20.cell? ⟨g6, 1, none⟩ = some (.int .i64 x5) := bc K6 1
         have hfs124 := blk_frozen K6.out 1
         have z_ := ns10 N21 N23 N25 N27 N29 N22 N24 N26 N28 N30
         refine skip_ (w1 := ?_) (by rfl) rfl ?_ ?_
         rotate_left
         ·go_simp
          rfl
         refine hK.out _ _ ?_
         clear hK K
         refine done_ (done_of HT_.out (by kernel_rfl)) ?_
         have z_ := ns9 N1 N3 N7 N13 N21 N5 N9 N15 N23
         have z_ := cB2 K1
         have z_ := cB2 K2
         try go_wp2_with (first | ((with_reducible refine gate_callee (f := 63) rfl ?_); refine goesL_ (some 89) rfl rfl Try.func63 (by kernel_rfl) rfl #[.int .i64 a0, .int .i64 a1_0, .int .i64 a2_0] rfl mz ?_; (with_reducible refine (spec_l1Exact.calls _ _ _ _ _ _ A9.out).mono ?_); rintro e w' ⟨rfl, ⟨nd, rfl⟩⟩; refine ⟨_, rfl, ?_⟩; have z_ := ns5 N26 N28 N30 N11 N17; have z_ := cB2 K6; have z_ := cB2 K3))
         refine bodyPost_ret (results_ct rfl _ _ g3 24 #[.int .i64 t17, .int .i64 t17] (0, 0) _ rfl (by refine pf ?_; refine blk_put (cs := #[.int .i64 t17, .int .i64 0]) ?_ 1 _ rfl; refine pf ?_; refine blk_put (cs := #[.int .i64 0, .int .i64 0]) ?_ 0 _ rfl; refine fa N25 ?_; refine fa N25 ?_; refine fa N25 ?_; refine fa N25 ?_; exact Z K3) Try.underlying24 rfl (by kernel_rfl)) rfl ?_
         exact ⟨_, ez, by (with_reducible repeat (first | apply Kd.R_alloc | apply Kd.R_drewN | apply Kd.R_drew)); exact Kd.R_mono (Kd.R_far (p := ⟨g3, 1, none⟩) (Kd.R_far (p := ⟨g3, 0, none⟩) (Kd.R_far (p := ⟨g6, 1, none⟩) (Kd.R_far (p := ⟨g6, 0, none⟩) (Kd.R_far (p := ⟨g6, 1, none⟩) (Kd.R_far (p := ⟨g6, 0, none⟩) (Kd.R_types (Kd.R_types O2.out K6.out (by decide)) K3.out (by decide)) (fun _ hk => hk.1.2) (.int .i64 t15)) (fun _ hk => hk.1.2) (.int .i64 t16)) (fun _ hk => hk.1.2) (.int .i64 t17)) (fun _ hk => hk.1.2) (.int .i64 t17)) (fun _ hk => hk.2) (.int .i64 t17)) (fun _ hk => hk.2) (.int .i64 t17)) (fun _ hk => trivial), YA HB⟩
end
section
attribute [local go_sem] max2_int min2_int max_two min_two max_three min_three max_four min_four
attribute [local go_sem] Go.Proofs.YthbkakcchgnhpaaSet.isSome_setCell
def spec_l8Mask.l0 : Nat → Int → Int → Option (Int)
 | 0, _, _ => none
 | k + 1, x1, x2 => if x2 < x1 then (spec_l8Mask.l0 k x1 (wrap64 ((wrap64 (2 * x2)) + 1))) else (some x2)
def spec_l8Mask.f (k : Nat) (a0 : Int) : Option (Int) := spec_l8Mask.l0 k a0 0
theorem spec_l8Mask.mono_l : ∀ k, (∀ y0 y1, LeO (spec_l8Mask.l0 k y0 y1) (spec_l8Mask.l0 (k + 1) y0 y1))
 | 0 => fun _ _ r h => by simp [spec_l8Mask.l0] at h
 | k + 1 => by
  have ih0 := spec_l8Mask.mono_l k
  ·intro y0 y1
   unfold spec_l8Mask.l0
   repeat' first | (with_reducible first | apply ih0 | apply LeO.refl | apply LeO.none | refine LeO.ite ?_ ?_ | refine LeO.bind ?_ (fun _ => ?_)) | apply ih0 | apply LeO.none | refine LeO.ite ?_ ?_ | refine LeO.bind ?_ (fun _ => ?_)
theorem spec_l8Mask.mono : ∀ a0 k, LeO (spec_l8Mask.f k a0) (spec_l8Mask.f (k + 1) a0) := by
 intro a0 k
 have ih0 := spec_l8Mask.mono_l k
 unfold spec_l8Mask.f
 repeat' first | (with_reducible first | apply ih0 | apply LeO.refl | apply LeO.none | refine LeO.ite ?_ ?_ | refine LeO.bind ?_ (fun _ => ?_)) | apply ih0 | apply LeO.none | refine LeO.ite ?_ ?_ | refine LeO.bind ?_ (fun _ => ?_)
set_option maxHeartbeats 8000000 in
set_option maxRecDepth 100000 in
theorem spec_l8Mask.calls (k : Nat) (a0 : Int) (r : Int) (w : World) (h : spec_l8Mask.f k a0 = some r) :
  Calls Try.prog 91 #[.int .i64 a0] w fun e w' => e = .returned (.int .i64 r) ∧ Drawn0 w w' := by
 have H : (spec_l8Mask.l0 k a0 0) = some r := h
 clear h
 have H' := am H
 clear H
 go_enter Try.func91, Try.ntmps91
 go_wp2
 go_loopg [3] k (fun kq v1 w' => ∃ (x1 : Int), v1 = .int .i64 x1 ∧ Aside0 (spec_l8Mask.l0 kq a0 x1 = some r) ∧ Aside0 (kq ≤ k) ∧ Drawn0 w w')
 case atStart => exact ⟨(0), ey, H', ⟨Nat.le_refl _⟩, by repeat (first | exact Drawn0.refl _ | apply Drawn0.step)⟩
 case round =>
  clear H'
  obtain ⟨x1, rfl, HA, HK1, ⟨m1, rfl⟩⟩ := hrel
  cases gk with
  | zero => exact absurd HA.out (by simp [spec_l8Mask.l0])
  | succ k1 =>
   have H := HA.out
   clear HA
   simp only [spec_l8Mask.l0] at H
   by_cases c1 : x1 < a0
   rotate_left
   ·rw [if_neg c1] at H
    have d1 := dF c1
    clear c1
    obtain rfl := Option.some.inj H
    go_wp2
    go_ret
    exact ⟨by first | rfl | (simp; done) | (simp [*]; done), by repeat (first | exact Drawn0.refl _ | apply Drawn0.step)⟩
   rw [if_pos c1] at H
   have d1 := dT c1
   clear c1
   have H' := am H
   clear H
   go_wp2
   go_roundg k1
   case measure => have := HK1.out; omega
   case rel => exact ⟨(wrap64 ((wrap64 (2 * x1)) + 1)), ey, H', ⟨by have := HK1.out; omega⟩, by repeat (first | exact Drawn0.refl _ | apply Drawn0.step)⟩
end
end Go.Proofs.Ythbkakcchgnhpaa.PFnExactValDo
