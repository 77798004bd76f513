/- Written by this session's own driver (wip/dprint.py): the functions that the law FnRangeFaults reaches, as Lean functions, each with its contract. -/
import Derived.Test.YthbkakcchgnhpaaPFnRangeFaultsx0
import Derived.Test.YthbkakcchgnhpaaPFnRangeFaultsx3
import Derived.Test.YthbkakcchgnhpaaPFnRangeFaultsx5
import Derived.Test.YthbkakcchgnhpaaSv
namespace Go.Proofs.Ythbkakcchgnhpaa.PFnRangeFaults
open Go.RowKit Go.Proofs.YthbkakcchgnhpaaV.PrintWords Go.Proofs.YthbkakcchgnhpaaV.PrintLast Go.Proofs.YthbkakcchgnhpaaV.PrintMore Go.Proofs.YthbkakcchgnhpaaSv
attribute [local go_sem] max2_int min2_int max_two min_two max_three min_three max_four min_four   -- for this text's walks alone
set_option linter.unusedVariables false
set_option linter.unusedSimpArgs false

/-- A state of type 67 at block g of W; what its slices lead to came in by w0. -/
def IsS67 (w0 W : World) (g : Nat) (f0 : Bool) (f1 : Int) (f2 : Int) : Prop := W.heap[g]? = some (.cells #[.bool f0, .int .i64 f1, .int .i64 f2] 67 (0, 0)) ∧ w0.heap.size ≤ g
theorem IsS67.grown {w0 W : World} {g : Nat} {f0 : Bool} {f1 : Int} {f2 : Int} {W1 : World} {row : Option Nat} (h : IsS67 w0 W g f0 f1 f2) (hw : W.grownBy W1 row) (hne : some g ≠ row) : IsS67 w0 W1 g f0 f1 f2 := by
 obtain ⟨hb, hg⟩ := h
 exact ⟨blk_grown hb hw hne, hg⟩
theorem IsS67.own_neN {w0 W : World} {g : Nat} {f0 : Bool} {f1 : Int} {f2 : Int} {α : Type} {d : Kd α} {e : Nat} {base : Nat} {ok : Nat → Prop} {v : Value} {xs : List α} (h : IsS67 w0 W g f0 f1 f2) (ho : Kd.N d e W base ok v xs) (ht : e ≠ 67) : some g ≠ v.ownBlock := by
 obtain ⟨hb, hg⟩ := h
 exact Kd.N_ne ho hb ht
theorem IsS67.fresh {w0 W : World} {g : Nat} {f0 : Bool} {f1 : Int} {f2 : Int} (h : IsS67 w0 W g f0 f1 f2) : ∀ k, W.heap.size ≤ k → k ≠ g := by
 obtain ⟨hb, hg⟩ := h
 exact Kd.freshB hb
theorem IsS67.kept {w0 W : World} {g : Nat} {f0 : Bool} {f1 : Int} {f2 : Int} {W1 : World} {S : Nat → Prop} (h : IsS67 w0 W g f0 f1 f2) (hk : Kept W W1 S) (hne : ¬ S g) : IsS67 w0 W1 g f0 f1 f2 := by
 obtain ⟨hb, hg⟩ := h
 exact ⟨blk_kept hb hk hne, hg⟩
theorem IsS67.below {w0 W : World} {g : Nat} {f0 : Bool} {f1 : Int} {f2 : Int} {W1 : World} (h : IsS67 w0 W g f0 f1 f2) (hw : Below W.heap.size W W1) : IsS67 w0 W1 g f0 f1 f2 := h.grown (grown_of_below hw none) (by simp)
theorem IsS67.alloc {w0 W : World} {g : Nat} {f0 : Bool} {f1 : Int} {f2 : Int} (h : IsS67 w0 W g f0 f1 f2) (o : Obj) : IsS67 w0 (W.alloc o) g f0 f1 f2 := h.below (below_alloc (Below.refl _ _) o)
theorem IsS67.drewN {w0 W : World} {g : Nat} {f0 : Bool} {f1 : Int} {f2 : Int} (h : IsS67 w0 W g f0 f1 f2) (m : Nat) : IsS67 w0 (W.drewN m) g f0 f1 f2 := h
theorem IsS67.drew {w0 W : World} {g : Nat} {f0 : Bool} {f1 : Int} {f2 : Int} (h : IsS67 w0 W g f0 f1 f2) : IsS67 w0 W.drew g f0 f1 f2 := h
theorem IsS67.at_ {w0 W : World} {g : Nat} {f0 : Bool} {f1 : Int} {f2 : Int} {w' : World} {m : Nat} (hq : W.drewN m = w') (h : IsS67 w0 W g f0 f1 f2) : IsS67 w0 w' g f0 f1 f2 := by subst hq; exact IsS67.drewN h m
theorem IsS67.apart {w0 W : World} {g : Nat} {f0 : Bool} {f1 : Int} {f2 : Int} {α : Type} {d : Kd α} {e : Nat} {base : Nat} {ok : Nat → Prop} {v : Value} {xs : List α} (h : IsS67 w0 W g f0 f1 f2) (ho : d.R e W base ok v xs) (ht : ∀ q, q ∈ e :: d.E → q ≠ 67) : d.R e W base (fun k => ok k ∧ k ≠ g) v xs := by
 obtain ⟨hb, hg⟩ := h
 exact Kd.R_types ho hb ht
theorem IsS67.own_ne {w0 W : World} {g : Nat} {f0 : Bool} {f1 : Int} {f2 : Int} {α : Type} {d : Kd α} {e : Nat} {base : Nat} {ok : Nat → Prop} {v : Value} {xs : List α} (h : IsS67 w0 W g f0 f1 f2) (ho : d.R e W base ok v xs) (ht : e ≠ 67) : some g ≠ v.ownBlock := by
 obtain ⟨hb, hg⟩ := h
 exact Kd.R_ne ho hb ht
theorem IsS67.apartQ {w0 W : World} {g : Nat} {f0 : Bool} {f1 : Int} {f2 : Int} {α : Type} {d : Kd α} {e : Nat} {base : Nat} {ok : Nat → Prop} {v : Value} {xs : List α} (h : IsS67 w0 W g f0 f1 f2) (ho : d.Q e W base ok v xs) (ht : ∀ q, q ∈ e :: d.E → q ≠ 67) : d.Q e W base (fun k => ok k ∧ k ≠ g) v xs := by
 obtain ⟨hb, hg⟩ := h
 exact Kd.Q_types ho hb ht
theorem IsS67.own_neQ {w0 W : World} {g : Nat} {f0 : Bool} {f1 : Int} {f2 : Int} {α : Type} {d : Kd α} {e : Nat} {base : Nat} {ok : Nat → Prop} {v : Value} {xs : List α} (h : IsS67 w0 W g f0 f1 f2) (ho : d.Q e W base ok v xs) (ht : e ≠ 67) : some g ≠ v.ownBlock := by
 obtain ⟨hb, hg⟩ := h
 exact Kd.Q_ne ho hb ht
theorem IsS67.apartS {w0 W : World} {g : Nat} {f0 : Bool} {f1 : Int} {f2 : Int} {α : Type} {d : Kd α} {e : Nat} {base : Nat} {ok : Nat → Prop} {v : Value} {xs : List α} (h : IsS67 w0 W g f0 f1 f2) (ho : d.S e W base ok v xs) (ht : ∀ q, q ∈ e :: d.E → q ≠ 67) : d.S e W base (fun k => ok k ∧ k ≠ g) v xs := by
 obtain ⟨hb, hg⟩ := h
 exact Kd.S_types ho hb ht
theorem IsS67.own_neS {w0 W : World} {g : Nat} {f0 : Bool} {f1 : Int} {f2 : Int} {α : Type} {d : Kd α} {e : Nat} {base : Nat} {ok : Nat → Prop} {v : Value} {xs : List α} (h : IsS67 w0 W g f0 f1 f2) (ho : d.S e W base ok v xs) (ht : e ≠ 67) : some g ≠ v.ownBlock := by
 obtain ⟨hb, hg⟩ := h
 exact Kd.S_ne ho hb ht
theorem IsS67.lt {w0 W : World} {g : Nat} {f0 : Bool} {f1 : Int} {f2 : Int} (h : IsS67 w0 W g f0 f1 f2) : g < W.heap.size := by
 obtain ⟨hb, hg⟩ := h
 exact blk_lt hb
theorem IsS67.ge {w0 W : World} {g : Nat} {f0 : Bool} {f1 : Int} {f2 : Int} (h : IsS67 w0 W g f0 f1 f2) : w0.heap.size ≤ g := by
 obtain ⟨hb, hg⟩ := h
 exact hg
theorem IsS67.ne_blk {w0 W : World} {g : Nat} {f0 : Bool} {f1 : Int} {f2 : Int} {a : Nat} {cs : Array Value} {t : TypeId} {fr : Nat × Nat} (h : IsS67 w0 W g f0 f1 f2) (hb2 : W.heap[a]? = some (.cells cs t fr)) (ht : t ≠ 67) : g ≠ a := by
 obtain ⟨hb, hg⟩ := h
 rintro rfl
 rw [hb] at hb2
 injection hb2 with hb2
 injection hb2 with _ ht2
 exact ht ht2.symm
theorem IsS67.far {w0 W : World} {g : Nat} {f0 : Bool} {f1 : Int} {f2 : Int} {p : Addr} (h : IsS67 w0 W g f0 f1 f2) (hne : g ≠ p.block) (u : Value) : IsS67 w0 (W.setCell p u) g f0 f1 f2 := by
 obtain ⟨hb, hg⟩ := h
 exact ⟨blk_far hb hne u, hg⟩
theorem cellS67_0 {W : World} {g : Nat} {f0 : Bool} {f1 : Int} {f2 : Int} (h : W.heap[g]? = some (.cells #[.bool f0, .int .i64 f1, .int .i64 f2] 67 (0, 0))) : W.cell? ⟨g, 0, none⟩ = some (.bool f0) := (blk_cell h 0).trans rfl
theorem IsS67.set_0 {w0 W : World} {g : Nat} {f0 : Bool} {f1 : Int} {f2 : Int} (h : IsS67 w0 W g f0 f1 f2) (x : Bool) : IsS67 w0 (W.setCell ⟨g, 0, none⟩ (.bool x)) g x f1 f2 := by
 obtain ⟨hb, hg⟩ := h
 exact ⟨by simpa using blk_set hb 0 (.bool x), hg⟩
theorem cellS67_1 {W : World} {g : Nat} {f0 : Bool} {f1 : Int} {f2 : Int} (h : W.heap[g]? = some (.cells #[.bool f0, .int .i64 f1, .int .i64 f2] 67 (0, 0))) : W.cell? ⟨g, 1, none⟩ = some (.int .i64 f1) := (blk_cell h 1).trans rfl
theorem IsS67.set_1 {w0 W : World} {g : Nat} {f0 : Bool} {f1 : Int} {f2 : Int} (h : IsS67 w0 W g f0 f1 f2) (x : Int) : IsS67 w0 (W.setCell ⟨g, 1, none⟩ (.int .i64 x)) g f0 x f2 := by
 obtain ⟨hb, hg⟩ := h
 exact ⟨by simpa using blk_set hb 1 (.int .i64 x), hg⟩
theorem cellS67_2 {W : World} {g : Nat} {f0 : Bool} {f1 : Int} {f2 : Int} (h : W.heap[g]? = some (.cells #[.bool f0, .int .i64 f1, .int .i64 f2] 67 (0, 0))) : W.cell? ⟨g, 2, none⟩ = some (.int .i64 f2) := (blk_cell h 2).trans rfl
theorem IsS67.set_2 {w0 W : World} {g : Nat} {f0 : Bool} {f1 : Int} {f2 : Int} (h : IsS67 w0 W g f0 f1 f2) (x : Int) : IsS67 w0 (W.setCell ⟨g, 2, none⟩ (.int .i64 x)) g f0 f1 x := by
 obtain ⟨hb, hg⟩ := h
 exact ⟨by simpa using blk_set hb 2 (.int .i64 x), hg⟩
theorem IsS67.new (w0 W : World) (f0 : Bool) (f1 : Int) (f2 : Int) (hB : Below w0.heap.size w0 W) : IsS67 w0 (W.alloc (.cells #[.bool f0, .int .i64 f1, .int .i64 f2] 67)) W.heap.size f0 f1 f2 := ⟨by simpa using heap_alloc_new W _, hB.size⟩

/-! ### spec_l8R_add: function 92 -/
attribute [local go_sem] Go.Proofs.YthbkakcchgnhpaaSet.isSome_setCell
def spec_l8R_add.j0 : Nat → Int → Bool → Bool → Int → Int → Option (Bool × Int × Int)
 | 0, _, _, _, _, _ => none
 | k + 1, x1, x16, x1000, x1001, x1002 => if x16 = true then (if x1000 = true then (if x1 > x1002 then (some (true, x1, x1)) else (some (true, x1, x1002))) else (some (true, x1, x1))) else (if x1000 = true then (if x1 > x1002 then (some (true, x1001, x1)) else (some (true, x1001, x1002))) else (some (true, x1001, x1)))
def spec_l8R_add.f (k : Nat) (s0_0 : Bool) (s0_1 : Int) (s0_2 : Int) (a1 : Int) : Option (Bool × Int × Int) := if s0_0 = true then (spec_l8R_add.j0 k a1 (decide (a1 < s0_1)) s0_0 s0_1 s0_2) else (spec_l8R_add.j0 k a1 true s0_0 s0_1 s0_2)
theorem spec_l8R_add.mono_l : ∀ k, (∀ y0 y1 y2 y3 y4, LeO (spec_l8R_add.j0 k y0 y1 y2 y3 y4) (spec_l8R_add.j0 (k + 1) y0 y1 y2 y3 y4))
 | 0 => fun _ _ _ _ _ r h => by simp [spec_l8R_add.j0] at h
 | k + 1 => by
  have ih0 := spec_l8R_add.mono_l k
  ·intro y0 y1 y2 y3 y4
   unfold spec_l8R_add.j0
   repeat' first | (with_reducible first | apply ih0 | apply LeO.refl | apply LeO.none | refine LeO.ite ?_ ?_ | refine LeO.bind ?_ (fun _ => ?_)) | apply ih0 | apply LeO.none | refine LeO.ite ?_ ?_ | refine LeO.bind ?_ (fun _ => ?_)
theorem spec_l8R_add.mono : ∀ a0 a1 a2 a3 k, LeO (spec_l8R_add.f k a0 a1 a2 a3) (spec_l8R_add.f (k + 1) a0 a1 a2 a3) := by
 intro a0 a1 a2 a3 k
 have ih0 := spec_l8R_add.mono_l k
 unfold spec_l8R_add.f
 repeat' first | (with_reducible first | apply ih0 | apply LeO.refl | apply LeO.none | refine LeO.ite ?_ ?_ | refine LeO.bind ?_ (fun _ => ?_)) | apply ih0 | apply LeO.none | refine LeO.ite ?_ ?_ | refine LeO.bind ?_ (fun _ => ?_)
set_option maxHeartbeats 8000000 in
set_option maxRecDepth 100000 in
theorem spec_l8R_add.calls (k : Nat) (g : Nat) (s0_0 : Bool) (s0_1 : Int) (s0_2 : Int) (a1 : Int) (r1 : Bool) (r2 : Int) (r3 : Int) (w0 w : World) (hI : IsS67 w0 w g s0_0 s0_1 s0_2) (hB : Below w0.heap.size w0 w) (h : spec_l8R_add.f k s0_0 s0_1 s0_2 a1 = some (r1, r2, r3)) :
  Calls Try.prog 92 #[.pointer (some ⟨g, 0, none⟩), .int .i64 a1] w fun e w' => e = .returned (.tuple #[]) ∧ IsS67 w0 w' g r1 r2 r3 ∧ Below w0.heap.size w0 w' ∧ KeepBut w w' g none := by
 have HI0 := am hI
 have HK := am (KeepBut.refl w g none)
 have HL := am hB.size
 clear hI
 have HW0 := am hB.size
 have HB := am hB
 clear hB
 have H : (if s0_0 = true then (spec_l8R_add.j0 k a1 (decide (a1 < s0_1)) s0_0 s0_1 s0_2) else (spec_l8R_add.j0 k a1 true s0_0 s0_1 s0_2)) = some (r1, r2, r3) := h
 clear h
 have HC3 := am H
 clear H
 go_enter Try.func92, Try.ntmps92
 go_upto_region 0 with (fail)
 go_cut [16] (fun v16 wc => ∃ (kq : Nat) (x16_2 : Bool), v16 = .bool x16_2 ∧ Aside0 (spec_l8R_add.j0 kq a1 x16_2 s0_0 s0_1 s0_2 = some (r1, r2, r3)) ∧ Aside0 (kq ≤ k) ∧ Aside0 (IsS67 w0 wc g s0_0 s0_1 s0_2) ∧ Aside0 (KeepBut w wc g none) ∧ Aside0 (Below w0.heap.size w0 wc))
 case first =>
  have H := HC3.out
  clear HC3
  by_cases c4 : s0_0 = true
  ·subst c4
   rw [if_pos rfl] at H
   have H' := am H
   clear H
   obtain ⟨HGz5, hgz5⟩ := HI0.out
   have hcz5_0 := cellS67_0 HGz5
   have hcz5_1 := cellS67_1 HGz5
   have hcz5_2 := cellS67_2 HGz5
   have hfz5_0 := blk_frozen HGz5 0
   have hfz5_1 := blk_frozen HGz5 1
   have hfz5_2 := blk_frozen HGz5 2
   clear HGz5 hgz5
   go_wp2
   go_meet
   case rel => exact ⟨_, (decide (a1 < s0_1)), ey, H', le0, ⟨by repeat (first | (with_reducible first | exact HI0.out | apply IsS67.alloc | apply IsS67.drewN | apply IsS67.drew | apply IsS67.set_0 | apply IsS67.set_1 | apply IsS67.set_2) | exact HI0.out)⟩, ⟨by repeat (first | (with_reducible first | exact HK.out | apply KeepBut.set_ | apply keep_drewN | apply keep_drew | apply keep_alloc) | exact HK.out)⟩, ⟨by repeat (first | (with_reducible first | exact HB.out | apply below_alloc | apply pw_below_drewN | apply below_drew1 | refine below_set ?_ (IsS67.ge HI0.out)) | exact HB.out)⟩⟩
  replace c4 := Bool.eq_false_iff.mpr c4
  subst c4
  rw [if_neg ff] at H
  have H' := am H
  clear H
  obtain ⟨HGz6, hgz6⟩ := HI0.out
  have hcz6_0 := cellS67_0 HGz6
  have hcz6_1 := cellS67_1 HGz6
  have hcz6_2 := cellS67_2 HGz6
  have hfz6_0 := blk_frozen HGz6 0
  have hfz6_1 := blk_frozen HGz6 1
  have hfz6_2 := blk_frozen HGz6 2
  clear HGz6 hgz6
  go_wp2
  go_meet
  case rel => exact ⟨_, (true), ey, H', le0, ⟨by repeat (first | (with_reducible first | exact HI0.out | apply IsS67.alloc | apply IsS67.drewN | apply IsS67.drew | apply IsS67.set_0 | apply IsS67.set_1 | apply IsS67.set_2) | exact HI0.out)⟩, ⟨by repeat (first | (with_reducible first | exact HK.out | apply KeepBut.set_ | apply keep_drewN | apply keep_drew | apply keep_alloc) | exact HK.out)⟩, ⟨by repeat (first | (with_reducible first | exact HB.out | apply below_alloc | apply pw_below_drewN | apply below_drew1 | refine below_set ?_ (IsS67.ge HI0.out)) | exact HB.out)⟩⟩
 case rest =>
  clear HC3
  obtain ⟨kq, x16_2, rfl, HA, HJ2, HI0, HK, HB⟩ := hcut
  cases kq with
  | zero => exact absurd HA.out (by simp [spec_l8R_add.j0])
  | succ kj2 =>
   have H := HA.out
   clear HA
   simp only [spec_l8R_add.j0] at H
   by_cases c7 : x16_2 = true
   ·subst c7
    rw [if_pos rfl] at H
    by_cases c8 : s0_0 = true
    rotate_left
    ·replace c8 := Bool.eq_false_iff.mpr c8
     subst c8
     rw [if_neg ff] at H
     simp only [Option.some.injEq, Prod.mk.injEq] at H
     obtain ⟨rfl, rfl, rfl⟩ := H
     obtain ⟨HGz12, hgz12⟩ := HI0.out
     have hcz12_0 := cellS67_0 HGz12
     have hcz12_1 := cellS67_1 HGz12
     have hcz12_2 := cellS67_2 HGz12
     have hfz12_0 := blk_frozen HGz12 0
     have hfz12_1 := blk_frozen HGz12 1
     have hfz12_2 := blk_frozen HGz12 2
     clear HGz12 hgz12
     go_wp2
     first | go_end0 | ((try simp only [Exit.inBlock, Exit.then]); refine bodyPost_ret (results_none rfl _ _ _) rfl ?_)
     exact ⟨ez, by repeat (first | (with_reducible first | exact HI0.out | apply IsS67.alloc | apply IsS67.drewN | apply IsS67.drew | apply IsS67.set_0 | apply IsS67.set_1 | apply IsS67.set_2) | exact HI0.out), by repeat (first | (with_reducible first | exact HB.out | apply below_alloc | apply pw_below_drewN | apply below_drew1 | refine below_set ?_ (IsS67.ge HI0.out)) | exact HB.out), by repeat (first | (with_reducible first | exact HK.out | apply KeepBut.set_ | apply keep_drewN | apply keep_drew | apply keep_alloc) | exact HK.out)⟩
    subst c8
    rw [if_pos rfl] at H
    by_cases c9 : a1 > s0_2
    ·rw [if_pos c9] at H
     have c9b0 := dT c9
     clear c9
     simp only [Option.some.injEq, Prod.mk.injEq] at H
     obtain ⟨rfl, rfl, rfl⟩ := H
     obtain ⟨HGz10, hgz10⟩ := HI0.out
     have hcz10_0 := cellS67_0 HGz10
     have hcz10_1 := cellS67_1 HGz10
     have hcz10_2 := cellS67_2 HGz10
     have hfz10_0 := blk_frozen HGz10 0
     have hfz10_1 := blk_frozen HGz10 1
     have hfz10_2 := blk_frozen HGz10 2
     clear HGz10 hgz10
     go_wp2
     first | go_end0 | ((try simp only [Exit.inBlock, Exit.then]); refine bodyPost_ret (results_none rfl _ _ _) rfl ?_)
     exact ⟨ez, by repeat (first | (with_reducible first | exact HI0.out | apply IsS67.alloc | apply IsS67.drewN | apply IsS67.drew | apply IsS67.set_0 | apply IsS67.set_1 | apply IsS67.set_2) | exact HI0.out), by repeat (first | (with_reducible first | exact HB.out | apply below_alloc | apply pw_below_drewN | apply below_drew1 | refine below_set ?_ (IsS67.ge HI0.out)) | exact HB.out), by repeat (first | (with_reducible first | exact HK.out | apply KeepBut.set_ | apply keep_drewN | apply keep_drew | apply keep_alloc) | exact HK.out)⟩
    rw [if_neg c9] at H
    have c9b0 := dF c9
    clear c9
    simp only [Option.some.injEq, Prod.mk.injEq] at H
    obtain ⟨rfl, rfl, rfl⟩ := H
    obtain ⟨HGz11, hgz11⟩ := HI0.out
    have hcz11_0 := cellS67_0 HGz11
    have hcz11_1 := cellS67_1 HGz11
    have hcz11_2 := cellS67_2 HGz11
    have hfz11_0 := blk_frozen HGz11 0
    have hfz11_1 := blk_frozen HGz11 1
    have hfz11_2 := blk_frozen HGz11 2
    clear HGz11 hgz11
    go_wp2
    first | go_end0 | ((try simp only [Exit.inBlock, Exit.then]); refine bodyPost_ret (results_none rfl _ _ _) rfl ?_)
    exact ⟨ez, by repeat (first | (with_reducible first | exact HI0.out | apply IsS67.alloc | apply IsS67.drewN | apply IsS67.drew | apply IsS67.set_0 | apply IsS67.set_1 | apply IsS67.set_2) | exact HI0.out), by repeat (first | (with_reducible first | exact HB.out | apply below_alloc | apply pw_below_drewN | apply below_drew1 | refine below_set ?_ (IsS67.ge HI0.out)) | exact HB.out), by repeat (first | (with_reducible first | exact HK.out | apply KeepBut.set_ | apply keep_drewN | apply keep_drew | apply keep_alloc) | exact HK.out)⟩
   replace c7 := Bool.eq_false_iff.mpr c7
   subst c7
   rw [if_neg ff] at H
   by_cases c13 : s0_0 = true
   rotate_left
   ·replace c13 := Bool.eq_false_iff.mpr c13
    subst c13
    rw [if_neg ff] at H
    simp only [Option.some.injEq, Prod.mk.injEq] at H
    obtain ⟨rfl, rfl, rfl⟩ := H
    obtain ⟨HGz17, hgz17⟩ := HI0.out
    have hcz17_0 := cellS67_0 HGz17
    have hcz17_1 := cellS67_1 HGz17
    have hcz17_2 := cellS67_2 HGz17
    have hfz17_0 := blk_frozen HGz17 0
    have hfz17_1 := blk_frozen HGz17 1
    have hfz17_2 := blk_frozen HGz17 2
    clear HGz17 hgz17
    go_wp2
    first | go_end0 | ((try simp only [Exit.inBlock, Exit.then]); refine bodyPost_ret (results_none rfl _ _ _) rfl ?_)
    exact ⟨ez, by repeat (first | (with_reducible first | exact HI0.out | apply IsS67.alloc | apply IsS67.drewN | apply IsS67.drew | apply IsS67.set_0 | apply IsS67.set_1 | apply IsS67.set_2) | exact HI0.out), by repeat (first | (with_reducible first | exact HB.out | apply below_alloc | apply pw_below_drewN | apply below_drew1 | refine below_set ?_ (IsS67.ge HI0.out)) | exact HB.out), by repeat (first | (with_reducible first | exact HK.out | apply KeepBut.set_ | apply keep_drewN | apply keep_drew | apply keep_alloc) | exact HK.out)⟩
   subst c13
   rw [if_pos rfl] at H
   by_cases c14 : a1 > s0_2
   ·rw [if_pos c14] at H
    have c14b0 := dT c14
    clear c14
    simp only [Option.some.injEq, Prod.mk.injEq] at H
    obtain ⟨rfl, rfl, rfl⟩ := H
    obtain ⟨HGz15, hgz15⟩ := HI0.out
    have hcz15_0 := cellS67_0 HGz15
    have hcz15_1 := cellS67_1 HGz15
    have hcz15_2 := cellS67_2 HGz15
    have hfz15_0 := blk_frozen HGz15 0
    have hfz15_1 := blk_frozen HGz15 1
    have hfz15_2 := blk_frozen HGz15 2
    clear HGz15 hgz15
    go_wp2
    first | go_end0 | ((try simp only [Exit.inBlock, Exit.then]); refine bodyPost_ret (results_none rfl _ _ _) rfl ?_)
    exact ⟨ez, by repeat (first | (with_reducible first | exact HI0.out | apply IsS67.alloc | apply IsS67.drewN | apply IsS67.drew | apply IsS67.set_0 | apply IsS67.set_1 | apply IsS67.set_2) | exact HI0.out), by repeat (first | (with_reducible first | exact HB.out | apply below_alloc | apply pw_below_drewN | apply below_drew1 | refine below_set ?_ (IsS67.ge HI0.out)) | exact HB.out), by repeat (first | (with_reducible first | exact HK.out | apply KeepBut.set_ | apply keep_drewN | apply keep_drew | apply keep_alloc) | exact HK.out)⟩
   rw [if_neg c14] at H
   have c14b0 := dF c14
   clear c14
   simp only [Option.some.injEq, Prod.mk.injEq] at H
   obtain ⟨rfl, rfl, rfl⟩ := H
   obtain ⟨HGz16, hgz16⟩ := HI0.out
   have hcz16_0 := cellS67_0 HGz16
   have hcz16_1 := cellS67_1 HGz16
   have hcz16_2 := cellS67_2 HGz16
   have hfz16_0 := blk_frozen HGz16 0
   have hfz16_1 := blk_frozen HGz16 1
   have hfz16_2 := blk_frozen HGz16 2
   clear HGz16 hgz16
   go_wp2
   first | go_end0 | ((try simp only [Exit.inBlock, Exit.then]); refine bodyPost_ret (results_none rfl _ _ _) rfl ?_)
   exact ⟨ez, by repeat (first | (with_reducible first | exact HI0.out | apply IsS67.alloc | apply IsS67.drewN | apply IsS67.drew | apply IsS67.set_0 | apply IsS67.set_1 | apply IsS67.set_2) | exact HI0.out), by repeat (first | (with_reducible first | exact HB.out | apply below_alloc | apply pw_below_drewN | apply below_drew1 | refine below_set ?_ (IsS67.ge HI0.out)) | exact HB.out), by repeat (first | (with_reducible first | exact HK.out | apply KeepBut.set_ | apply keep_drewN | apply keep_drew | apply keep_alloc) | exact HK.out)⟩

/-! ### spec_l8R_corners: function 42 -/
attribute [local go_sem] Go.Proofs.YthbkakcchgnhpaaSet.isSome_setCell
def spec_l8R_corners.f (k : Nat) (s0_0 : Bool) (s0_1 : Int) (s0_2 : Int) (a1 : Int) (a2_0 : Int) (a2_1 : Int) (a3_0 : Int) (a3_1 : Int) : Option (Bool × Int × Int) := (spec_l1Exact.f k a1 a2_0 a3_0).bind fun t155 => ((spec_l8R_add.f k s0_0 s0_1 s0_2 t155).bind fun bt156 => ((spec_l1Exact.f k a1 a2_0 a3_1).bind fun t159 => ((spec_l8R_add.f k bt156.1 bt156.2.1 bt156.2.2 t159).bind fun bt160 => ((spec_l1Exact.f k a1 a2_1 a3_0).bind fun t163 => ((spec_l8R_add.f k bt160.1 bt160.2.1 bt160.2.2 t163).bind fun bt164 => ((spec_l1Exact.f k a1 a2_1 a3_1).bind fun t167 => ((spec_l8R_add.f k bt164.1 bt164.2.1 bt164.2.2 t167).bind fun bt168 => (some (bt168.1, bt168.2.1, bt168.2.2)))))))))
theorem spec_l8R_corners.mono : ∀ a0 a1 a2 a3 a4 a5 a6 a7 k, LeO (spec_l8R_corners.f k a0 a1 a2 a3 a4 a5 a6 a7) (spec_l8R_corners.f (k + 1) a0 a1 a2 a3 a4 a5 a6 a7) := by
 intro a0 a1 a2 a3 a4 a5 a6 a7 k
 unfold spec_l8R_corners.f
 repeat' first | (with_reducible first | apply spec_l1Exact.mono | apply spec_l8R_add.mono | apply LeO.refl | apply LeO.none | refine LeO.ite ?_ ?_ | refine LeO.bind ?_ (fun _ => ?_)) | apply spec_l1Exact.mono | apply spec_l8R_add.mono | apply LeO.none | refine LeO.ite ?_ ?_ | refine LeO.bind ?_ (fun _ => ?_)
set_option maxHeartbeats 8000000 in
set_option maxRecDepth 100000 in
theorem spec_l8R_corners.calls (k : Nat) (g : Nat) (s0_0 : Bool) (s0_1 : Int) (s0_2 : Int) (a1 : Int) (a2_0 : Int) (a2_1 : Int) (a3_0 : Int) (a3_1 : Int) (r1 : Bool) (r2 : Int) (r3 : Int) (w0 w : World) (hI : IsS67 w0 w g s0_0 s0_1 s0_2) (hB : Below w0.heap.size w0 w) (h : spec_l8R_corners.f k s0_0 s0_1 s0_2 a1 a2_0 a2_1 a3_0 a3_1 = some (r1, r2, r3)) :
  Calls Try.prog 42 #[.pointer (some ⟨g, 0, none⟩), .int .i64 a1, .agg #[.int .i64 a2_0, .int .i64 a2_1], .agg #[.int .i64 a3_0, .int .i64 a3_1]] w fun e w' => e = .returned (.tuple #[]) ∧ IsS67 w0 w' g r1 r2 r3 ∧ Below w0.heap.size w0 w' ∧ KeepBut w w' g none := by
 have hu24 := Try.underlying24
 have HI0 := am hI
 have HK := am (KeepBut.refl w g none)
 have HL := am hB.size
 clear hI
 have HW0 := am hB.size
 have HB := am hB
 clear hB
 have H : ((spec_l1Exact.f k a1 a2_0 a3_0).bind fun t155 => ((spec_l8R_add.f k s0_0 s0_1 s0_2 t155).bind fun bt156 => ((spec_l1Exact.f k a1 a2_0 a3_1).bind fun t159 => ((spec_l8R_add.f k bt156.1 bt156.2.1 bt156.2.2 t159).bind fun bt160 => ((spec_l1Exact.f k a1 a2_1 a3_0).bind fun t163 => ((spec_l8R_add.f k bt160.1 bt160.2.1 bt160.2.2 t163).bind fun bt164 => ((spec_l1Exact.f k a1 a2_1 a3_1).bind fun t167 => ((spec_l8R_add.f k bt164.1 bt164.2.1 bt164.2.2 t167).bind fun bt168 => (some (bt168.1, bt168.2.1, bt168.2.2)))))))))) = some (r1, r2, r3) := h
 clear h
 obtain ⟨t155, A5, H⟩ := bd H
 try dsimp only at H
 obtain ⟨⟨t156, t157, t158⟩, A6, H⟩ := bd H
 try dsimp only at H
 obtain ⟨t159, A7, H⟩ := bd H
 try dsimp only at H
 obtain ⟨⟨t160, t161, t162⟩, A8, H⟩ := bd H
 try dsimp only at H
 obtain ⟨t163, A9, H⟩ := bd H
 try dsimp only at H
 obtain ⟨⟨t164, t165, t166⟩, A10, H⟩ := bd H
 try dsimp only at H
 obtain ⟨t167, A11, H⟩ := bd H
 try dsimp only at H
 obtain ⟨⟨t168, t169, t170⟩, A12, H⟩ := bd H
 try dsimp only at H
 simp only [Option.some.injEq, Prod.mk.injEq] at H
 obtain ⟨rfl, rfl, rfl⟩ := H
 go_enter Try.func42, Try.ntmps42
 go_wp2_with (first | ((with_reducible refine gate_dst (N := 6) rfl ?_); refine bx 6 #[.int .i64 a2_0, .int .i64 a2_1] 24 ?_; intro gb153 hg w13 hbox hb; have BK153 := am (hbox); have GW153 := am ((by rw [hg]; exact (keep_size (w := w) (g := g) (row := none) (by repeat (first | (with_reducible first | exact HK.out | apply KeepBut.set_ | apply keep_drewN | apply keep_drew | apply keep_alloc) | exact HK.out))) : w.heap.size ≤ gb153)); have GE153 := am ((Nat.le_trans HW0.out (by rw [hg]; exact (keep_size (w := w) (g := g) (row := none) (by repeat (first | (with_reducible first | exact HK.out | apply KeepBut.set_ | apply keep_drewN | apply keep_drew | apply keep_alloc) | exact HK.out))) : w.heap.size ≤ gb153) : w0.heap.size ≤ gb153)); have NB0_153 := am ((by rw [hg]; exact Nat.ne_of_lt (IsS67.lt (show IsS67 w0 _ g s0_0 s0_1 s0_2 from by repeat (first | (with_reducible first | exact HI0.out | apply IsS67.alloc | apply IsS67.drewN | apply IsS67.drew | apply IsS67.set_0 | apply IsS67.set_1 | apply IsS67.set_2) | exact HI0.out))) : g ≠ gb153)); have NB153_0 := am ((by rw [hg]; exact Nat.ne_of_gt (IsS67.lt (show IsS67 w0 _ g s0_0 s0_1 s0_2 from by repeat (first | (with_reducible first | exact HI0.out | apply IsS67.alloc | apply IsS67.drewN | apply IsS67.drew | apply IsS67.set_0 | apply IsS67.set_1 | apply IsS67.set_2) | exact HI0.out))) : gb153 ≠ g)); replace HK := am (KeepBut.trans (by repeat (first | (with_reducible first | exact HK.out | apply KeepBut.set_ | apply keep_drewN | apply keep_drew | apply keep_alloc) | exact HK.out)) (KeepBut.of_below hb g none) (.inl rfl)); replace HB := am (below_step (by repeat (first | (with_reducible first | exact HB.out | apply below_alloc | apply pw_below_drewN | apply below_drew1 | refine below_set ?_ (IsS67.ge HI0.out)) | exact HB.out)) hb); replace HI0 := am (IsS67.below (by repeat (first | (with_reducible first | exact HI0.out | apply IsS67.alloc | apply IsS67.drewN | apply IsS67.drew | apply IsS67.set_0 | apply IsS67.set_1 | apply IsS67.set_2) | exact HI0.out)) hb); clear hb hbox hg) | ((with_reducible refine gate_dst (N := 7) rfl ?_); refine bx 7 #[.int .i64 a3_0, .int .i64 a3_1] 24 ?_; intro gb154 hg w14 hbox hb; have BK154 := am (hbox); have GW154 := am ((by rw [hg]; exact (keep_size (w := w) (g := g) (row := none) (by repeat (first | (with_reducible first | exact HK.out | apply KeepBut.set_ | apply keep_drewN | apply keep_drew | apply keep_alloc | refine keep_far ?_ GW153.out _) | exact HK.out))) : w.heap.size ≤ gb154)); have GE154 := am ((Nat.le_trans HW0.out (by rw [hg]; exact (keep_size (w := w) (g := g) (row := none) (by repeat (first | (with_reducible first | exact HK.out | apply KeepBut.set_ | apply keep_drewN | apply keep_drew | apply keep_alloc | refine keep_far ?_ GW153.out _) | exact HK.out))) : w.heap.size ≤ gb154) : w0.heap.size ≤ gb154)); obtain ⟨NB153_154,NB154_153⟩ := ne_ hg BK153; have NB0_154 := am ((by rw [hg]; exact Nat.ne_of_lt (IsS67.lt (show IsS67 w0 _ g s0_0 s0_1 s0_2 from by repeat (first | (with_reducible first | exact HI0.out | apply IsS67.alloc | apply IsS67.drewN | apply IsS67.drew | apply IsS67.set_0 | apply IsS67.set_1 | apply IsS67.set_2 | refine IsS67.far ?_ NB0_153.out _) | exact HI0.out))) : g ≠ gb154)); have NB154_0 := am ((by rw [hg]; exact Nat.ne_of_gt (IsS67.lt (show IsS67 w0 _ g s0_0 s0_1 s0_2 from by repeat (first | (with_reducible first | exact HI0.out | apply IsS67.alloc | apply IsS67.drewN | apply IsS67.drew | apply IsS67.set_0 | apply IsS67.set_1 | apply IsS67.set_2 | refine IsS67.far ?_ NB0_153.out _) | exact HI0.out))) : gb154 ≠ g)); replace BK153 := bb BK153 hb; replace HK := am (KeepBut.trans (by repeat (first | (with_reducible first | exact HK.out | apply KeepBut.set_ | apply keep_drewN | apply keep_drew | apply keep_alloc | refine keep_far ?_ GW153.out _) | exact HK.out)) (KeepBut.of_below hb g none) (.inl rfl)); replace HB := am (below_step (by repeat (first | (with_reducible first | exact HB.out | apply below_alloc | apply pw_below_drewN | apply below_drew1 | refine below_set ?_ (IsS67.ge HI0.out) | refine below_set ?_ GE153.out) | exact HB.out)) hb); replace HI0 := am (IsS67.below (by repeat (first | (with_reducible first | exact HI0.out | apply IsS67.alloc | apply IsS67.drewN | apply IsS67.drew | apply IsS67.set_0 | apply IsS67.set_1 | apply IsS67.set_2 | refine IsS67.far ?_ NB0_153.out _) | exact HI0.out)) hb); clear hb hbox hg; obtain ⟨hnb15,hnc15⟩ := nn NB153_154; obtain ⟨hnb16,hnc16⟩ := nn NB153_0; obtain ⟨hcz17_0,hcz17_1,hfz17_0,hfz17_1⟩ := cB2 BK153; obtain ⟨hnb18,hnc18⟩ := nn NB154_0; obtain ⟨hcz19_0,hcz19_1,hfz19_0,hfz19_1⟩ := cB2 BK154) | ((with_reducible refine gate_callee (f := 63) rfl ?_); refine goesL_ (some 14) rfl rfl Try.func63 (by kernel_rfl) rfl #[.int .i64 a1, .int .i64 a2_0, .int .i64 a3_0] rfl mz ?_; (with_reducible refine (spec_l1Exact.calls _ _ _ _ _ _ A5.out).mono ?_); rintro e w' ⟨rfl, ⟨nd, rfl⟩⟩; refine ⟨_, rfl, ?_⟩) | ((with_reducible refine gate_callee (f := 92) rfl ?_); refine goesL_ (some 15) rfl rfl Try.func92 (by kernel_rfl) rfl #[.pointer (some ⟨g, 0, none⟩), .int .i64 t155] rfl mz ?_; (with_reducible refine (spec_l8R_add.calls k g s0_0 s0_1 s0_2 t155 t156 t157 t158 w0 _ ?side1 ?side2 A6.out).mono ?_); (case side1 => repeat (first | (with_reducible first | exact HI0.out | apply IsS67.alloc | apply IsS67.drewN | apply IsS67.drew | apply IsS67.set_0 | apply IsS67.set_1 | apply IsS67.set_2 | refine IsS67.far ?_ NB0_153.out _ | refine IsS67.far ?_ NB0_154.out _) | exact HI0.out)); (case side2 => repeat (first | (with_reducible first | exact HB.out | apply below_alloc | apply pw_below_drewN | apply below_drew1 | refine below_set ?_ (IsS67.ge HI0.out) | refine below_set ?_ GE153.out | refine below_set ?_ GE154.out) | exact HB.out)); rintro e w20 ⟨rfl, hi, hb, hk⟩; refine ⟨_, rfl, ?_⟩; replace BK153 := am (KeepBut.blk hk (g' := gb153) (o := b2 a2_0 a2_1 24) (Z BK153) NB153_0.out (by simp)); replace BK154 := am (KeepBut.blk hk (g' := gb154) (o := b2 a3_0 a3_1 24) (Z BK154) NB154_0.out (by simp)); replace HK := am (KeepBut.trans (by repeat (first | (with_reducible first | exact HK.out | apply KeepBut.set_ | apply keep_drewN | apply keep_drew | apply keep_alloc | refine keep_far ?_ GW153.out _ | refine keep_far ?_ GW154.out _) | exact HK.out)) hk (.inl rfl)); replace HB := am (hb); replace HI0 := am (hi); (try clear hb); obtain ⟨hcz21_0,hcz21_1,hfz21_0,hfz21_1⟩ := cB2 BK153; obtain ⟨hcz22_0,hcz22_1,hfz22_0,hfz22_1⟩ := cB2 BK154) | ((with_reducible refine gate_callee (f := 63) rfl ?_); refine goesL_ (some 22) rfl rfl Try.func63 (by kernel_rfl) rfl #[.int .i64 a1, .int .i64 a2_0, .int .i64 a3_1] rfl mz ?_; (with_reducible refine (spec_l1Exact.calls _ _ _ _ _ _ A7.out).mono ?_); rintro e w' ⟨rfl, ⟨nd, rfl⟩⟩; refine ⟨_, rfl, ?_⟩) | ((with_reducible refine gate_callee (f := 92) rfl ?_); refine goesL_ (some 23) rfl rfl Try.func92 (by kernel_rfl) rfl #[.pointer (some ⟨g, 0, none⟩), .int .i64 t159] rfl mz ?_; (with_reducible refine (spec_l8R_add.calls k g t156 t157 t158 t159 t160 t161 t162 w0 _ ?side1 ?side2 A8.out).mono ?_); (case side1 => repeat (first | (with_reducible first | exact HI0.out | apply IsS67.alloc | apply IsS67.drewN | apply IsS67.drew | apply IsS67.set_0 | apply IsS67.set_1 | apply IsS67.set_2 | refine IsS67.far ?_ NB0_153.out _ | refine IsS67.far ?_ NB0_154.out _) | exact HI0.out)); (case side2 => repeat (first | (with_reducible first | exact HB.out | apply below_alloc | apply pw_below_drewN | apply below_drew1 | refine below_set ?_ (IsS67.ge HI0.out) | refine below_set ?_ GE153.out | refine below_set ?_ GE154.out) | exact HB.out)); rintro e w23 ⟨rfl, hi, hb, hk⟩; refine ⟨_, rfl, ?_⟩; replace BK153 := am (KeepBut.blk hk (g' := gb153) (o := b2 a2_0 a2_1 24) (Z BK153) NB153_0.out (by simp)); replace BK154 := am (KeepBut.blk hk (g' := gb154) (o := b2 a3_0 a3_1 24) (Z BK154) NB154_0.out (by simp)); replace HK := am (KeepBut.trans (by repeat (first | (with_reducible first | exact HK.out | apply KeepBut.set_ | apply keep_drewN | apply keep_drew | apply keep_alloc | refine keep_far ?_ GW153.out _ | refine keep_far ?_ GW154.out _) | exact HK.out)) hk (.inl rfl)); replace HB := am (hb); replace HI0 := am (hi); (try clear hb); obtain ⟨hcz24_0,hcz24_1,hfz24_0,hfz24_1⟩ := cB2 BK153; obtain ⟨hcz25_0,hcz25_1,hfz25_0,hfz25_1⟩ := cB2 BK154) | ((with_reducible refine gate_callee (f := 63) rfl ?_); refine goesL_ (some 30) rfl rfl Try.func63 (by kernel_rfl) rfl #[.int .i64 a1, .int .i64 a2_1, .int .i64 a3_0] rfl mz ?_; (with_reducible refine (spec_l1Exact.calls _ _ _ _ _ _ A9.out).mono ?_); rintro e w' ⟨rfl, ⟨nd, rfl⟩⟩; refine ⟨_, rfl, ?_⟩) | ((with_reducible refine gate_callee (f := 92) rfl ?_); refine goesL_ (some 31) rfl rfl Try.func92 (by kernel_rfl) rfl #[.pointer (some ⟨g, 0, none⟩), .int .i64 t163] rfl mz ?_; (with_reducible refine (spec_l8R_add.calls k g t160 t161 t162 t163 t164 t165 t166 w0 _ ?side1 ?side2 A10.out).mono ?_); (case side1 => repeat (first | (with_reducible first | exact HI0.out | apply IsS67.alloc | apply IsS67.drewN | apply IsS67.drew | apply IsS67.set_0 | apply IsS67.set_1 | apply IsS67.set_2 | refine IsS67.far ?_ NB0_153.out _ | refine IsS67.far ?_ NB0_154.out _) | exact HI0.out)); (case side2 => repeat (first | (with_reducible first | exact HB.out | apply below_alloc | apply pw_below_drewN | apply below_drew1 | refine below_set ?_ (IsS67.ge HI0.out) | refine below_set ?_ GE153.out | refine below_set ?_ GE154.out) | exact HB.out)); rintro e w26 ⟨rfl, hi, hb, hk⟩; refine ⟨_, rfl, ?_⟩; replace BK153 := am (KeepBut.blk hk (g' := gb153) (o := b2 a2_0 a2_1 24) (Z BK153) NB153_0.out (by simp)); replace BK154 := am (KeepBut.blk hk (g' := gb154) (o := b2 a3_0 a3_1 24) (Z BK154) NB154_0.out (by simp)); replace HK := am (KeepBut.trans (by repeat (first | (with_reducible first | exact HK.out | apply KeepBut.set_ | apply keep_drewN | apply keep_drew | apply keep_alloc | refine keep_far ?_ GW153.out _ | refine keep_far ?_ GW154.out _) | exact HK.out)) hk (.inl rfl)); replace HB := am (hb); replace HI0 := am (hi); (try clear hb); obtain ⟨hcz27_0,hcz27_1,hfz27_0,hfz27_1⟩ := cB2 BK153; obtain ⟨hcz28_0,hcz28_1,hfz28_0,hfz28_1⟩ := cB2 BK154) | ((with_reducible refine gate_callee (f := 63) rfl ?_); refine goesL_ (some 38) rfl rfl Try.func63 (by kernel_rfl) rfl #[.int .i64 a1, .int .i64 a2_1, .int .i64 a3_1] rfl mz ?_; (with_reducible refine (spec_l1Exact.calls _ _ _ _ _ _ A11.out).mono ?_); rintro e w' ⟨rfl, ⟨nd, rfl⟩⟩; refine ⟨_, rfl, ?_⟩) | ((with_reducible refine gate_callee (f := 92) rfl ?_); refine goesL_ (some 39) rfl rfl Try.func92 (by kernel_rfl) rfl #[.pointer (some ⟨g, 0, none⟩), .int .i64 t167] rfl mz ?_; (with_reducible refine (spec_l8R_add.calls k g t164 t165 t166 t167 t168 t169 t170 w0 _ ?side1 ?side2 A12.out).mono ?_); (case side1 => repeat (first | (with_reducible first | exact HI0.out | apply IsS67.alloc | apply IsS67.drewN | apply IsS67.drew | apply IsS67.set_0 | apply IsS67.set_1 | apply IsS67.set_2 | refine IsS67.far ?_ NB0_153.out _ | refine IsS67.far ?_ NB0_154.out _) | exact HI0.out)); (case side2 => repeat (first | (with_reducible first | exact HB.out | apply below_alloc | apply pw_below_drewN | apply below_drew1 | refine below_set ?_ (IsS67.ge HI0.out) | refine below_set ?_ GE153.out | refine below_set ?_ GE154.out) | exact HB.out)); rintro e w29 ⟨rfl, hi, hb, hk⟩; refine ⟨_, rfl, ?_⟩; replace BK153 := am (KeepBut.blk hk (g' := gb153) (o := b2 a2_0 a2_1 24) (Z BK153) NB153_0.out (by simp)); replace BK154 := am (KeepBut.blk hk (g' := gb154) (o := b2 a3_0 a3_1 24) (Z BK154) NB154_0.out (by simp)); replace HK := am (KeepBut.trans (by repeat (first | (with_reducible first | exact HK.out | apply KeepBut.set_ | apply keep_drewN | apply keep_drew | apply keep_alloc | refine keep_far ?_ GW153.out _ | refine keep_far ?_ GW154.out _) | exact HK.out)) hk (.inl rfl)); replace HB := am (hb); replace HI0 := am (hi); (try clear hb)))
 first | go_end0 | ((try simp only [Exit.inBlock, Exit.then]); refine bodyPost_ret (results_none rfl _ _ _) rfl ?_)
 exact ⟨ez, by repeat (first | (with_reducible first | exact HI0.out | apply IsS67.alloc | apply IsS67.drewN | apply IsS67.drew | apply IsS67.set_0 | apply IsS67.set_1 | apply IsS67.set_2 | refine IsS67.far ?_ NB0_153.out _ | refine IsS67.far ?_ NB0_154.out _) | exact HI0.out), by repeat (first | (with_reducible first | exact HB.out | apply below_alloc | apply pw_below_drewN | apply below_drew1 | refine below_set ?_ (IsS67.ge HI0.out) | refine below_set ?_ GE153.out | refine below_set ?_ GE154.out) | exact HB.out), by repeat (first | (with_reducible first | exact HK.out | apply KeepBut.set_ | apply keep_drewN | apply keep_drew | apply keep_alloc | refine keep_far ?_ GW153.out _ | refine keep_far ?_ GW154.out _) | exact HK.out)⟩

/-! ### spec_l8Rem: function 89 -/
attribute [local go_sem] Go.Proofs.YthbkakcchgnhpaaSet.isSome_setCell
def spec_l8Rem.j0 : Nat → Int → Bool → Int → Int → Option (Int × Int)
 | 0, _, _, _, _ => none
 | k + 1, x2, x18, x172000, x172001 => if x18 = true then (some (x172000, x172001)) else (if x172000 < 0 then ((spec_l8Max.f x172000 (wrap64 (1 - x2))).bind fun t174 => (if x172001 > 0 then ((spec_l8Min.f x172001 (wrap64 (x2 - 1))).bind fun t175 => (some (t174, t175))) else (some (t174, 0)))) else (if x172001 > 0 then ((spec_l8Min.f x172001 (wrap64 (x2 - 1))).bind fun t176 => (some (0, t176))) else (some (0, 0))))
def spec_l8Rem.f (k : Nat) (a0_0 : Int) (a0_1 : Int) (a1 : Int) (a2 : Int) : Option (Int × Int) := if a0_0 > (wrap64 (-a1)) then (spec_l8Rem.j0 k a2 (decide (a0_1 < a1)) a0_0 a0_1) else (spec_l8Rem.j0 k a2 false a0_0 a0_1)
theorem spec_l8Rem.mono_l : ∀ k, (∀ y0 y1 y2 y3, LeO (spec_l8Rem.j0 k y0 y1 y2 y3) (spec_l8Rem.j0 (k + 1) y0 y1 y2 y3))
 | 0 => fun _ _ _ _ r h => by simp [spec_l8Rem.j0] at h
 | k + 1 => by
  have ih0 := spec_l8Rem.mono_l k
  ·intro y0 y1 y2 y3
   unfold spec_l8Rem.j0
   repeat' first | (with_reducible first | apply ih0 | apply LeO.refl | apply LeO.none | refine LeO.ite ?_ ?_ | refine LeO.bind ?_ (fun _ => ?_)) | apply ih0 | apply LeO.none | refine LeO.ite ?_ ?_ | refine LeO.bind ?_ (fun _ => ?_)
theorem spec_l8Rem.mono : ∀ a0 a1 a2 a3 k, LeO (spec_l8Rem.f k a0 a1 a2 a3) (spec_l8Rem.f (k + 1) a0 a1 a2 a3) := by
 intro a0 a1 a2 a3 k
 have ih0 := spec_l8Rem.mono_l k
 unfold spec_l8Rem.f
 repeat' first | (with_reducible first | apply ih0 | apply LeO.refl | apply LeO.none | refine LeO.ite ?_ ?_ | refine LeO.bind ?_ (fun _ => ?_)) | apply ih0 | apply LeO.none | refine LeO.ite ?_ ?_ | refine LeO.bind ?_ (fun _ => ?_)
set_option maxHeartbeats 8000000 in
set_option maxRecDepth 100000 in
theorem spec_l8Rem.calls (k : Nat) (a0_0 : Int) (a0_1 : Int) (a1 : Int) (a2 : Int) (r1 : Int) (r2 : Int) (w : World) (h : spec_l8Rem.f k a0_0 a0_1 a1 a2 = some (r1, r2)) :
  Calls Try.prog 89 #[.agg #[.int .i64 a0_0, .int .i64 a0_1], .int .i64 a1, .int .i64 a2] w fun e w' => e = .returned (.agg #[.int .i64 r1, .int .i64 r2]) ∧ Below w.heap.size w w' := by
 have hu24 := Try.underlying24
 have HB := am (Below.refl w.heap.size w)
 have H : (if a0_0 > (wrap64 (-a1)) then (spec_l8Rem.j0 k a2 (decide (a0_1 < a1)) a0_0 a0_1) else (spec_l8Rem.j0 k a2 false a0_0 a0_1)) = some (r1, r2) := h
 clear h
 have HC4 := am H
 clear H
 go_enter Try.func89, Try.ntmps89
 go_upto_region 1 with (first | ((with_reducible refine gate_dst (N := 3) rfl ?_); refine bx 3 #[.int .i64 a0_0, .int .i64 a0_1] 24 ?_; intro gb171 hg w5 hbox hb; have BK171 := am (hbox); have GW171 := am (bs hg (YA HB)); have GE171 := GW171; replace HB := am (below_step (YA HB) hb); clear hb hbox hg) | ((with_reducible refine gate_dst (N := 6) rfl ?_); refine bx 6 #[.int .i64 0, .int .i64 0] 24 ?_; intro gb172 hg w6 hbox hb; have BK172 := am (hbox); have GW172 := am (bs hg (YA HB)); have GE172 := GW172; obtain ⟨NB171_172,NB172_171⟩ := ne_ hg BK171; obtain ⟨BK171, HB⟩ := bk1 BK171 HB hb; clear hb hbox hg))
 (try simp only [Act.put, List.setIfInBounds_toArray, List.set_cons_zero, List.set_cons_succ])
 go_cut [18] (fun v18 wc => ∃ (kq : Nat) (x18_3 : Bool), v18 = .bool x18_3 ∧ Aside0 (spec_l8Rem.j0 kq a2 x18_3 a0_0 a0_1 = some (r1, r2)) ∧ Aside0 (kq ≤ k) ∧ Bx2 wc gb171 a0_0 a0_1 24 ∧ Bx2 wc gb172 0 0 24 ∧ Aside0 (Below w.heap.size w wc))
 case first =>
  have H := HC4.out
  clear HC4
  by_cases c7 : a0_0 > (wrap64 (-a1))
  rotate_left
  ·rw [if_neg c7] at H
   have c7b0 := dF c7
   clear c7
   (first | rw [c7b0] | (simp only [i64_w, i32_w]; rw [c7b0]) | skip)
   have H' := am H
   clear H
   obtain ⟨hnb10,hnc10⟩ := nn NB171_172
   obtain ⟨hcz11_0,hcz11_1,hfz11_0,hfz11_1⟩ := cB2 BK171
   go_wp2
   go_meet
   case rel => exact ⟨_, (false), ey, H', le0, ⟨Z BK171⟩, ⟨Z BK172⟩, ⟨YA HB⟩⟩
  rw [if_pos c7] at H
  have c7b0 := dT c7
  clear c7
  (first | rw [c7b0] | (simp only [i64_w, i32_w]; rw [c7b0]) | skip)
  have H' := am H
  clear H
  obtain ⟨hnb8,hnc8⟩ := nn NB171_172
  obtain ⟨hcz9_0,hcz9_1,hfz9_0,hfz9_1⟩ := cB2 BK171
  go_wp2
  go_meet
  case rel => exact ⟨_, (decide (a0_1 < a1)), ey, H', le0, ⟨Z BK171⟩, ⟨Z BK172⟩, ⟨YA HB⟩⟩
 case rest =>
  clear HC4
  obtain ⟨kq, x18_3, rfl, HA, HJ3, BK171, BK172, HB⟩ := hcut
  cases kq with
  | zero => exact absurd HA.out (by simp [spec_l8Rem.j0])
  | succ kj3 =>
   have H := HA.out
   clear HA
   simp only [spec_l8Rem.j0] at H
   by_cases c12 : x18_3 = true
   ·subst c12
    rw [if_pos rfl] at H
    simp only [Option.some.injEq, Prod.mk.injEq] at H
    obtain ⟨rfl, rfl⟩ := H
    obtain ⟨hnb13,hnc13⟩ := nn NB171_172
    obtain ⟨hcz14_0,hcz14_1,hfz14_0,hfz14_1⟩ := cB2 BK171
    obtain ⟨hcz15_0,hcz15_1,hfz15_0,hfz15_1⟩ := cB2 BK172
    go_wp2
    refine bodyPost_ret (results_cell_row rfl _ _ gb172 24 #[.int .i64 a0_0, .int .i64 a0_1] (0, 0) _ rfl (by refine pf ?_; refine blk_put (cs := #[.int .i64 a0_0, .int .i64 0]) ?_ 1 _ rfl; refine pf ?_; refine blk_put (cs := #[.int .i64 0, .int .i64 0]) ?_ 0 _ rfl; exact Z BK172) Try.underlying24 rfl (by kernel_rfl)) rfl ?_
    exact ⟨ez, YA HB⟩
   replace c12 := Bool.eq_false_iff.mpr c12
   subst c12
   rw [if_neg ff] at H
   by_cases c16 : a0_0 < 0
   rotate_left
   ·rw [if_neg c16] at H
    have c16b0 := dF c16
    clear c16
    by_cases c34 : a0_1 > 0
    rotate_left
    ·rw [if_neg c34] at H
     have c34b0 := dF c34
     clear c34
     simp only [Option.some.injEq, Prod.mk.injEq] at H
     obtain ⟨rfl, rfl⟩ := H
     go_wp2_with (first | ((with_reducible refine gate_dst (N := 7) rfl ?_); refine bx 7 #[.int .i64 0, .int .i64 0] 24 ?_; intro gb173 hg w43 hbox hb; have BK173 := am (hbox); have GW173 := am (bs hg (YA HB)); have GE173 := GW173; obtain ⟨NB171_173,NB173_171⟩ := ne_ hg BK171; obtain ⟨NB172_173,NB173_172⟩ := ne_ hg BK172; obtain ⟨BK171, BK172, HB⟩ := bk2 BK171 BK172 HB hb; clear hb hbox hg; obtain ⟨hnb44,hnc44⟩ := nn NB173_171; obtain ⟨hnb45,hnc45⟩ := nn NB173_172; obtain ⟨hcz46_0,hcz46_1,hfz46_0,hfz46_1⟩ := cB2 BK173; obtain ⟨hnb47,hnc47⟩ := nn NB171_172; obtain ⟨hcz48_0,hcz48_1,hfz48_0,hfz48_1⟩ := cB2 BK171; obtain ⟨hcz49_0,hcz49_1,hfz49_0,hfz49_1⟩ := cB2 BK172))
     refine bodyPost_ret (results_cell_row rfl _ _ gb172 24 #[.int .i64 0, .int .i64 0] (0, 0) _ rfl (by refine pf ?_; refine blk_put (cs := #[.int .i64 0, .int .i64 0]) ?_ 1 _ rfl; refine pf ?_; refine blk_put (cs := #[.int .i64 0, .int .i64 0]) ?_ 0 _ rfl; refine fa NB172_173 ?_; refine fa NB172_173 ?_; exact Z BK172) Try.underlying24 rfl (by kernel_rfl)) rfl ?_
     exact ⟨ez, YA HB⟩
    rw [if_pos c34] at H
    have c34b0 := dT c34
    clear c34
    obtain ⟨t176, A35, H⟩ := bd H
    try dsimp only at H
    simp only [Option.some.injEq, Prod.mk.injEq] at H
    obtain ⟨rfl, rfl⟩ := H
    go_wp2_with (first | ((with_reducible refine gate_dst (N := 7) rfl ?_); refine bx 7 #[.int .i64 0, .int .i64 0] 24 ?_; intro gb173 hg w36 hbox hb; have BK173 := am (hbox); have GW173 := am (bs hg (YA HB)); have GE173 := GW173; obtain ⟨NB171_173,NB173_171⟩ := ne_ hg BK171; obtain ⟨NB172_173,NB173_172⟩ := ne_ hg BK172; obtain ⟨BK171, BK172, HB⟩ := bk2 BK171 BK172 HB hb; clear hb hbox hg; obtain ⟨hnb37,hnc37⟩ := nn NB173_171; obtain ⟨hnb38,hnc38⟩ := nn NB173_172; obtain ⟨hcz39_0,hcz39_1,hfz39_0,hfz39_1⟩ := cB2 BK173; obtain ⟨hnb40,hnc40⟩ := nn NB171_172; obtain ⟨hcz41_0,hcz41_1,hfz41_0,hfz41_1⟩ := cB2 BK171) | ((with_reducible refine gate_callee (f := 68) rfl ?_); refine goesL_ (some 37) rfl rfl Try.func68 (by kernel_rfl) rfl #[.int .i64 a0_1, .int .i64 (wrap64 (a2 - 1))] rfl mz ?_; (with_reducible refine (spec_l8Min.calls _ _ _ _ A35.out).mono ?_); rintro e w' ⟨rfl, ⟨nd, rfl⟩⟩; refine ⟨_, rfl, ?_⟩; obtain ⟨hcz42_0,hcz42_1,hfz42_0,hfz42_1⟩ := cB2 BK172))
    refine bodyPost_ret (results_cell_row rfl _ _ gb172 24 #[.int .i64 0, .int .i64 t176] (0, 0) _ rfl (by refine pf ?_; refine blk_put (cs := #[.int .i64 0, .int .i64 0]) ?_ 1 _ rfl; refine pf ?_; refine blk_put (cs := #[.int .i64 0, .int .i64 0]) ?_ 0 _ rfl; refine fa NB172_173 ?_; refine fa NB172_173 ?_; refine fa NB172_173 ?_; exact Z BK172) Try.underlying24 rfl (by kernel_rfl)) rfl ?_
    exact ⟨ez, YA HB⟩
   rw [if_pos c16] at H
   have c16b0 := dT c16
   clear c16
   obtain ⟨t174, A17, H⟩ := bd H
   try dsimp only at H
   by_cases c18 : a0_1 > 0
   rotate_left
   ·rw [if_neg c18] at H
    have c18b0 := dF c18
    clear c18
    simp only [Option.some.injEq, Prod.mk.injEq] at H
    obtain ⟨rfl, rfl⟩ := H
    go_wp2_with (first | ((with_reducible refine gate_dst (N := 7) rfl ?_); refine bx 7 #[.int .i64 0, .int .i64 0] 24 ?_; intro gb173 hg w27 hbox hb; have BK173 := am (hbox); have GW173 := am (bs hg (YA HB)); have GE173 := GW173; obtain ⟨NB171_173,NB173_171⟩ := ne_ hg BK171; obtain ⟨NB172_173,NB173_172⟩ := ne_ hg BK172; obtain ⟨BK171, BK172, HB⟩ := bk2 BK171 BK172 HB hb; clear hb hbox hg; obtain ⟨hnb28,hnc28⟩ := nn NB173_171; obtain ⟨hnb29,hnc29⟩ := nn NB173_172; obtain ⟨hcz30_0,hcz30_1,hfz30_0,hfz30_1⟩ := cB2 BK173; obtain ⟨hnb31,hnc31⟩ := nn NB171_172; obtain ⟨hcz32_0,hcz32_1,hfz32_0,hfz32_1⟩ := cB2 BK171) | ((with_reducible refine gate_callee (f := 69) rfl ?_); refine goesL_ (some 28) rfl rfl Try.func69 (by kernel_rfl) rfl #[.int .i64 a0_0, .int .i64 (wrap64 (1 - a2))] rfl mz ?_; (with_reducible refine (spec_l8Max.calls _ _ _ _ A17.out).mono ?_); rintro e w' ⟨rfl, ⟨nd, rfl⟩⟩; refine ⟨_, rfl, ?_⟩; obtain ⟨hcz33_0,hcz33_1,hfz33_0,hfz33_1⟩ := cB2 BK172))
    refine bodyPost_ret (results_cell_row rfl _ _ gb172 24 #[.int .i64 t174, .int .i64 0] (0, 0) _ rfl (by refine pf ?_; refine blk_put (cs := #[.int .i64 t174, .int .i64 0]) ?_ 1 _ rfl; refine pf ?_; refine blk_put (cs := #[.int .i64 0, .int .i64 0]) ?_ 0 _ rfl; refine fa NB172_173 ?_; refine fa NB172_173 ?_; refine fa NB172_173 ?_; exact Z BK172) Try.underlying24 rfl (by kernel_rfl)) rfl ?_
    exact ⟨ez, YA HB⟩
   rw [if_pos c18] at H
   have c18b0 := dT c18
   clear c18
   obtain ⟨t175, A19, H⟩ := bd H
   try dsimp only at H
   simp only [Option.some.injEq, Prod.mk.injEq] at H
   obtain ⟨rfl, rfl⟩ := H
   go_wp2_with (first | ((with_reducible refine gate_dst (N := 7) rfl ?_); refine bx 7 #[.int .i64 0, .int .i64 0] 24 ?_; intro gb173 hg w20 hbox hb; have BK173 := am (hbox); have GW173 := am (bs hg (YA HB)); have GE173 := GW173; obtain ⟨NB171_173,NB173_171⟩ := ne_ hg BK171; obtain ⟨NB172_173,NB173_172⟩ := ne_ hg BK172; obtain ⟨BK171, BK172, HB⟩ := bk2 BK171 BK172 HB hb; clear hb hbox hg; obtain ⟨hnb21,hnc21⟩ := nn NB173_171; obtain ⟨hnb22,hnc22⟩ := nn NB173_172; obtain ⟨hcz23_0,hcz23_1,hfz23_0,hfz23_1⟩ := cB2 BK173; obtain ⟨hnb24,hnc24⟩ := nn NB171_172; obtain ⟨hcz25_0,hcz25_1,hfz25_0,hfz25_1⟩ := cB2 BK171) | ((with_reducible refine gate_callee (f := 69) rfl ?_); refine goesL_ (some 28) rfl rfl Try.func69 (by kernel_rfl) rfl #[.int .i64 a0_0, .int .i64 (wrap64 (1 - a2))] rfl mz ?_; (with_reducible refine (spec_l8Max.calls _ _ _ _ A17.out).mono ?_); rintro e w' ⟨rfl, ⟨nd, rfl⟩⟩; refine ⟨_, rfl, ?_⟩) | ((with_reducible refine gate_callee (f := 68) rfl ?_); refine goesL_ (some 37) rfl rfl Try.func68 (by kernel_rfl) rfl #[.int .i64 a0_1, .int .i64 (wrap64 (a2 - 1))] rfl mz ?_; (with_reducible refine (spec_l8Min.calls _ _ _ _ A19.out).mono ?_); rintro e w' ⟨rfl, ⟨nd, rfl⟩⟩; refine ⟨_, rfl, ?_⟩; obtain ⟨hcz26_0,hcz26_1,hfz26_0,hfz26_1⟩ := cB2 BK172))
   refine bodyPost_ret (results_cell_row rfl _ _ gb172 24 #[.int .i64 t174, .int .i64 t175] (0, 0) _ rfl (by refine pf ?_; refine blk_put (cs := #[.int .i64 t174, .int .i64 0]) ?_ 1 _ rfl; refine pf ?_; refine blk_put (cs := #[.int .i64 0, .int .i64 0]) ?_ 0 _ rfl; refine fa NB172_173 ?_; refine fa NB172_173 ?_; refine fa NB172_173 ?_; refine fa NB172_173 ?_; exact Z BK172) Try.underlying24 rfl (by kernel_rfl)) rfl ?_
   exact ⟨ez, YA HB⟩

end Go.Proofs.Ythbkakcchgnhpaa.PFnRangeFaults
