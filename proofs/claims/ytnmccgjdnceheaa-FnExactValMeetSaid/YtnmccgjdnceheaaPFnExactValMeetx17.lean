/- Written by this session's own driver (wip/dprint.py): the functions that the law FnExactValMeet reaches, as Lean functions, each with its contract. -/
import Derived.Test.YtnmccgjdnceheaaPFnExactValMeetx0
import Derived.Test.YtnmccgjdnceheaaPFnExactValMeetx12
import Derived.Test.YtnmccgjdnceheaaPFnExactValMeetx13
import Derived.Test.YtnmccgjdnceheaaPFnExactValMeetx15
import Derived.Test.YtnmccgjdnceheaaPFnExactValMeetx16
import Derived.Test.YtnmccgjdnceheaaSv
namespace Go.Proofs.Ytnmccgjdnceheaa.PFnExactValMeet
open Go.RowKit Go.Proofs.YtnmccgjdnceheaaV.PrintWords Go.Proofs.YtnmccgjdnceheaaV.PrintLast Go.Proofs.YtnmccgjdnceheaaV.PrintMore Go.Proofs.YtnmccgjdnceheaaSv
attribute [local go_sem] max2_int min2_int max_two min_two max_three min_three max_four min_four   -- for this text's walks alone
set_option linter.unusedVariables false
set_option linter.unusedSimpArgs false

/-! ### impl_ValMeet: function 24 -/
def impl_ValMeet.j0 : Nat → Bool → Int → Int → Int → Int → Int → Int → Int → Int → Option (Int × Int × Int × Int)
 | 0, _, _, _, _, _, _, _, _, _ => none
 | k + 1, x22, x343000, x343001, x343002, x343003, x344000, x344001, x344002, x344003 => if x22 = true then ((impl_valNone.f).bind fun bt349 => (some (bt349.1, bt349.2.1, bt349.2.2.1, bt349.2.2.2))) else ((impl_Val_rest.f x343000 x343001 x343002 x343003).bind fun bt353 => ((impl_Val_rest.f x344000 x344001 x344002 x344003).bind fun bt355 => ((impl_RestMeet.f k bt353.1 bt353.2 bt355.1 bt355.2).bind fun bt357 => (if bt357.2.2 = true then ((impl_Val_span.f x343000 x343001 x343002 x343003).bind fun bt365 => ((impl_Val_span.f x344000 x344001 x344002 x344003).bind fun bt367 => ((impl_RangeMeet.f k bt365.1 bt365.2 bt367.1 bt367.2).bind fun bt369 => ((impl_ValMake.f k bt369.1 bt369.2 bt357.1 bt357.2.1).bind fun bt371 => (some (bt371.1, bt371.2.1, bt371.2.2.1, bt371.2.2.2)))))) else ((impl_valNone.f).bind fun bt361 => (some (bt361.1, bt361.2.1, bt361.2.2.1, bt361.2.2.2)))))))
def impl_ValMeet.f (k : Nat) (a0_0 : Int) (a0_1 : Int) (a0_2 : Int) (a0_3 : Int) (a1_0 : Int) (a1_1 : Int) (a1_2 : Int) (a1_3 : Int) : Option (Int × Int × Int × Int) := (impl_ValOk.f k a0_0 a0_1 a0_2 a0_3).bind fun t345 => (if t345 = true then ((impl_ValOk.f k a1_0 a1_1 a1_2 a1_3).bind fun t346 => (if t346 = true then ((impl_Val_none.f a0_0 a0_1 a0_2 a0_3).bind fun t347 => (if t347 = true then (impl_ValMeet.j0 k true a0_0 a0_1 a0_2 a0_3 a1_0 a1_1 a1_2 a1_3) else ((impl_Val_none.f a1_0 a1_1 a1_2 a1_3).bind fun t348 => (impl_ValMeet.j0 k t348 a0_0 a0_1 a0_2 a0_3 a1_0 a1_1 a1_2 a1_3)))) else (impl_ValMeet.j0 k true a0_0 a0_1 a0_2 a0_3 a1_0 a1_1 a1_2 a1_3))) else (impl_ValMeet.j0 k true a0_0 a0_1 a0_2 a0_3 a1_0 a1_1 a1_2 a1_3))
theorem impl_ValMeet.mono_l : ∀ k, (∀ y0 y1 y2 y3 y4 y5 y6 y7 y8, LeO (impl_ValMeet.j0 k y0 y1 y2 y3 y4 y5 y6 y7 y8) (impl_ValMeet.j0 (k + 1) y0 y1 y2 y3 y4 y5 y6 y7 y8))
 | 0 => fun _ _ _ _ _ _ _ _ _ r h => by simp [impl_ValMeet.j0] at h
 | k + 1 => by
  have ih0 := impl_ValMeet.mono_l k
  ·intro y0 y1 y2 y3 y4 y5 y6 y7 y8
   unfold impl_ValMeet.j0
   repeat' first
   | (with_reducible exact ih0 _ _ _ _ _ _ _ _ _)
   | (with_reducible exact impl_RangeMeet.mono _ _ _ _ _)
   | (with_reducible exact impl_RestMeet.mono _ _ _ _ _)
   | (with_reducible exact impl_ValMake.mono _ _ _ _ _)
   | (with_reducible exact impl_ValOk.mono _ _ _ _ _)
   | (with_reducible exact LeO.refl _)
   | (with_reducible exact LeO.none _)
   | (with_reducible refine LeO.ite ?_ ?_)
   | (with_reducible refine LeO.bind ?_ (fun _ => ?_))
   | exact ih0 _ _ _ _ _ _ _ _ _
   | exact impl_RangeMeet.mono _ _ _ _ _
   | exact impl_RestMeet.mono _ _ _ _ _
   | exact impl_ValMake.mono _ _ _ _ _
   | exact impl_ValOk.mono _ _ _ _ _
   | exact LeO.none _
   | refine LeO.ite ?_ ?_
   | refine LeO.bind ?_ (fun _ => ?_)
theorem impl_ValMeet.mono : ∀ a0 a1 a2 a3 a4 a5 a6 a7 k, LeO (impl_ValMeet.f k a0 a1 a2 a3 a4 a5 a6 a7) (impl_ValMeet.f (k + 1) a0 a1 a2 a3 a4 a5 a6 a7) := by
 intro a0 a1 a2 a3 a4 a5 a6 a7 k
 have ih0 := impl_ValMeet.mono_l k
 unfold impl_ValMeet.f
 repeat' first
   | (with_reducible exact ih0 _ _ _ _ _ _ _ _ _)
   | (with_reducible exact impl_RangeMeet.mono _ _ _ _ _)
   | (with_reducible exact impl_RestMeet.mono _ _ _ _ _)
   | (with_reducible exact impl_ValMake.mono _ _ _ _ _)
   | (with_reducible exact impl_ValOk.mono _ _ _ _ _)
   | (with_reducible exact LeO.refl _)
   | (with_reducible exact LeO.none _)
   | (with_reducible refine LeO.ite ?_ ?_)
   | (with_reducible refine LeO.bind ?_ (fun _ => ?_))
   | exact ih0 _ _ _ _ _ _ _ _ _
   | exact impl_RangeMeet.mono _ _ _ _ _
   | exact impl_RestMeet.mono _ _ _ _ _
   | exact impl_ValMake.mono _ _ _ _ _
   | exact impl_ValOk.mono _ _ _ _ _
   | exact LeO.none _
   | refine LeO.ite ?_ ?_
   | refine LeO.bind ?_ (fun _ => ?_)
def impl_ValMeet.T3 : Bool × List (List Nat × List Nat) := (true, [([], []), ([0], [0]), ([], []), ([2, 1], [2]), ([1, 3, 3], [1, 3]), ([4], [4]), ([5], [5]), ([5], [5]), ([], []), ([8, 6, 4, 0, 1, 2, 3, 4, 5, 6, 8], [6, 8]), ([7, 9, 0, 1, 2, 3, 4, 5, 6, 7, 8, 9], [7])])
def impl_ValMeet.B3 : List Nat := [0, 1, 0, 7, 15, 31, 63, 63, 0, 383, 1023]
theorem impl_ValMeet.tab3 : rtab .any (opsOf Try.f24 3) = impl_ValMeet.T3 := by kernel_rfl
theorem impl_ValMeet.bits3 : waitsOk impl_ValMeet.T3.2 impl_ValMeet.B3 = true := by kernel_rfl
def impl_ValMeet.T6 : Bool × List (List Nat × List Nat) := (true, [([], []), ([0], [0]), ([], []), ([2, 1], [2]), ([1, 3, 3], [1, 3]), ([], []), ([4, 5, 4], [4, 5]), ([6, 6, 0, 1, 2, 3, 4, 5, 6], [6])])
def impl_ValMeet.B6 : List Nat := [0, 1, 0, 7, 15, 0, 63, 127]
theorem impl_ValMeet.tab6 : rtab .any (opsOf Try.f24 6) = impl_ValMeet.T6 := by kernel_rfl
theorem impl_ValMeet.bits6 : waitsOk impl_ValMeet.T6.2 impl_ValMeet.B6 = true := by kernel_rfl
set_option maxHeartbeats 8000000 in
set_option maxRecDepth 100000 in
theorem impl_ValMeet.calls (k : Nat) (a0_0 : Int) (a0_1 : Int) (a0_2 : Int) (a0_3 : Int) (a1_0 : Int) (a1_1 : Int) (a1_2 : Int) (a1_3 : Int) (r1 : Int) (r2 : Int) (r3 : Int) (r4 : Int) (w : World) (h : impl_ValMeet.f k a0_0 a0_1 a0_2 a0_3 a1_0 a1_1 a1_2 a1_3 = some (r1, r2, r3, r4)) :
  Calls Try.prog 24 #[.agg #[.int .i64 a0_0, .int .i64 a0_1, .int .i64 a0_2, .int .i64 a0_3], .agg #[.int .i64 a1_0, .int .i64 a1_1, .int .i64 a1_2, .int .i64 a1_3]] w fun e w' => e = .returned (.agg #[.int .i64 r1, .int .i64 r2, .int .i64 r3, .int .i64 r4]) ∧ Below w.heap.size w w' := by
 have hu25 := Try.underlying25
 have hu90 := Try.underlying90
 have HB := Aside0.mk (Below.refl w.heap.size w)
 have H : ((impl_ValOk.f k a0_0 a0_1 a0_2 a0_3).bind fun t345 => (if t345 = true then ((impl_ValOk.f k a1_0 a1_1 a1_2 a1_3).bind fun t346 => (if t346 = true then ((impl_Val_none.f a0_0 a0_1 a0_2 a0_3).bind fun t347 => (if t347 = true then (impl_ValMeet.j0 k true a0_0 a0_1 a0_2 a0_3 a1_0 a1_1 a1_2 a1_3) else ((impl_Val_none.f a1_0 a1_1 a1_2 a1_3).bind fun t348 => (impl_ValMeet.j0 k t348 a0_0 a0_1 a0_2 a0_3 a1_0 a1_1 a1_2 a1_3)))) else (impl_ValMeet.j0 k true a0_0 a0_1 a0_2 a0_3 a1_0 a1_1 a1_2 a1_3))) else (impl_ValMeet.j0 k true a0_0 a0_1 a0_2 a0_3 a1_0 a1_1 a1_2 a1_3))) = some (r1, r2, r3, r4) := h
 clear h
 have HC3 := Aside0.mk H
 clear H
 go_enter Try.func24, Try.ntmps24
 go_upto_region 1 with (first | ((with_reducible refine gate_dst (N := 2) rfl ?_); refine box_event ?hg (N := 2) ?hd (cs := #[.int .i64 a0_0, .int .i64 a0_1, .int .i64 a0_2, .int .i64 a0_3]) (t := 25) ?hr ?_; (case hd => rfl); (case hg => rfl); (case hr => first | (go_simp; done) | (go_simp; rfl)); intro gb342 hg w4 hbox hb; have n0_ := Aside0.mk (below_step (hz HB.out) hb); have n1_ := Aside0.mk (hbox); have n2_ := Aside0.mk ((by rw [hg]; exact (below_size (hz HB.out)) : w.heap.size ≤ gb342)); have n3_ := Aside0.mk ((by rw [hg]; exact (below_size (hz HB.out)) : w.heap.size ≤ gb342)); clear HB; have HB := n0_; have BK342 := n1_; have GW342 := n2_; have GE342 := n3_; clear n0_ n1_ n2_ n3_; clear hb hbox hg) | ((with_reducible refine gate_dst (N := 3) rfl ?_); refine box_event ?hg (N := 3) ?hd (cs := #[.int .i64 a1_0, .int .i64 a1_1, .int .i64 a1_2, .int .i64 a1_3]) (t := 25) ?hr ?_; (case hd => rfl); (case hg => rfl); (case hr => first | (go_simp; done) | (go_simp; rfl)); intro gb343 hg w5 hbox hb; have n0_ := Aside0.mk (blk_below (g := gb342) (o := b4 a0_0 a0_1 a0_2 a0_3 25) (bz BK342.out) hb); have n1_ := Aside0.mk (below_step (hz1 HB.out GE342.out) hb); have n2_ := Aside0.mk (hbox); have n3_ := Aside0.mk ((by rw [hg]; exact (below_size (hz1 HB.out GE342.out)) : w.heap.size ≤ gb343)); have n4_ := Aside0.mk ((by rw [hg]; exact (below_size (hz1 HB.out GE342.out)) : w.heap.size ≤ gb343)); have n5_ := Aside0.mk ((by rw [hg]; exact Nat.ne_of_lt (blk_lt (g := gb342) (o := b4 a0_0 a0_1 a0_2 a0_3 25) (bz BK342.out)) : gb342 ≠ gb343)); have n6_ := Aside0.mk ((by rw [hg]; exact Nat.ne_of_gt (blk_lt (g := gb342) (o := b4 a0_0 a0_1 a0_2 a0_3 25) (bz BK342.out)) : gb343 ≠ gb342)); clear BK342; clear HB; have BK342 := n0_; have HB := n1_; have BK343 := n2_; have GW343 := n3_; have GE343 := n4_; have NB342_343 := n5_; have NB343_342 := n6_; clear n0_ n1_ n2_ n3_ n4_ n5_ n6_; clear hb hbox hg) | ((with_reducible refine gate_dst (N := 4) rfl ?_); refine box_event ?hg (N := 4) ?hd (cs := #[.int .i64 0, .int .i64 0, .int .i64 0, .int .i64 0]) (t := 25) ?hr ?_; (case hd => rfl); (case hg => rfl); (case hr => first | (go_simp; done) | (go_simp; rfl)); intro gb344 hg w6 hbox hb; have n0_ := Aside0.mk (blk_below (g := gb342) (o := b4 a0_0 a0_1 a0_2 a0_3 25) (bz BK342.out) hb); have n1_ := Aside0.mk (blk_below (g := gb343) (o := b4 a1_0 a1_1 a1_2 a1_3 25) (bz BK343.out) hb); have n2_ := Aside0.mk (below_step (hz2 HB.out GE342.out GE343.out) hb); have n3_ := Aside0.mk (hbox); have n4_ := Aside0.mk ((by rw [hg]; exact (below_size (hz2 HB.out GE342.out GE343.out)) : w.heap.size ≤ gb344)); have n5_ := Aside0.mk ((by rw [hg]; exact (below_size (hz2 HB.out GE342.out GE343.out)) : w.heap.size ≤ gb344)); have n6_ := Aside0.mk ((by rw [hg]; exact Nat.ne_of_lt (blk_lt (g := gb342) (o := b4 a0_0 a0_1 a0_2 a0_3 25) (bz BK342.out)) : gb342 ≠ gb344)); have n7_ := Aside0.mk ((by rw [hg]; exact Nat.ne_of_gt (blk_lt (g := gb342) (o := b4 a0_0 a0_1 a0_2 a0_3 25) (bz BK342.out)) : gb344 ≠ gb342)); have n8_ := Aside0.mk ((by rw [hg]; exact Nat.ne_of_lt (blk_lt (g := gb343) (o := b4 a1_0 a1_1 a1_2 a1_3 25) (bz BK343.out)) : gb343 ≠ gb344)); have n9_ := Aside0.mk ((by rw [hg]; exact Nat.ne_of_gt (blk_lt (g := gb343) (o := b4 a1_0 a1_1 a1_2 a1_3 25) (bz BK343.out)) : gb344 ≠ gb343)); clear BK342; clear BK343; clear HB; have BK342 := n0_; have BK343 := n1_; have HB := n2_; have BK344 := n3_; have GW344 := n4_; have GE344 := n5_; have NB342_344 := n6_; have NB344_342 := n7_; have NB343_344 := n8_; have NB344_343 := n9_; clear n0_ n1_ n2_ n3_ n4_ n5_ n6_ n7_ n8_ n9_; clear hb hbox hg))
 (try simp only [Act.put, List.setIfInBounds_toArray, List.set_cons_zero, List.set_cons_succ])
 go_cut [22] (fun v22 wc => ∃ (kq : Nat) (x22_2 : Bool), v22 = .bool x22_2 ∧ Aside0 (impl_ValMeet.j0 kq x22_2 a0_0 a0_1 a0_2 a0_3 a1_0 a1_1 a1_2 a1_3 = some (r1, r2, r3, r4)) ∧ Aside0 (kq ≤ k) ∧ Aside0 (wc.heap[gb342]? = some (.cells #[.int .i64 a0_0, .int .i64 a0_1, .int .i64 a0_2, .int .i64 a0_3] 25 (0, 0))) ∧ Aside0 (wc.heap[gb343]? = some (.cells #[.int .i64 a1_0, .int .i64 a1_1, .int .i64 a1_2, .int .i64 a1_3] 25 (0, 0))) ∧ Aside0 (wc.heap[gb344]? = some (.cells #[.int .i64 0, .int .i64 0, .int .i64 0, .int .i64 0] 25 (0, 0))) ∧ Aside0 (Below w.heap.size w wc))
 case first =>
  have H := HC3.out
  clear HC3
  replace H := Option.bind_eq_some_iff.mp H
  obtain ⟨t345, A70, H⟩ := H
  replace H : (if t345 = true then ((impl_ValOk.f k a1_0 a1_1 a1_2 a1_3).bind fun t346 => (if t346 = true then ((impl_Val_none.f a0_0 a0_1 a0_2 a0_3).bind fun t347 => (if t347 = true then (impl_ValMeet.j0 k true a0_0 a0_1 a0_2 a0_3 a1_0 a1_1 a1_2 a1_3) else ((impl_Val_none.f a1_0 a1_1 a1_2 a1_3).bind fun t348 => (impl_ValMeet.j0 k t348 a0_0 a0_1 a0_2 a0_3 a1_0 a1_1 a1_2 a1_3)))) else (impl_ValMeet.j0 k true a0_0 a0_1 a0_2 a0_3 a1_0 a1_1 a1_2 a1_3))) else (impl_ValMeet.j0 k true a0_0 a0_1 a0_2 a0_3 a1_0 a1_1 a1_2 a1_3)) = some (r1, r2, r3, r4) := H
  have A7 := Aside0.mk A70
  clear A70
  by_cases c8 : t345 = true
  ·subst c8
   have H1 : ((impl_ValOk.f k a1_0 a1_1 a1_2 a1_3).bind fun t346 => (if t346 = true then ((impl_Val_none.f a0_0 a0_1 a0_2 a0_3).bind fun t347 => (if t347 = true then (impl_ValMeet.j0 k true a0_0 a0_1 a0_2 a0_3 a1_0 a1_1 a1_2 a1_3) else ((impl_Val_none.f a1_0 a1_1 a1_2 a1_3).bind fun t348 => (impl_ValMeet.j0 k t348 a0_0 a0_1 a0_2 a0_3 a1_0 a1_1 a1_2 a1_3)))) else (impl_ValMeet.j0 k true a0_0 a0_1 a0_2 a0_3 a1_0 a1_1 a1_2 a1_3))) = some (r1, r2, r3, r4) := by rw [if_pos rfl] at H; exact H
   clear H
   have H := H1
   clear H1
   replace H := Option.bind_eq_some_iff.mp H
   obtain ⟨t346, A90, H⟩ := H
   replace H : (if t346 = true then ((impl_Val_none.f a0_0 a0_1 a0_2 a0_3).bind fun t347 => (if t347 = true then (impl_ValMeet.j0 k true a0_0 a0_1 a0_2 a0_3 a1_0 a1_1 a1_2 a1_3) else ((impl_Val_none.f a1_0 a1_1 a1_2 a1_3).bind fun t348 => (impl_ValMeet.j0 k t348 a0_0 a0_1 a0_2 a0_3 a1_0 a1_1 a1_2 a1_3)))) else (impl_ValMeet.j0 k true a0_0 a0_1 a0_2 a0_3 a1_0 a1_1 a1_2 a1_3)) = some (r1, r2, r3, r4) := H
   have A9 := Aside0.mk A90
   clear A90
   by_cases c10 : t346 = true
   ·subst c10
    have H1 : ((impl_Val_none.f a0_0 a0_1 a0_2 a0_3).bind fun t347 => (if t347 = true then (impl_ValMeet.j0 k true a0_0 a0_1 a0_2 a0_3 a1_0 a1_1 a1_2 a1_3) else ((impl_Val_none.f a1_0 a1_1 a1_2 a1_3).bind fun t348 => (impl_ValMeet.j0 k t348 a0_0 a0_1 a0_2 a0_3 a1_0 a1_1 a1_2 a1_3)))) = some (r1, r2, r3, r4) := by rw [if_pos rfl] at H; exact H
    clear H
    have H := H1
    clear H1
    replace H := Option.bind_eq_some_iff.mp H
    obtain ⟨t347, A110, H⟩ := H
    replace H : (if t347 = true then (impl_ValMeet.j0 k true a0_0 a0_1 a0_2 a0_3 a1_0 a1_1 a1_2 a1_3) else ((impl_Val_none.f a1_0 a1_1 a1_2 a1_3).bind fun t348 => (impl_ValMeet.j0 k t348 a0_0 a0_1 a0_2 a0_3 a1_0 a1_1 a1_2 a1_3))) = some (r1, r2, r3, r4) := H
    have A11 := Aside0.mk A110
    clear A110
    by_cases c12 : t347 = true
    ·subst c12
     have H1 : (impl_ValMeet.j0 k true a0_0 a0_1 a0_2 a0_3 a1_0 a1_1 a1_2 a1_3) = some (r1, r2, r3, r4) := by rw [if_pos rfl] at H; exact H
     clear H
     have H := H1
     clear H1
     have H' := Aside0.mk H
     clear H
     have hnb13 := NB342_343.out
     have hnc13 := NB343_342.out
     have hnb14 := NB342_344.out
     have hnc14 := NB344_342.out
     have hcz15_0 : w6.cell? ⟨gb342, 0, none⟩ = some (.int .i64 a0_0) := bc BK342 0
     have hcz15_1 : w6.cell? ⟨gb342, 1, none⟩ = some (.int .i64 a0_1) := bc BK342 1
     have hcz15_2 : w6.cell? ⟨gb342, 2, none⟩ = some (.int .i64 a0_2) := bc BK342 2
     have hcz15_3 : w6.cell? ⟨gb342, 3, none⟩ = some (.int .i64 a0_3) := bc BK342 3
     have hfz15_0 := blk_frozen BK342.out 0
     have hfz15_1 := blk_frozen BK342.out 1
     have hfz15_2 := blk_frozen BK342.out 2
     have hfz15_3 := blk_frozen BK342.out 3
     go_wp2_with (first | ((with_reducible refine gate_callee (f := 63) rfl ?_); refine goesL_ (some 8) rfl rfl Try.func63 (by kernel_rfl) rfl #[.agg #[.int .i64 a0_0, .int .i64 a0_1, .int .i64 a0_2, .int .i64 a0_3]] rfl mz ?_; (with_reducible refine (impl_ValOk.calls k a0_0 a0_1 a0_2 a0_3 true _ A7.out).mono ?_); rintro e w16 ⟨rfl, hb⟩; refine ⟨_, rfl, ?_⟩; have n0_ := Aside0.mk (blk_below (g := gb342) (o := b4 a0_0 a0_1 a0_2 a0_3 25) (bz BK342.out) hb); have n1_ := Aside0.mk (blk_below (g := gb343) (o := b4 a1_0 a1_1 a1_2 a1_3 25) (bz BK343.out) hb); have n2_ := Aside0.mk (blk_below (g := gb344) (o := b4 0 0 0 0 25) (bz BK344.out) hb); have n3_ := Aside0.mk (below_step (hz3 HB.out GE342.out GE343.out GE344.out) hb); clear BK342; clear BK343; clear BK344; clear HB; have BK342 := n0_; have BK343 := n1_; have BK344 := n2_; have HB := n3_; clear n0_ n1_ n2_ n3_; (try clear hb); (try clear hb2); (try clear hk); (try clear hi); have hnb17 := NB343_344.out; have hnc17 := NB344_343.out; have hcz18_0 : w16.cell? ⟨gb343, 0, none⟩ = some (.int .i64 a1_0) := bc BK343 0; have hcz18_1 : w16.cell? ⟨gb343, 1, none⟩ = some (.int .i64 a1_1) := bc BK343 1; have hcz18_2 : w16.cell? ⟨gb343, 2, none⟩ = some (.int .i64 a1_2) := bc BK343 2; have hcz18_3 : w16.cell? ⟨gb343, 3, none⟩ = some (.int .i64 a1_3) := bc BK343 3; have hfz18_0 := blk_frozen BK343.out 0; have hfz18_1 := blk_frozen BK343.out 1; have hfz18_2 := blk_frozen BK343.out 2; have hfz18_3 := blk_frozen BK343.out 3) | (go_at_call 63; (with_reducible refine (impl_ValOk.calls k a1_0 a1_1 a1_2 a1_3 true _ A9.out).mono ?_); rintro e w19 ⟨rfl, hb⟩; have n0_ := Aside0.mk (blk_below (g := gb342) (o := b4 a0_0 a0_1 a0_2 a0_3 25) (bz BK342.out) hb); have n1_ := Aside0.mk (blk_below (g := gb343) (o := b4 a1_0 a1_1 a1_2 a1_3 25) (bz BK343.out) hb); have n2_ := Aside0.mk (blk_below (g := gb344) (o := b4 0 0 0 0 25) (bz BK344.out) hb); have n3_ := Aside0.mk (below_step (hz3 HB.out GE342.out GE343.out GE344.out) hb); clear BK342; clear BK343; clear BK344; clear HB; have BK342 := n0_; have BK343 := n1_; have BK344 := n2_; have HB := n3_; clear n0_ n1_ n2_ n3_; (try clear hb); (try clear hb2); (try clear hk); (try clear hi); have hcz20_0 : w19.cell? ⟨gb342, 0, none⟩ = some (.int .i64 a0_0) := bc BK342 0; have hcz20_1 : w19.cell? ⟨gb342, 1, none⟩ = some (.int .i64 a0_1) := bc BK342 1; have hcz20_2 : w19.cell? ⟨gb342, 2, none⟩ = some (.int .i64 a0_2) := bc BK342 2; have hcz20_3 : w19.cell? ⟨gb342, 3, none⟩ = some (.int .i64 a0_3) := bc BK342 3; have hfz20_0 := blk_frozen BK342.out 0; have hfz20_1 := blk_frozen BK342.out 1; have hfz20_2 := blk_frozen BK342.out 2; have hfz20_3 := blk_frozen BK342.out 3) | (go_at_call 70; (with_reducible refine (impl_Val_none.calls a0_0 a0_1 a0_2 a0_3 true _ A11.out).mono ?_); rintro e w21 ⟨rfl, hb⟩; have n0_ := Aside0.mk (blk_below (g := gb342) (o := b4 a0_0 a0_1 a0_2 a0_3 25) (bz BK342.out) hb); have n1_ := Aside0.mk (blk_below (g := gb343) (o := b4 a1_0 a1_1 a1_2 a1_3 25) (bz BK343.out) hb); have n2_ := Aside0.mk (blk_below (g := gb344) (o := b4 0 0 0 0 25) (bz BK344.out) hb); have n3_ := Aside0.mk (below_step (hz3 HB.out GE342.out GE343.out GE344.out) hb); clear BK342; clear BK343; clear BK344; clear HB; have BK342 := n0_; have BK343 := n1_; have BK344 := n2_; have HB := n3_; clear n0_ n1_ n2_ n3_; (try clear hb); (try clear hb2); (try clear hk); (try clear hi)))
     go_meet
     case rel => exact ⟨_, (true), (by first | rfl | (simp; done) | (simp [*]; done)), H', ⟨by first | omega | exact Nat.le_refl _⟩, ⟨bz BK342.out⟩, ⟨bz BK343.out⟩, ⟨bz BK344.out⟩, ⟨hz3 HB.out GE342.out GE343.out GE344.out⟩⟩
    ·replace c12 := Bool.eq_false_iff.mpr c12
     subst c12
     have H1 : ((impl_Val_none.f a1_0 a1_1 a1_2 a1_3).bind fun t348 => (impl_ValMeet.j0 k t348 a0_0 a0_1 a0_2 a0_3 a1_0 a1_1 a1_2 a1_3)) = some (r1, r2, r3, r4) := by rw [if_neg (show ¬ (false = true) by decide)] at H; exact H
     clear H
     have H := H1
     clear H1
     replace H := Option.bind_eq_some_iff.mp H
     obtain ⟨t348, A220, H⟩ := H
     replace H : (impl_ValMeet.j0 k t348 a0_0 a0_1 a0_2 a0_3 a1_0 a1_1 a1_2 a1_3) = some (r1, r2, r3, r4) := H
     have A22 := Aside0.mk A220
     clear A220
     have H' := Aside0.mk H
     clear H
     have hnb23 := NB342_343.out
     have hnc23 := NB343_342.out
     have hnb24 := NB342_344.out
     have hnc24 := NB344_342.out
     have hcz25_0 : w6.cell? ⟨gb342, 0, none⟩ = some (.int .i64 a0_0) := bc BK342 0
     have hcz25_1 : w6.cell? ⟨gb342, 1, none⟩ = some (.int .i64 a0_1) := bc BK342 1
     have hcz25_2 : w6.cell? ⟨gb342, 2, none⟩ = some (.int .i64 a0_2) := bc BK342 2
     have hcz25_3 : w6.cell? ⟨gb342, 3, none⟩ = some (.int .i64 a0_3) := bc BK342 3
     have hfz25_0 := blk_frozen BK342.out 0
     have hfz25_1 := blk_frozen BK342.out 1
     have hfz25_2 := blk_frozen BK342.out 2
     have hfz25_3 := blk_frozen BK342.out 3
     go_wp2_with (first | ((with_reducible refine gate_callee (f := 63) rfl ?_); refine goesL_ (some 8) rfl rfl Try.func63 (by kernel_rfl) rfl #[.agg #[.int .i64 a0_0, .int .i64 a0_1, .int .i64 a0_2, .int .i64 a0_3]] rfl mz ?_; (with_reducible refine (impl_ValOk.calls k a0_0 a0_1 a0_2 a0_3 true _ A7.out).mono ?_); rintro e w26 ⟨rfl, hb⟩; refine ⟨_, rfl, ?_⟩; have n0_ := Aside0.mk (blk_below (g := gb342) (o := b4 a0_0 a0_1 a0_2 a0_3 25) (bz BK342.out) hb); have n1_ := Aside0.mk (blk_below (g := gb343) (o := b4 a1_0 a1_1 a1_2 a1_3 25) (bz BK343.out) hb); have n2_ := Aside0.mk (blk_below (g := gb344) (o := b4 0 0 0 0 25) (bz BK344.out) hb); have n3_ := Aside0.mk (below_step (hz3 HB.out GE342.out GE343.out GE344.out) hb); clear BK342; clear BK343; clear BK344; clear HB; have BK342 := n0_; have BK343 := n1_; have BK344 := n2_; have HB := n3_; clear n0_ n1_ n2_ n3_; (try clear hb); (try clear hb2); (try clear hk); (try clear hi); have hnb27 := NB343_344.out; have hnc27 := NB344_343.out; have hcz28_0 : w26.cell? ⟨gb343, 0, none⟩ = some (.int .i64 a1_0) := bc BK343 0; have hcz28_1 : w26.cell? ⟨gb343, 1, none⟩ = some (.int .i64 a1_1) := bc BK343 1; have hcz28_2 : w26.cell? ⟨gb343, 2, none⟩ = some (.int .i64 a1_2) := bc BK343 2; have hcz28_3 : w26.cell? ⟨gb343, 3, none⟩ = some (.int .i64 a1_3) := bc BK343 3; have hfz28_0 := blk_frozen BK343.out 0; have hfz28_1 := blk_frozen BK343.out 1; have hfz28_2 := blk_frozen BK343.out 2; have hfz28_3 := blk_frozen BK343.out 3) | (go_at_call 63; (with_reducible refine (impl_ValOk.calls k a1_0 a1_1 a1_2 a1_3 true _ A9.out).mono ?_); rintro e w29 ⟨rfl, hb⟩; have n0_ := Aside0.mk (blk_below (g := gb342) (o := b4 a0_0 a0_1 a0_2 a0_3 25) (bz BK342.out) hb); have n1_ := Aside0.mk (blk_below (g := gb343) (o := b4 a1_0 a1_1 a1_2 a1_3 25) (bz BK343.out) hb); have n2_ := Aside0.mk (blk_below (g := gb344) (o := b4 0 0 0 0 25) (bz BK344.out) hb); have n3_ := Aside0.mk (below_step (hz3 HB.out GE342.out GE343.out GE344.out) hb); clear BK342; clear BK343; clear BK344; clear HB; have BK342 := n0_; have BK343 := n1_; have BK344 := n2_; have HB := n3_; clear n0_ n1_ n2_ n3_; (try clear hb); (try clear hb2); (try clear hk); (try clear hi); have hcz30_0 : w29.cell? ⟨gb342, 0, none⟩ = some (.int .i64 a0_0) := bc BK342 0; have hcz30_1 : w29.cell? ⟨gb342, 1, none⟩ = some (.int .i64 a0_1) := bc BK342 1; have hcz30_2 : w29.cell? ⟨gb342, 2, none⟩ = some (.int .i64 a0_2) := bc BK342 2; have hcz30_3 : w29.cell? ⟨gb342, 3, none⟩ = some (.int .i64 a0_3) := bc BK342 3; have hfz30_0 := blk_frozen BK342.out 0; have hfz30_1 := blk_frozen BK342.out 1; have hfz30_2 := blk_frozen BK342.out 2; have hfz30_3 := blk_frozen BK342.out 3) | (go_at_call 70; (with_reducible refine (impl_Val_none.calls a0_0 a0_1 a0_2 a0_3 false _ A11.out).mono ?_); rintro e w31 ⟨rfl, hb⟩; have n0_ := Aside0.mk (blk_below (g := gb342) (o := b4 a0_0 a0_1 a0_2 a0_3 25) (bz BK342.out) hb); have n1_ := Aside0.mk (blk_below (g := gb343) (o := b4 a1_0 a1_1 a1_2 a1_3 25) (bz BK343.out) hb); have n2_ := Aside0.mk (blk_below (g := gb344) (o := b4 0 0 0 0 25) (bz BK344.out) hb); have n3_ := Aside0.mk (below_step (hz3 HB.out GE342.out GE343.out GE344.out) hb); clear BK342; clear BK343; clear BK344; clear HB; have BK342 := n0_; have BK343 := n1_; have BK344 := n2_; have HB := n3_; clear n0_ n1_ n2_ n3_; (try clear hb); (try clear hb2); (try clear hk); (try clear hi); have hcz32_0 : w31.cell? ⟨gb343, 0, none⟩ = some (.int .i64 a1_0) := bc BK343 0; have hcz32_1 : w31.cell? ⟨gb343, 1, none⟩ = some (.int .i64 a1_1) := bc BK343 1; have hcz32_2 : w31.cell? ⟨gb343, 2, none⟩ = some (.int .i64 a1_2) := bc BK343 2; have hcz32_3 : w31.cell? ⟨gb343, 3, none⟩ = some (.int .i64 a1_3) := bc BK343 3; have hfz32_0 := blk_frozen BK343.out 0; have hfz32_1 := blk_frozen BK343.out 1; have hfz32_2 := blk_frozen BK343.out 2; have hfz32_3 := blk_frozen BK343.out 3) | (go_at_call 70; (with_reducible refine (impl_Val_none.calls a1_0 a1_1 a1_2 a1_3 t348 _ A22.out).mono ?_); rintro e w33 ⟨rfl, hb⟩; have n0_ := Aside0.mk (blk_below (g := gb342) (o := b4 a0_0 a0_1 a0_2 a0_3 25) (bz BK342.out) hb); have n1_ := Aside0.mk (blk_below (g := gb343) (o := b4 a1_0 a1_1 a1_2 a1_3 25) (bz BK343.out) hb); have n2_ := Aside0.mk (blk_below (g := gb344) (o := b4 0 0 0 0 25) (bz BK344.out) hb); have n3_ := Aside0.mk (below_step (hz3 HB.out GE342.out GE343.out GE344.out) hb); clear BK342; clear BK343; clear BK344; clear HB; have BK342 := n0_; have BK343 := n1_; have BK344 := n2_; have HB := n3_; clear n0_ n1_ n2_ n3_; (try clear hb); (try clear hb2); (try clear hk); (try clear hi)))
     go_meet
     case rel => exact ⟨_, (t348), (by first | rfl | (simp; done) | (simp [*]; done)), H', ⟨by first | omega | exact Nat.le_refl _⟩, ⟨bz BK342.out⟩, ⟨bz BK343.out⟩, ⟨bz BK344.out⟩, ⟨hz3 HB.out GE342.out GE343.out GE344.out⟩⟩
   ·replace c10 := Bool.eq_false_iff.mpr c10
    subst c10
    have H1 : (impl_ValMeet.j0 k true a0_0 a0_1 a0_2 a0_3 a1_0 a1_1 a1_2 a1_3) = some (r1, r2, r3, r4) := by rw [if_neg (show ¬ (false = true) by decide)] at H; exact H
    clear H
    have H := H1
    clear H1
    have H' := Aside0.mk H
    clear H
    have hnb34 := NB342_343.out
    have hnc34 := NB343_342.out
    have hnb35 := NB342_344.out
    have hnc35 := NB344_342.out
    have hcz36_0 : w6.cell? ⟨gb342, 0, none⟩ = some (.int .i64 a0_0) := bc BK342 0
    have hcz36_1 : w6.cell? ⟨gb342, 1, none⟩ = some (.int .i64 a0_1) := bc BK342 1
    have hcz36_2 : w6.cell? ⟨gb342, 2, none⟩ = some (.int .i64 a0_2) := bc BK342 2
    have hcz36_3 : w6.cell? ⟨gb342, 3, none⟩ = some (.int .i64 a0_3) := bc BK342 3
    have hfz36_0 := blk_frozen BK342.out 0
    have hfz36_1 := blk_frozen BK342.out 1
    have hfz36_2 := blk_frozen BK342.out 2
    have hfz36_3 := blk_frozen BK342.out 3
    go_wp2_with (first | ((with_reducible refine gate_callee (f := 63) rfl ?_); refine goesL_ (some 8) rfl rfl Try.func63 (by kernel_rfl) rfl #[.agg #[.int .i64 a0_0, .int .i64 a0_1, .int .i64 a0_2, .int .i64 a0_3]] rfl mz ?_; (with_reducible refine (impl_ValOk.calls k a0_0 a0_1 a0_2 a0_3 true _ A7.out).mono ?_); rintro e w37 ⟨rfl, hb⟩; refine ⟨_, rfl, ?_⟩; have n0_ := Aside0.mk (blk_below (g := gb342) (o := b4 a0_0 a0_1 a0_2 a0_3 25) (bz BK342.out) hb); have n1_ := Aside0.mk (blk_below (g := gb343) (o := b4 a1_0 a1_1 a1_2 a1_3 25) (bz BK343.out) hb); have n2_ := Aside0.mk (blk_below (g := gb344) (o := b4 0 0 0 0 25) (bz BK344.out) hb); have n3_ := Aside0.mk (below_step (hz3 HB.out GE342.out GE343.out GE344.out) hb); clear BK342; clear BK343; clear BK344; clear HB; have BK342 := n0_; have BK343 := n1_; have BK344 := n2_; have HB := n3_; clear n0_ n1_ n2_ n3_; (try clear hb); (try clear hb2); (try clear hk); (try clear hi); have hnb38 := NB343_344.out; have hnc38 := NB344_343.out; have hcz39_0 : w37.cell? ⟨gb343, 0, none⟩ = some (.int .i64 a1_0) := bc BK343 0; have hcz39_1 : w37.cell? ⟨gb343, 1, none⟩ = some (.int .i64 a1_1) := bc BK343 1; have hcz39_2 : w37.cell? ⟨gb343, 2, none⟩ = some (.int .i64 a1_2) := bc BK343 2; have hcz39_3 : w37.cell? ⟨gb343, 3, none⟩ = some (.int .i64 a1_3) := bc BK343 3; have hfz39_0 := blk_frozen BK343.out 0; have hfz39_1 := blk_frozen BK343.out 1; have hfz39_2 := blk_frozen BK343.out 2; have hfz39_3 := blk_frozen BK343.out 3) | (go_at_call 63; (with_reducible refine (impl_ValOk.calls k a1_0 a1_1 a1_2 a1_3 false _ A9.out).mono ?_); rintro e w40 ⟨rfl, hb⟩; have n0_ := Aside0.mk (blk_below (g := gb342) (o := b4 a0_0 a0_1 a0_2 a0_3 25) (bz BK342.out) hb); have n1_ := Aside0.mk (blk_below (g := gb343) (o := b4 a1_0 a1_1 a1_2 a1_3 25) (bz BK343.out) hb); have n2_ := Aside0.mk (blk_below (g := gb344) (o := b4 0 0 0 0 25) (bz BK344.out) hb); have n3_ := Aside0.mk (below_step (hz3 HB.out GE342.out GE343.out GE344.out) hb); clear BK342; clear BK343; clear BK344; clear HB; have BK342 := n0_; have BK343 := n1_; have BK344 := n2_; have HB := n3_; clear n0_ n1_ n2_ n3_; (try clear hb); (try clear hb2); (try clear hk); (try clear hi)))
    go_meet
    case rel => exact ⟨_, (true), (by first | rfl | (simp; done) | (simp [*]; done)), H', ⟨by first | omega | exact Nat.le_refl _⟩, ⟨bz BK342.out⟩, ⟨bz BK343.out⟩, ⟨bz BK344.out⟩, ⟨hz3 HB.out GE342.out GE343.out GE344.out⟩⟩
  ·replace c8 := Bool.eq_false_iff.mpr c8
   subst c8
   have H1 : (impl_ValMeet.j0 k true a0_0 a0_1 a0_2 a0_3 a1_0 a1_1 a1_2 a1_3) = some (r1, r2, r3, r4) := by rw [if_neg (show ¬ (false = true) by decide)] at H; exact H
   clear H
   have H := H1
   clear H1
   have H' := Aside0.mk H
   clear H
   have hnb41 := NB342_343.out
   have hnc41 := NB343_342.out
   have hnb42 := NB342_344.out
   have hnc42 := NB344_342.out
   have hcz43_0 : w6.cell? ⟨gb342, 0, none⟩ = some (.int .i64 a0_0) := bc BK342 0
   have hcz43_1 : w6.cell? ⟨gb342, 1, none⟩ = some (.int .i64 a0_1) := bc BK342 1
   have hcz43_2 : w6.cell? ⟨gb342, 2, none⟩ = some (.int .i64 a0_2) := bc BK342 2
   have hcz43_3 : w6.cell? ⟨gb342, 3, none⟩ = some (.int .i64 a0_3) := bc BK342 3
   have hfz43_0 := blk_frozen BK342.out 0
   have hfz43_1 := blk_frozen BK342.out 1
   have hfz43_2 := blk_frozen BK342.out 2
   have hfz43_3 := blk_frozen BK342.out 3
   go_wp2_with (first | ((with_reducible refine gate_callee (f := 63) rfl ?_); refine goesL_ (some 8) rfl rfl Try.func63 (by kernel_rfl) rfl #[.agg #[.int .i64 a0_0, .int .i64 a0_1, .int .i64 a0_2, .int .i64 a0_3]] rfl mz ?_; (with_reducible refine (impl_ValOk.calls k a0_0 a0_1 a0_2 a0_3 false _ A7.out).mono ?_); rintro e w44 ⟨rfl, hb⟩; refine ⟨_, rfl, ?_⟩; have n0_ := Aside0.mk (blk_below (g := gb342) (o := b4 a0_0 a0_1 a0_2 a0_3 25) (bz BK342.out) hb); have n1_ := Aside0.mk (blk_below (g := gb343) (o := b4 a1_0 a1_1 a1_2 a1_3 25) (bz BK343.out) hb); have n2_ := Aside0.mk (blk_below (g := gb344) (o := b4 0 0 0 0 25) (bz BK344.out) hb); have n3_ := Aside0.mk (below_step (hz3 HB.out GE342.out GE343.out GE344.out) hb); clear BK342; clear BK343; clear BK344; clear HB; have BK342 := n0_; have BK343 := n1_; have BK344 := n2_; have HB := n3_; clear n0_ n1_ n2_ n3_; (try clear hb); (try clear hb2); (try clear hk); (try clear hi)))
   go_meet
   case rel => exact ⟨_, (true), (by first | rfl | (simp; done) | (simp [*]; done)), H', ⟨by first | omega | exact Nat.le_refl _⟩, ⟨bz BK342.out⟩, ⟨bz BK343.out⟩, ⟨bz BK344.out⟩, ⟨hz3 HB.out GE342.out GE343.out GE344.out⟩⟩
 case rest =>
  clear HC3
  try clear c1
  try clear c2
  try clear p2
  try clear c3
  try clear c4
  try clear c6
  try clear c8
  try clear c10
  try clear c12
  try clear c13
  try clear c14
  try clear c17
  try clear c23
  try clear c24
  try clear c27
  try clear c34
  try clear c35
  try clear c38
  try clear c41
  try clear c42
  try clear hcz15_0
  try clear hcz15_1
  try clear hcz15_2
  try clear hcz15_3
  try clear hcz18_0
  try clear hcz18_1
  try clear hcz18_2
  try clear hcz18_3
  try clear hcz20_0
  try clear hcz20_1
  try clear hcz20_2
  try clear hcz20_3
  try clear hcz25_0
  try clear hcz25_1
  try clear hcz25_2
  try clear hcz25_3
  try clear hcz28_0
  try clear hcz28_1
  try clear hcz28_2
  try clear hcz28_3
  try clear hcz30_0
  try clear hcz30_1
  try clear hcz30_2
  try clear hcz30_3
  try clear hcz32_0
  try clear hcz32_1
  try clear hcz32_2
  try clear hcz32_3
  try clear hcz36_0
  try clear hcz36_1
  try clear hcz36_2
  try clear hcz36_3
  try clear hcz39_0
  try clear hcz39_1
  try clear hcz39_2
  try clear hcz39_3
  try clear hcz43_0
  try clear hcz43_1
  try clear hcz43_2
  try clear hcz43_3
  try clear hfz15_0
  try clear hfz15_1
  try clear hfz15_2
  try clear hfz15_3
  try clear hfz18_0
  try clear hfz18_1
  try clear hfz18_2
  try clear hfz18_3
  try clear hfz20_0
  try clear hfz20_1
  try clear hfz20_2
  try clear hfz20_3
  try clear hfz25_0
  try clear hfz25_1
  try clear hfz25_2
  try clear hfz25_3
  try clear hfz28_0
  try clear hfz28_1
  try clear hfz28_2
  try clear hfz28_3
  try clear hfz30_0
  try clear hfz30_1
  try clear hfz30_2
  try clear hfz30_3
  try clear hfz32_0
  try clear hfz32_1
  try clear hfz32_2
  try clear hfz32_3
  try clear hfz36_0
  try clear hfz36_1
  try clear hfz36_2
  try clear hfz36_3
  try clear hfz39_0
  try clear hfz39_1
  try clear hfz39_2
  try clear hfz39_3
  try clear hfz43_0
  try clear hfz43_1
  try clear hfz43_2
  try clear hfz43_3
  obtain ⟨kq, x22_2, rfl, HA, HJ2, BK342, BK343, BK344, HB⟩ := hcut
  cases kq with
  | zero => exact absurd HA.out (by simp [impl_ValMeet.j0])
  | succ kj2 =>
   have H := HA.out
   clear HA
   simp only [impl_ValMeet.j0] at H
   by_cases c45 : x22_2 = true
   ·subst c45
    have H1 : ((impl_valNone.f).bind fun bt349 => (some (bt349.1, bt349.2.1, bt349.2.2.1, bt349.2.2.2))) = some (r1, r2, r3, r4) := by rw [if_pos rfl] at H; exact H
    clear H
    have H := H1
    clear H1
    replace H := Option.bind_eq_some_iff.mp H
    obtain ⟨⟨t349, t350, t351, t352⟩, A460, H⟩ := H
    replace H : (some (t349, t350, t351, t352)) = some (r1, r2, r3, r4) := H
    have A46 := Aside0.mk A460
    clear A460
    simp only [Option.some.injEq, Prod.mk.injEq] at H
    obtain ⟨rfl, rfl, rfl, rfl⟩ := H
    go_wp2_with (first | ((with_reducible refine gate_callee (f := 76) rfl ?_); refine goesL_ (some 23) rfl rfl Try.func76 (by kernel_rfl) rfl #[] rfl mz ?_; (with_reducible refine (impl_valNone.calls  t349 t350 t351 t352 _ A46.out).mono ?_); rintro e w47 ⟨rfl, hb⟩; refine ⟨_, rfl, ?_⟩; have n0_ := Aside0.mk (blk_below (g := gb342) (o := b4 a0_0 a0_1 a0_2 a0_3 25) (bz BK342.out) hb); have n1_ := Aside0.mk (blk_below (g := gb343) (o := b4 a1_0 a1_1 a1_2 a1_3 25) (bz BK343.out) hb); have n2_ := Aside0.mk (blk_below (g := gb344) (o := b4 0 0 0 0 25) (bz BK344.out) hb); have n3_ := Aside0.mk (below_step (hz3 HB.out GE342.out GE343.out GE344.out) hb); clear BK342; clear BK343; clear BK344; clear HB; have BK342 := n0_; have BK343 := n1_; have BK344 := n2_; have HB := n3_; clear n0_ n1_ n2_ n3_; (try clear hb); (try clear hb2); (try clear hk); (try clear hi); have hnb48 := NB344_342.out; have hnc48 := NB342_344.out; have hnb49 := NB344_343.out; have hnc49 := NB343_344.out; have hcz50_0 : w47.cell? ⟨gb344, 0, none⟩ = some (.int .i64 0) := bc BK344 0; have hcz50_1 : w47.cell? ⟨gb344, 1, none⟩ = some (.int .i64 0) := bc BK344 1; have hcz50_2 : w47.cell? ⟨gb344, 2, none⟩ = some (.int .i64 0) := bc BK344 2; have hcz50_3 : w47.cell? ⟨gb344, 3, none⟩ = some (.int .i64 0) := bc BK344 3; have hfz50_0 := blk_frozen BK344.out 0; have hfz50_1 := blk_frozen BK344.out 1; have hfz50_2 := blk_frozen BK344.out 2; have hfz50_3 := blk_frozen BK344.out 3))
    refine bodyPost_ret (results_cell_row rfl _ _ gb344 25 #[.int .i64 t349, .int .i64 t350, .int .i64 t351, .int .i64 t352] (0, 0) _ rfl (by (with_reducible repeat (first | refine blk_drewN ?_ _ | refine blk_drew ?_ | refine blk_alloc ?_ _)); refine blk_put (cs := #[.int .i64 t349, .int .i64 t350, .int .i64 t351, .int .i64 0]) ?_ 3 _ rfl; (with_reducible repeat (first | refine blk_drewN ?_ _ | refine blk_drew ?_ | refine blk_alloc ?_ _)); refine blk_put (cs := #[.int .i64 t349, .int .i64 t350, .int .i64 0, .int .i64 0]) ?_ 2 _ rfl; (with_reducible repeat (first | refine blk_drewN ?_ _ | refine blk_drew ?_ | refine blk_alloc ?_ _)); refine blk_put (cs := #[.int .i64 t349, .int .i64 0, .int .i64 0, .int .i64 0]) ?_ 1 _ rfl; (with_reducible repeat (first | refine blk_drewN ?_ _ | refine blk_drew ?_ | refine blk_alloc ?_ _)); refine blk_put (cs := #[.int .i64 0, .int .i64 0, .int .i64 0, .int .i64 0]) ?_ 0 _ rfl; (with_reducible repeat (first | refine blk_drewN ?_ _ | refine blk_drew ?_ | refine blk_alloc ?_ _)); exact BK344.out) Try.underlying25 rfl (by kernel_rfl)) rfl ?_
    exact ⟨by first | rfl | (simp [errW_none, errW_some] <;> rfl) | (simp [*, errW_none, errW_some] <;> rfl), hz3 HB.out GE342.out GE343.out GE344.out⟩
   ·replace c45 := Bool.eq_false_iff.mpr c45
    subst c45
    have H1 : ((impl_Val_rest.f a0_0 a0_1 a0_2 a0_3).bind fun bt353 => ((impl_Val_rest.f a1_0 a1_1 a1_2 a1_3).bind fun bt355 => ((impl_RestMeet.f kj2 bt353.1 bt353.2 bt355.1 bt355.2).bind fun bt357 => (if bt357.2.2 = true then ((impl_Val_span.f a0_0 a0_1 a0_2 a0_3).bind fun bt365 => ((impl_Val_span.f a1_0 a1_1 a1_2 a1_3).bind fun bt367 => ((impl_RangeMeet.f kj2 bt365.1 bt365.2 bt367.1 bt367.2).bind fun bt369 => ((impl_ValMake.f kj2 bt369.1 bt369.2 bt357.1 bt357.2.1).bind fun bt371 => (some (bt371.1, bt371.2.1, bt371.2.2.1, bt371.2.2.2)))))) else ((impl_valNone.f).bind fun bt361 => (some (bt361.1, bt361.2.1, bt361.2.2.1, bt361.2.2.2))))))) = some (r1, r2, r3, r4) := by rw [if_neg (show ¬ (false = true) by decide)] at H; exact H
    clear H
    have H := H1
    clear H1
    replace H := Option.bind_eq_some_iff.mp H
    obtain ⟨⟨t353, t354⟩, A510, H⟩ := H
    replace H : ((impl_Val_rest.f a1_0 a1_1 a1_2 a1_3).bind fun bt355 => ((impl_RestMeet.f kj2 t353 t354 bt355.1 bt355.2).bind fun bt357 => (if bt357.2.2 = true then ((impl_Val_span.f a0_0 a0_1 a0_2 a0_3).bind fun bt365 => ((impl_Val_span.f a1_0 a1_1 a1_2 a1_3).bind fun bt367 => ((impl_RangeMeet.f kj2 bt365.1 bt365.2 bt367.1 bt367.2).bind fun bt369 => ((impl_ValMake.f kj2 bt369.1 bt369.2 bt357.1 bt357.2.1).bind fun bt371 => (some (bt371.1, bt371.2.1, bt371.2.2.1, bt371.2.2.2)))))) else ((impl_valNone.f).bind fun bt361 => (some (bt361.1, bt361.2.1, bt361.2.2.1, bt361.2.2.2)))))) = some (r1, r2, r3, r4) := H
    have A51 := Aside0.mk A510
    clear A510
    replace H := Option.bind_eq_some_iff.mp H
    obtain ⟨⟨t355, t356⟩, A520, H⟩ := H
    replace H : ((impl_RestMeet.f kj2 t353 t354 t355 t356).bind fun bt357 => (if bt357.2.2 = true then ((impl_Val_span.f a0_0 a0_1 a0_2 a0_3).bind fun bt365 => ((impl_Val_span.f a1_0 a1_1 a1_2 a1_3).bind fun bt367 => ((impl_RangeMeet.f kj2 bt365.1 bt365.2 bt367.1 bt367.2).bind fun bt369 => ((impl_ValMake.f kj2 bt369.1 bt369.2 bt357.1 bt357.2.1).bind fun bt371 => (some (bt371.1, bt371.2.1, bt371.2.2.1, bt371.2.2.2)))))) else ((impl_valNone.f).bind fun bt361 => (some (bt361.1, bt361.2.1, bt361.2.2.1, bt361.2.2.2))))) = some (r1, r2, r3, r4) := H
    have A52 := Aside0.mk A520
    clear A520
    replace H := Option.bind_eq_some_iff.mp H
    obtain ⟨⟨t357, t358, t359⟩, A530, H⟩ := H
    replace H : (if t359 = true then ((impl_Val_span.f a0_0 a0_1 a0_2 a0_3).bind fun bt365 => ((impl_Val_span.f a1_0 a1_1 a1_2 a1_3).bind fun bt367 => ((impl_RangeMeet.f kj2 bt365.1 bt365.2 bt367.1 bt367.2).bind fun bt369 => ((impl_ValMake.f kj2 bt369.1 bt369.2 t357 t358).bind fun bt371 => (some (bt371.1, bt371.2.1, bt371.2.2.1, bt371.2.2.2)))))) else ((impl_valNone.f).bind fun bt361 => (some (bt361.1, bt361.2.1, bt361.2.2.1, bt361.2.2.2)))) = some (r1, r2, r3, r4) := H
    have A53 := Aside0.mk A530
    clear A530
    by_cases c54 : t359 = true
    ·subst c54
     have H1 : ((impl_Val_span.f a0_0 a0_1 a0_2 a0_3).bind fun bt365 => ((impl_Val_span.f a1_0 a1_1 a1_2 a1_3).bind fun bt367 => ((impl_RangeMeet.f kj2 bt365.1 bt365.2 bt367.1 bt367.2).bind fun bt369 => ((impl_ValMake.f kj2 bt369.1 bt369.2 t357 t358).bind fun bt371 => (some (bt371.1, bt371.2.1, bt371.2.2.1, bt371.2.2.2)))))) = some (r1, r2, r3, r4) := by rw [if_pos rfl] at H; exact H
     clear H
     have H := H1
     clear H1
     replace H := Option.bind_eq_some_iff.mp H
     obtain ⟨⟨t365, t366⟩, A550, H⟩ := H
     replace H : ((impl_Val_span.f a1_0 a1_1 a1_2 a1_3).bind fun bt367 => ((impl_RangeMeet.f kj2 t365 t366 bt367.1 bt367.2).bind fun bt369 => ((impl_ValMake.f kj2 bt369.1 bt369.2 t357 t358).bind fun bt371 => (some (bt371.1, bt371.2.1, bt371.2.2.1, bt371.2.2.2))))) = some (r1, r2, r3, r4) := H
     have A55 := Aside0.mk A550
     clear A550
     replace H := Option.bind_eq_some_iff.mp H
     obtain ⟨⟨t367, t368⟩, A560, H⟩ := H
     replace H : ((impl_RangeMeet.f kj2 t365 t366 t367 t368).bind fun bt369 => ((impl_ValMake.f kj2 bt369.1 bt369.2 t357 t358).bind fun bt371 => (some (bt371.1, bt371.2.1, bt371.2.2.1, bt371.2.2.2)))) = some (r1, r2, r3, r4) := H
     have A56 := Aside0.mk A560
     clear A560
     replace H := Option.bind_eq_some_iff.mp H
     obtain ⟨⟨t369, t370⟩, A570, H⟩ := H
     replace H : ((impl_ValMake.f kj2 t369 t370 t357 t358).bind fun bt371 => (some (bt371.1, bt371.2.1, bt371.2.2.1, bt371.2.2.2))) = some (r1, r2, r3, r4) := H
     have A57 := Aside0.mk A570
     clear A570
     replace H := Option.bind_eq_some_iff.mp H
     obtain ⟨⟨t371, t372, t373, t374⟩, A580, H⟩ := H
     replace H : (some (t371, t372, t373, t374)) = some (r1, r2, r3, r4) := H
     have A58 := Aside0.mk A580
     clear A580
     simp only [Option.some.injEq, Prod.mk.injEq] at H
     obtain ⟨rfl, rfl, rfl, rfl⟩ := H
     try go_wp2
     have n0_ := Aside0.mk (blk_drew BK342.out)
     have n1_ := Aside0.mk (blk_drew BK343.out)
     have n2_ := Aside0.mk (blk_drew BK344.out)
     have n3_ := Aside0.mk (below_drew1 HB.out)
     clear BK342
     clear BK343
     clear BK344
     clear HB
     have BK342 := n0_
     have BK343 := n1_
     have BK344 := n2_
     have HB := n3_
     clear n0_ n1_ n2_ n3_
     refine start_ (n := 11) (S := fun w' => w'.cell? ⟨gb342, 0, none⟩ = some (.int .i64 a0_0) ∧ w'.cell? ⟨gb342, 1, none⟩ = some (.int .i64 a0_1) ∧ w'.cell? ⟨gb342, 2, none⟩ = some (.int .i64 a0_2) ∧ w'.cell? ⟨gb342, 3, none⟩ = some (.int .i64 a0_3) ∧ w'.cell? ⟨gb343, 0, none⟩ = some (.int .i64 a1_0) ∧ w'.cell? ⟨gb343, 1, none⟩ = some (.int .i64 a1_1) ∧ w'.cell? ⟨gb343, 2, none⟩ = some (.int .i64 a1_2) ∧ w'.cell? ⟨gb343, 3, none⟩ = some (.int .i64 a1_3)) (ds := []) #[F, F, F, F, F, F, F, F, F, F, F] (by kernel_rfl) rfl rfl ⟨bc BK342 0, bc BK342 1, bc BK342 2, bc BK342 3, bc BK343 0, bc BK343 1, bc BK343 2, bc BK343 3⟩ (fun hHeld => ?_); refine with_tabW impl_ValMeet.tab3 impl_ValMeet.bits3 (fun HT_ HW_ => ?_)
     generalize wc.drew = w59 at BK342 BK343 BK344 HB hHeld ⊢
     refine take_ (i := 0) (N := some 25) (v := ?_) (a' := ?_) #[T, F, F, F, F, F, F, F, F, F, F] rfl rfl (take_ofW HT_.out HW_.out (by kernel_rfl)) (fun _ _ _ h => h) (Or.inl ⟨by rfl, ?_⟩) hHeld ?_ ?_
     rotate_left
     ·rintro w' ⟨s0, s1, s2, s3, s4, s5, s6, s7⟩
      go_simp
      with_reducible rfl
     rotate_left
     ·exact pz
     refine take_ (i := 2) (N := some 27) (v := ?_) (a' := ?_) #[T, F, T, F, F, F, F, F, F, F, F] rfl rfl (take_ofW HT_.out HW_.out (by kernel_rfl)) (fun _ _ _ h => h) (Or.inl ⟨by rfl, ?_⟩) hHeld ?_ ?_
     rotate_left
     ·rintro w' ⟨s0, s1, s2, s3, s4, s5, s6, s7⟩
      go_simp
      with_reducible rfl
     rotate_left
     ·exact pz
     refine join_ (σ := Nat) 2 #[T, T, T, T, T, T, T, T, T, F, F] (fun s_ => [(26, .agg #[.int .i64 t353, .int .i64 t354]), (28, .agg #[.int .i64 t355, .int .i64 t356]), (29, .tuple #[.agg #[.int .i64 t357, .int .i64 t358], .bool true]), (5, .pointer (some ⟨s_, 0, none⟩)), (24, .tuple #[.agg #[.int .i64 t357, .int .i64 t358], .bool true]), (30, .agg #[.int .i64 t357, .int .i64 t358]), (31, .bool true)]) (fun s_ w' => (w'.cell? ⟨gb342, 0, none⟩ = some (.int .i64 a0_0) ∧ w'.cell? ⟨gb342, 1, none⟩ = some (.int .i64 a0_1) ∧ w'.cell? ⟨gb342, 2, none⟩ = some (.int .i64 a0_2) ∧ w'.cell? ⟨gb342, 3, none⟩ = some (.int .i64 a0_3) ∧ w'.cell? ⟨gb343, 0, none⟩ = some (.int .i64 a1_0) ∧ w'.cell? ⟨gb343, 1, none⟩ = some (.int .i64 a1_1) ∧ w'.cell? ⟨gb343, 2, none⟩ = some (.int .i64 a1_2) ∧ w'.cell? ⟨gb343, 3, none⟩ = some (.int .i64 a1_3)) ∧ (w'.heap[gb342]? = some (.cells #[.int .i64 a0_0, .int .i64 a0_1, .int .i64 a0_2, .int .i64 a0_3] 25 (0, 0))) ∧ (w'.heap[gb343]? = some (.cells #[.int .i64 a1_0, .int .i64 a1_1, .int .i64 a1_2, .int .i64 a1_3] 25 (0, 0))) ∧ (w'.heap[gb344]? = some (.cells #[.int .i64 0, .int .i64 0, .int .i64 0, .int .i64 0] 25 (0, 0))) ∧ (w'.heap[s_]? = some (.cells #[.int .i64 0, .int .i64 0] 90 (0, 0))) ∧ (w.heap.size ≤ s_) ∧ (w.heap.size ≤ s_) ∧ (gb342 ≠ s_) ∧ (s_ ≠ gb342) ∧ (gb343 ≠ s_) ∧ (s_ ≠ gb343) ∧ (gb344 ≠ s_) ∧ (s_ ≠ gb344) ∧ (Below w.heap.size w w')) ?_ ?_
     rotate_left
     ·intro hCont
      refine two_ (i := 1) (j := 8) (Ni := some 26) (Nj := some 5) #[T, T, T, F, F, F, F, F, F, F, F] #[T, F, T, F, F, F, F, F, T, F, F] rfl rfl rfl rfl (two_of HT_.out (by kernel_rfl)) (by decide) (by decide) (fun K hK => ?_) (fun K hK => ?_)
      ·skip
       refine goes_ Try.func67 (by kernel_rfl) rfl #[.agg #[.int .i64 a0_0, .int .i64 a0_1, .int .i64 a0_2, .int .i64 a0_3]] (by rfl) rfl rfl mz ?_
       with_reducible refine (impl_Val_rest.calls a0_0 a0_1 a0_2 a0_3 t353 t354 _ A51.out).mono ?_
       rintro e w60 ⟨rfl, hb⟩
       refine ⟨_, rfl, ?_⟩
       have n0_ := Aside0.mk (blk_below (g := gb342) (o := b4 a0_0 a0_1 a0_2 a0_3 25) (bz BK342.out) hb)
       have n1_ := Aside0.mk (blk_below (g := gb343) (o := b4 a1_0 a1_1 a1_2 a1_3 25) (bz BK343.out) hb)
       have n2_ := Aside0.mk (blk_below (g := gb344) (o := b4 0 0 0 0 25) (bz BK344.out) hb)
       have n3_ := Aside0.mk (below_step (hz3 HB.out GE342.out GE343.out GE344.out) hb)
       clear BK342
       clear BK343
       clear BK344
       clear HB
       have BK342 := n0_
       have BK343 := n1_
       have BK344 := n2_
       have HB := n3_
       clear n0_ n1_ n2_ n3_
       (try clear hb)
       (try clear hb2)
       (try clear hk)
       (try clear hi)
       refine hK.out _ _ ⟨bc BK342 0, bc BK342 1, bc BK342 2, bc BK342 3, bc BK343 0, bc BK343 1, bc BK343 2, bc BK343 3⟩ (fun hHeld => ?_)
       clear hK K
       refine norm_ (a' := ?_) ?_ ?_
       rotate_left
       ·show Act.put _ (some 26) _ = _
        simp only [Act.put, List.setIfInBounds_toArray, List.set_cons_zero, List.set_cons_succ, i64_w, i32_w]
        rfl
       refine two_ (i := 3) (j := 8) (Ni := some 28) (Nj := some 5) #[T, T, T, T, F, F, F, F, F, F, F] #[T, T, T, F, F, F, F, F, T, F, F] rfl rfl rfl rfl (two_of HT_.out (by kernel_rfl)) (by decide) (by decide) (fun K hK => ?_) (fun K hK => ?_)
       ·skip
        refine goes_ Try.func67 (by kernel_rfl) rfl #[.agg #[.int .i64 a1_0, .int .i64 a1_1, .int .i64 a1_2, .int .i64 a1_3]] (by rfl) rfl rfl mz ?_
        with_reducible refine (impl_Val_rest.calls a1_0 a1_1 a1_2 a1_3 t355 t356 _ A52.out).mono ?_
        rintro e w61 ⟨rfl, hb⟩
        refine ⟨_, rfl, ?_⟩
        have n0_ := Aside0.mk (blk_below (g := gb342) (o := b4 a0_0 a0_1 a0_2 a0_3 25) (bz BK342.out) hb)
        have n1_ := Aside0.mk (blk_below (g := gb343) (o := b4 a1_0 a1_1 a1_2 a1_3 25) (bz BK343.out) hb)
        have n2_ := Aside0.mk (blk_below (g := gb344) (o := b4 0 0 0 0 25) (bz BK344.out) hb)
        have n3_ := Aside0.mk (below_step (hz3 HB.out GE342.out GE343.out GE344.out) hb)
        clear BK342
        clear BK343
        clear BK344
        clear HB
        have BK342 := n0_
        have BK343 := n1_
        have BK344 := n2_
        have HB := n3_
        clear n0_ n1_ n2_ n3_
        (try clear hb)
        (try clear hb2)
        (try clear hk)
        (try clear hi)
        refine hK.out _ _ ⟨bc BK342 0, bc BK342 1, bc BK342 2, bc BK342 3, bc BK343 0, bc BK343 1, bc BK343 2, bc BK343 3⟩ (fun hHeld => ?_)
        clear hK K
        refine norm_ (a' := ?_) ?_ ?_
        rotate_left
        ·show Act.put _ (some 28) _ = _
         simp only [Act.put, List.setIfInBounds_toArray, List.set_cons_zero, List.set_cons_succ, i64_w, i32_w]
         rfl
        refine two_ (i := 4) (j := 8) (Ni := some 29) (Nj := some 5) #[T, T, T, T, T, F, F, F, F, F, F] #[T, T, T, T, F, F, F, F, T, F, F] rfl rfl rfl rfl (two_of HT_.out (by kernel_rfl)) (by decide) (by decide) (fun K hK => ?_) (fun K hK => ?_)
        ·skip
         refine goes_ Try.func82 (by kernel_rfl) rfl #[.agg #[.int .i64 t353, .int .i64 t354], .agg #[.int .i64 t355, .int .i64 t356]] (by rfl) rfl rfl mz ?_
         with_reducible refine (impl_RestMeet.calls kj2 t353 t354 t355 t356 t357 t358 true _ A53.out).mono ?_
         rintro e w62 ⟨rfl, hb⟩
         refine ⟨_, rfl, ?_⟩
         have n0_ := Aside0.mk (blk_below (g := gb342) (o := b4 a0_0 a0_1 a0_2 a0_3 25) (bz BK342.out) hb)
         have n1_ := Aside0.mk (blk_below (g := gb343) (o := b4 a1_0 a1_1 a1_2 a1_3 25) (bz BK343.out) hb)
         have n2_ := Aside0.mk (blk_below (g := gb344) (o := b4 0 0 0 0 25) (bz BK344.out) hb)
         have n3_ := Aside0.mk (below_step (hz3 HB.out GE342.out GE343.out GE344.out) hb)
         clear BK342
         clear BK343
         clear BK344
         clear HB
         have BK342 := n0_
         have BK343 := n1_
         have BK344 := n2_
         have HB := n3_
         clear n0_ n1_ n2_ n3_
         (try clear hb)
         (try clear hb2)
         (try clear hk)
         (try clear hi)
         refine hK.out _ _ ⟨bc BK342 0, bc BK342 1, bc BK342 2, bc BK342 3, bc BK343 0, bc BK343 1, bc BK343 2, bc BK343 3⟩ (fun hHeld => ?_)
         clear hK K
         refine norm_ (a' := ?_) ?_ ?_
         rotate_left
         ·show Act.put _ (some 29) _ = _
          simp only [Act.put, List.setIfInBounds_toArray, List.set_cons_zero, List.set_cons_succ, i64_w, i32_w]
          rfl
         refine pure_ (i := 5) (N := some 24) (v := ?_) (a' := ?_) #[T, T, T, T, T, T, F, F, F, F, F] rfl rfl (any_of HT_.out (by kernel_rfl)) (fun _ _ _ h => h) (Or.inl ⟨by rfl, ?_⟩) ?_ ?_
         rotate_left
         ·exact gz
         rotate_left
         ·exact pz
         refine pure_ (i := 6) (N := some 30) (v := ?_) (a' := ?_) #[T, T, T, T, T, T, T, F, F, F, F] rfl rfl (any_of HT_.out (by kernel_rfl)) (fun _ _ _ h => h) (Or.inl ⟨by rfl, ?_⟩) ?_ ?_
         rotate_left
         ·exact gz
         rotate_left
         ·exact pz
         refine pure_ (i := 7) (N := some 31) (v := ?_) (a' := ?_) #[T, T, T, T, T, T, T, T, F, F, F] rfl rfl (any_of HT_.out (by kernel_rfl)) (fun _ _ _ h => h) (Or.inl ⟨by rfl, ?_⟩) ?_ ?_
         rotate_left
         ·exact gz
         rotate_left
         ·exact pz
         refine one_ (i := 8) (N := some 5) #[T, T, T, T, T, T, T, T, T, F, F] rfl rfl (one_of HT_.out (by kernel_rfl)) (by decide) (fun K hK => ?_)
         refine box_step ?hg (N := 5) ?hd (cs := #[.int .i64 0, .int .i64 0]) (t := 90) ?hr ?_; (case hd => rfl); (case hg => rfl); (case hr => first | (go_simp; done) | (go_simp; rfl))
         intro gb360 hg w63 hbox hb
         have n0_ := Aside0.mk (blk_below (g := gb342) (o := b4 a0_0 a0_1 a0_2 a0_3 25) (bz BK342.out) hb)
         have n1_ := Aside0.mk (blk_below (g := gb343) (o := b4 a1_0 a1_1 a1_2 a1_3 25) (bz BK343.out) hb)
         have n2_ := Aside0.mk (blk_below (g := gb344) (o := b4 0 0 0 0 25) (bz BK344.out) hb)
         have n3_ := Aside0.mk (below_step (hz3 HB.out GE342.out GE343.out GE344.out) hb)
         have n4_ := Aside0.mk (hbox)
         have n5_ := Aside0.mk ((by rw [hg]; exact (below_size (hz3 HB.out GE342.out GE343.out GE344.out)) : w.heap.size ≤ gb360))
         have n6_ := Aside0.mk ((by rw [hg]; exact (below_size (hz3 HB.out GE342.out GE343.out GE344.out)) : w.heap.size ≤ gb360))
         have n7_ := Aside0.mk ((by rw [hg]; exact Nat.ne_of_lt (blk_lt (g := gb342) (o := b4 a0_0 a0_1 a0_2 a0_3 25) (bz BK342.out)) : gb342 ≠ gb360))
         have n8_ := Aside0.mk ((by rw [hg]; exact Nat.ne_of_gt (blk_lt (g := gb342) (o := b4 a0_0 a0_1 a0_2 a0_3 25) (bz BK342.out)) : gb360 ≠ gb342))
         have n9_ := Aside0.mk ((by rw [hg]; exact Nat.ne_of_lt (blk_lt (g := gb343) (o := b4 a1_0 a1_1 a1_2 a1_3 25) (bz BK343.out)) : gb343 ≠ gb360))
         have n10_ := Aside0.mk ((by rw [hg]; exact Nat.ne_of_gt (blk_lt (g := gb343) (o := b4 a1_0 a1_1 a1_2 a1_3 25) (bz BK343.out)) : gb360 ≠ gb343))
         have n11_ := Aside0.mk ((by rw [hg]; exact Nat.ne_of_lt (blk_lt (g := gb344) (o := b4 0 0 0 0 25) (bz BK344.out)) : gb344 ≠ gb360))
         have n12_ := Aside0.mk ((by rw [hg]; exact Nat.ne_of_gt (blk_lt (g := gb344) (o := b4 0 0 0 0 25) (bz BK344.out)) : gb360 ≠ gb344))
         clear BK342
         clear BK343
         clear BK344
         clear HB
         have BK342 := n0_
         have BK343 := n1_
         have BK344 := n2_
         have HB := n3_
         have BK360 := n4_
         have GW360 := n5_
         have GE360 := n6_
         have NB342_360 := n7_
         have NB360_342 := n8_
         have NB343_360 := n9_
         have NB360_343 := n10_
         have NB344_360 := n11_
         have NB360_344 := n12_
         clear n0_ n1_ n2_ n3_ n4_ n5_ n6_ n7_ n8_ n9_ n10_ n11_ n12_
         clear hb hbox hg
         refine hK.out _ _ ⟨bc BK342 0, bc BK342 1, bc BK342 2, bc BK342 3, bc BK343 0, bc BK343 1, bc BK343 2, bc BK343 3⟩ (fun hHeld => ?_)
         clear hK K
         refine norm_ (a' := ?_) ?_ ?_
         rotate_left
         ·show Act.put _ (some 5) _ = _
          simp only [Act.put, List.setIfInBounds_toArray, List.set_cons_zero, List.set_cons_succ, i64_w, i32_w]
          rfl
         exact norm_ (by simp only [putAll, Act.put, List.setIfInBounds_toArray, List.set_cons_zero, List.set_cons_succ]) (hCont (gb360) _ ⟨hHeld, (bz BK342.out), (bz BK343.out), (bz BK344.out), (bz BK360.out), GW360.out, GE360.out, NB342_360.out, NB360_342.out, NB343_360.out, NB360_343.out, NB344_360.out, NB360_344.out, (hz4 HB.out GE342.out GE343.out GE344.out GE360.out)⟩)
        ·skip
         refine box_step ?hg (N := 5) ?hd (cs := #[.int .i64 0, .int .i64 0]) (t := 90) ?hr ?_; (case hd => rfl); (case hg => rfl); (case hr => first | (go_simp; done) | (go_simp; rfl))
         intro gb360 hg w62 hbox hb
         have n0_ := Aside0.mk (blk_below (g := gb342) (o := b4 a0_0 a0_1 a0_2 a0_3 25) (bz BK342.out) hb)
         have n1_ := Aside0.mk (blk_below (g := gb343) (o := b4 a1_0 a1_1 a1_2 a1_3 25) (bz BK343.out) hb)
         have n2_ := Aside0.mk (blk_below (g := gb344) (o := b4 0 0 0 0 25) (bz BK344.out) hb)
         have n3_ := Aside0.mk (below_step (hz3 HB.out GE342.out GE343.out GE344.out) hb)
         have n4_ := Aside0.mk (hbox)
         have n5_ := Aside0.mk ((by rw [hg]; exact (below_size (hz3 HB.out GE342.out GE343.out GE344.out)) : w.heap.size ≤ gb360))
         have n6_ := Aside0.mk ((by rw [hg]; exact (below_size (hz3 HB.out GE342.out GE343.out GE344.out)) : w.heap.size ≤ gb360))
         have n7_ := Aside0.mk ((by rw [hg]; exact Nat.ne_of_lt (blk_lt (g := gb342) (o := b4 a0_0 a0_1 a0_2 a0_3 25) (bz BK342.out)) : gb342 ≠ gb360))
         have n8_ := Aside0.mk ((by rw [hg]; exact Nat.ne_of_gt (blk_lt (g := gb342) (o := b4 a0_0 a0_1 a0_2 a0_3 25) (bz BK342.out)) : gb360 ≠ gb342))
         have n9_ := Aside0.mk ((by rw [hg]; exact Nat.ne_of_lt (blk_lt (g := gb343) (o := b4 a1_0 a1_1 a1_2 a1_3 25) (bz BK343.out)) : gb343 ≠ gb360))
         have n10_ := Aside0.mk ((by rw [hg]; exact Nat.ne_of_gt (blk_lt (g := gb343) (o := b4 a1_0 a1_1 a1_2 a1_3 25) (bz BK343.out)) : gb360 ≠ gb343))
         have n11_ := Aside0.mk ((by rw [hg]; exact Nat.ne_of_lt (blk_lt (g := gb344) (o := b4 0 0 0 0 25) (bz BK344.out)) : gb344 ≠ gb360))
         have n12_ := Aside0.mk ((by rw [hg]; exact Nat.ne_of_gt (blk_lt (g := gb344) (o := b4 0 0 0 0 25) (bz BK344.out)) : gb360 ≠ gb344))
         clear BK342
         clear BK343
         clear BK344
         clear HB
         have BK342 := n0_
         have BK343 := n1_
         have BK344 := n2_
         have HB := n3_
         have BK360 := n4_
         have GW360 := n5_
         have GE360 := n6_
         have NB342_360 := n7_
         have NB360_342 := n8_
         have NB343_360 := n9_
         have NB360_343 := n10_
         have NB344_360 := n11_
         have NB360_344 := n12_
         clear n0_ n1_ n2_ n3_ n4_ n5_ n6_ n7_ n8_ n9_ n10_ n11_ n12_
         clear hb hbox hg
         refine hK.out _ _ ⟨bc BK342 0, bc BK342 1, bc BK342 2, bc BK342 3, bc BK343 0, bc BK343 1, bc BK343 2, bc BK343 3⟩ (fun hHeld => ?_)
         clear hK K
         refine norm_ (a' := ?_) ?_ ?_
         rotate_left
         ·show Act.put _ (some 5) _ = _
          simp only [Act.put, List.setIfInBounds_toArray, List.set_cons_zero, List.set_cons_succ, i64_w, i32_w]
          rfl
         refine one_ (i := 4) (N := some 29) #[T, T, T, T, T, F, F, F, T, F, F] rfl rfl (one_of HT_.out (by kernel_rfl)) (by decide) (fun K hK => ?_)
         refine goes_ Try.func82 (by kernel_rfl) rfl #[.agg #[.int .i64 t353, .int .i64 t354], .agg #[.int .i64 t355, .int .i64 t356]] (by rfl) rfl rfl mz ?_
         with_reducible refine (impl_RestMeet.calls kj2 t353 t354 t355 t356 t357 t358 true _ A53.out).mono ?_
         rintro e w63 ⟨rfl, hb⟩
         refine ⟨_, rfl, ?_⟩
         have n0_ := Aside0.mk (blk_below (g := gb342) (o := b4 a0_0 a0_1 a0_2 a0_3 25) (bz BK342.out) hb)
         have n1_ := Aside0.mk (blk_below (g := gb343) (o := b4 a1_0 a1_1 a1_2 a1_3 25) (bz BK343.out) hb)
         have n2_ := Aside0.mk (blk_below (g := gb344) (o := b4 0 0 0 0 25) (bz BK344.out) hb)
         have n3_ := Aside0.mk (blk_below (g := gb360) (o := b2 0 0 90) (bz BK360.out) hb)
         have n4_ := Aside0.mk (below_step (hz4 HB.out GE342.out GE343.out GE344.out GE360.out) hb)
         clear BK342
         clear BK343
         clear BK344
         clear BK360
         clear HB
         have BK342 := n0_
         have BK343 := n1_
         have BK344 := n2_
         have BK360 := n3_
         have HB := n4_
         clear n0_ n1_ n2_ n3_ n4_
         (try clear hb)
         (try clear hb2)
         (try clear hk)
         (try clear hi)
         refine hK.out _ _ ⟨bc BK342 0, bc BK342 1, bc BK342 2, bc BK342 3, bc BK343 0, bc BK343 1, bc BK343 2, bc BK343 3⟩ (fun hHeld => ?_)
         clear hK K
         refine norm_ (a' := ?_) ?_ ?_
         rotate_left
         ·show Act.put _ (some 29) _ = _
          simp only [Act.put, List.setIfInBounds_toArray, List.set_cons_zero, List.set_cons_succ, i64_w, i32_w]
          rfl
         refine pure_ (i := 5) (N := some 24) (v := ?_) (a' := ?_) #[T, T, T, T, T, T, F, F, T, F, F] rfl rfl (any_of HT_.out (by kernel_rfl)) (fun _ _ _ h => h) (Or.inl ⟨by rfl, ?_⟩) ?_ ?_
         rotate_left
         ·exact gz
         rotate_left
         ·exact pz
         refine pure_ (i := 6) (N := some 30) (v := ?_) (a' := ?_) #[T, T, T, T, T, T, T, F, T, F, F] rfl rfl (any_of HT_.out (by kernel_rfl)) (fun _ _ _ h => h) (Or.inl ⟨by rfl, ?_⟩) ?_ ?_
         rotate_left
         ·exact gz
         rotate_left
         ·exact pz
         refine pure_ (i := 7) (N := some 31) (v := ?_) (a' := ?_) #[T, T, T, T, T, T, T, T, T, F, F] rfl rfl (any_of HT_.out (by kernel_rfl)) (fun _ _ _ h => h) (Or.inl ⟨by rfl, ?_⟩) ?_ ?_
         rotate_left
         ·exact gz
         rotate_left
         ·exact pz
         exact norm_ (by simp only [putAll, Act.put, List.setIfInBounds_toArray, List.set_cons_zero, List.set_cons_succ]) (hCont (gb360) _ ⟨hHeld, (bz BK342.out), (bz BK343.out), (bz BK344.out), (bz BK360.out), GW360.out, GE360.out, NB342_360.out, NB360_342.out, NB343_360.out, NB360_343.out, NB344_360.out, NB360_344.out, (hz4 HB.out GE342.out GE343.out GE344.out GE360.out)⟩)
       ·skip
        refine box_step ?hg (N := 5) ?hd (cs := #[.int .i64 0, .int .i64 0]) (t := 90) ?hr ?_; (case hd => rfl); (case hg => rfl); (case hr => first | (go_simp; done) | (go_simp; rfl))
        intro gb360 hg w61 hbox hb
        have n0_ := Aside0.mk (blk_below (g := gb342) (o := b4 a0_0 a0_1 a0_2 a0_3 25) (bz BK342.out) hb)
        have n1_ := Aside0.mk (blk_below (g := gb343) (o := b4 a1_0 a1_1 a1_2 a1_3 25) (bz BK343.out) hb)
        have n2_ := Aside0.mk (blk_below (g := gb344) (o := b4 0 0 0 0 25) (bz BK344.out) hb)
        have n3_ := Aside0.mk (below_step (hz3 HB.out GE342.out GE343.out GE344.out) hb)
        have n4_ := Aside0.mk (hbox)
        have n5_ := Aside0.mk ((by rw [hg]; exact (below_size (hz3 HB.out GE342.out GE343.out GE344.out)) : w.heap.size ≤ gb360))
        have n6_ := Aside0.mk ((by rw [hg]; exact (below_size (hz3 HB.out GE342.out GE343.out GE344.out)) : w.heap.size ≤ gb360))
        have n7_ := Aside0.mk ((by rw [hg]; exact Nat.ne_of_lt (blk_lt (g := gb342) (o := b4 a0_0 a0_1 a0_2 a0_3 25) (bz BK342.out)) : gb342 ≠ gb360))
        have n8_ := Aside0.mk ((by rw [hg]; exact Nat.ne_of_gt (blk_lt (g := gb342) (o := b4 a0_0 a0_1 a0_2 a0_3 25) (bz BK342.out)) : gb360 ≠ gb342))
        have n9_ := Aside0.mk ((by rw [hg]; exact Nat.ne_of_lt (blk_lt (g := gb343) (o := b4 a1_0 a1_1 a1_2 a1_3 25) (bz BK343.out)) : gb343 ≠ gb360))
        have n10_ := Aside0.mk ((by rw [hg]; exact Nat.ne_of_gt (blk_lt (g := gb343) (o := b4 a1_0 a1_1 a1_2 a1_3 25) (bz BK343.out)) : gb360 ≠ gb343))
        have n11_ := Aside0.mk ((by rw [hg]; exact Nat.ne_of_lt (blk_lt (g := gb344) (o := b4 0 0 0 0 25) (bz BK344.out)) : gb344 ≠ gb360))
        have n12_ := Aside0.mk ((by rw [hg]; exact Nat.ne_of_gt (blk_lt (g := gb344) (o := b4 0 0 0 0 25) (bz BK344.out)) : gb360 ≠ gb344))
        clear BK342
        clear BK343
        clear BK344
        clear HB
        have BK342 := n0_
        have BK343 := n1_
        have BK344 := n2_
        have HB := n3_
        have BK360 := n4_
        have GW360 := n5_
        have GE360 := n6_
        have NB342_360 := n7_
        have NB360_342 := n8_
        have NB343_360 := n9_
        have NB360_343 := n10_
        have NB344_360 := n11_
        have NB360_344 := n12_
        clear n0_ n1_ n2_ n3_ n4_ n5_ n6_ n7_ n8_ n9_ n10_ n11_ n12_
        clear hb hbox hg
        refine hK.out _ _ ⟨bc BK342 0, bc BK342 1, bc BK342 2, bc BK342 3, bc BK343 0, bc BK343 1, bc BK343 2, bc BK343 3⟩ (fun hHeld => ?_)
        clear hK K
        refine norm_ (a' := ?_) ?_ ?_
        rotate_left
        ·show Act.put _ (some 5) _ = _
         simp only [Act.put, List.setIfInBounds_toArray, List.set_cons_zero, List.set_cons_succ, i64_w, i32_w]
         rfl
        refine one_ (i := 3) (N := some 28) #[T, T, T, T, F, F, F, F, T, F, F] rfl rfl (one_of HT_.out (by kernel_rfl)) (by decide) (fun K hK => ?_)
        refine goes_ Try.func67 (by kernel_rfl) rfl #[.agg #[.int .i64 a1_0, .int .i64 a1_1, .int .i64 a1_2, .int .i64 a1_3]] (by rfl) rfl rfl mz ?_
        with_reducible refine (impl_Val_rest.calls a1_0 a1_1 a1_2 a1_3 t355 t356 _ A52.out).mono ?_
        rintro e w62 ⟨rfl, hb⟩
        refine ⟨_, rfl, ?_⟩
        have n0_ := Aside0.mk (blk_below (g := gb342) (o := b4 a0_0 a0_1 a0_2 a0_3 25) (bz BK342.out) hb)
        have n1_ := Aside0.mk (blk_below (g := gb343) (o := b4 a1_0 a1_1 a1_2 a1_3 25) (bz BK343.out) hb)
        have n2_ := Aside0.mk (blk_below (g := gb344) (o := b4 0 0 0 0 25) (bz BK344.out) hb)
        have n3_ := Aside0.mk (blk_below (g := gb360) (o := b2 0 0 90) (bz BK360.out) hb)
        have n4_ := Aside0.mk (below_step (hz4 HB.out GE342.out GE343.out GE344.out GE360.out) hb)
        clear BK342
        clear BK343
        clear BK344
        clear BK360
        clear HB
        have BK342 := n0_
        have BK343 := n1_
        have BK344 := n2_
        have BK360 := n3_
        have HB := n4_
        clear n0_ n1_ n2_ n3_ n4_
        (try clear hb)
        (try clear hb2)
        (try clear hk)
        (try clear hi)
        refine hK.out _ _ ⟨bc BK342 0, bc BK342 1, bc BK342 2, bc BK342 3, bc BK343 0, bc BK343 1, bc BK343 2, bc BK343 3⟩ (fun hHeld => ?_)
        clear hK K
        refine norm_ (a' := ?_) ?_ ?_
        rotate_left
        ·show Act.put _ (some 28) _ = _
         simp only [Act.put, List.setIfInBounds_toArray, List.set_cons_zero, List.set_cons_succ, i64_w, i32_w]
         rfl
        refine one_ (i := 4) (N := some 29) #[T, T, T, T, T, F, F, F, T, F, F] rfl rfl (one_of HT_.out (by kernel_rfl)) (by decide) (fun K hK => ?_)
        refine goes_ Try.func82 (by kernel_rfl) rfl #[.agg #[.int .i64 t353, .int .i64 t354], .agg #[.int .i64 t355, .int .i64 t356]] (by rfl) rfl rfl mz ?_
        with_reducible refine (impl_RestMeet.calls kj2 t353 t354 t355 t356 t357 t358 true _ A53.out).mono ?_
        rintro e w63 ⟨rfl, hb⟩
        refine ⟨_, rfl, ?_⟩
        have n0_ := Aside0.mk (blk_below (g := gb342) (o := b4 a0_0 a0_1 a0_2 a0_3 25) (bz BK342.out) hb)
        have n1_ := Aside0.mk (blk_below (g := gb343) (o := b4 a1_0 a1_1 a1_2 a1_3 25) (bz BK343.out) hb)
        have n2_ := Aside0.mk (blk_below (g := gb344) (o := b4 0 0 0 0 25) (bz BK344.out) hb)
        have n3_ := Aside0.mk (blk_below (g := gb360) (o := b2 0 0 90) (bz BK360.out) hb)
        have n4_ := Aside0.mk (below_step (hz4 HB.out GE342.out GE343.out GE344.out GE360.out) hb)
        clear BK342
        clear BK343
        clear BK344
        clear BK360
        clear HB
        have BK342 := n0_
        have BK343 := n1_
        have BK344 := n2_
        have BK360 := n3_
        have HB := n4_
        clear n0_ n1_ n2_ n3_ n4_
        (try clear hb)
        (try clear hb2)
        (try clear hk)
        (try clear hi)
        refine hK.out _ _ ⟨bc BK342 0, bc BK342 1, bc BK342 2, bc BK342 3, bc BK343 0, bc BK343 1, bc BK343 2, bc BK343 3⟩ (fun hHeld => ?_)
        clear hK K
        refine norm_ (a' := ?_) ?_ ?_
        rotate_left
        ·show Act.put _ (some 29) _ = _
         simp only [Act.put, List.setIfInBounds_toArray, List.set_cons_zero, List.set_cons_succ, i64_w, i32_w]
         rfl
        refine pure_ (i := 5) (N := some 24) (v := ?_) (a' := ?_) #[T, T, T, T, T, T, F, F, T, F, F] rfl rfl (any_of HT_.out (by kernel_rfl)) (fun _ _ _ h => h) (Or.inl ⟨by rfl, ?_⟩) ?_ ?_
        rotate_left
        ·exact gz
        rotate_left
        ·exact pz
        refine pure_ (i := 6) (N := some 30) (v := ?_) (a' := ?_) #[T, T, T, T, T, T, T, F, T, F, F] rfl rfl (any_of HT_.out (by kernel_rfl)) (fun _ _ _ h => h) (Or.inl ⟨by rfl, ?_⟩) ?_ ?_
        rotate_left
        ·exact gz
        rotate_left
        ·exact pz
        refine pure_ (i := 7) (N := some 31) (v := ?_) (a' := ?_) #[T, T, T, T, T, T, T, T, T, F, F] rfl rfl (any_of HT_.out (by kernel_rfl)) (fun _ _ _ h => h) (Or.inl ⟨by rfl, ?_⟩) ?_ ?_
        rotate_left
        ·exact gz
        rotate_left
        ·exact pz
        exact norm_ (by simp only [putAll, Act.put, List.setIfInBounds_toArray, List.set_cons_zero, List.set_cons_succ]) (hCont (gb360) _ ⟨hHeld, (bz BK342.out), (bz BK343.out), (bz BK344.out), (bz BK360.out), GW360.out, GE360.out, NB342_360.out, NB360_342.out, NB343_360.out, NB360_343.out, NB344_360.out, NB360_344.out, (hz4 HB.out GE342.out GE343.out GE344.out GE360.out)⟩)
      ·skip
       refine box_step ?hg (N := 5) ?hd (cs := #[.int .i64 0, .int .i64 0]) (t := 90) ?hr ?_; (case hd => rfl); (case hg => rfl); (case hr => first | (go_simp; done) | (go_simp; rfl))
       intro gb360 hg w60 hbox hb
       have n0_ := Aside0.mk (blk_below (g := gb342) (o := b4 a0_0 a0_1 a0_2 a0_3 25) (bz BK342.out) hb)
       have n1_ := Aside0.mk (blk_below (g := gb343) (o := b4 a1_0 a1_1 a1_2 a1_3 25) (bz BK343.out) hb)
       have n2_ := Aside0.mk (blk_below (g := gb344) (o := b4 0 0 0 0 25) (bz BK344.out) hb)
       have n3_ := Aside0.mk (below_step (hz3 HB.out GE342.out GE343.out GE344.out) hb)
       have n4_ := Aside0.mk (hbox)
       have n5_ := Aside0.mk ((by rw [hg]; exact (below_size (hz3 HB.out GE342.out GE343.out GE344.out)) : w.heap.size ≤ gb360))
       have n6_ := Aside0.mk ((by rw [hg]; exact (below_size (hz3 HB.out GE342.out GE343.out GE344.out)) : w.heap.size ≤ gb360))
       have n7_ := Aside0.mk ((by rw [hg]; exact Nat.ne_of_lt (blk_lt (g := gb342) (o := b4 a0_0 a0_1 a0_2 a0_3 25) (bz BK342.out)) : gb342 ≠ gb360))
       have n8_ := Aside0.mk ((by rw [hg]; exact Nat.ne_of_gt (blk_lt (g := gb342) (o := b4 a0_0 a0_1 a0_2 a0_3 25) (bz BK342.out)) : gb360 ≠ gb342))
       have n9_ := Aside0.mk ((by rw [hg]; exact Nat.ne_of_lt (blk_lt (g := gb343) (o := b4 a1_0 a1_1 a1_2 a1_3 25) (bz BK343.out)) : gb343 ≠ gb360))
       have n10_ := Aside0.mk ((by rw [hg]; exact Nat.ne_of_gt (blk_lt (g := gb343) (o := b4 a1_0 a1_1 a1_2 a1_3 25) (bz BK343.out)) : gb360 ≠ gb343))
       have n11_ := Aside0.mk ((by rw [hg]; exact Nat.ne_of_lt (blk_lt (g := gb344) (o := b4 0 0 0 0 25) (bz BK344.out)) : gb344 ≠ gb360))
       have n12_ := Aside0.mk ((by rw [hg]; exact Nat.ne_of_gt (blk_lt (g := gb344) (o := b4 0 0 0 0 25) (bz BK344.out)) : gb360 ≠ gb344))
       clear BK342
       clear BK343
       clear BK344
       clear HB
       have BK342 := n0_
       have BK343 := n1_
       have BK344 := n2_
       have HB := n3_
       have BK360 := n4_
       have GW360 := n5_
       have GE360 := n6_
       have NB342_360 := n7_
       have NB360_342 := n8_
       have NB343_360 := n9_
       have NB360_343 := n10_
       have NB344_360 := n11_
       have NB360_344 := n12_
       clear n0_ n1_ n2_ n3_ n4_ n5_ n6_ n7_ n8_ n9_ n10_ n11_ n12_
       clear hb hbox hg
       refine hK.out _ _ ⟨bc BK342 0, bc BK342 1, bc BK342 2, bc BK342 3, bc BK343 0, bc BK343 1, bc BK343 2, bc BK343 3⟩ (fun hHeld => ?_)
       clear hK K
       refine norm_ (a' := ?_) ?_ ?_
       rotate_left
       ·show Act.put _ (some 5) _ = _
        simp only [Act.put, List.setIfInBounds_toArray, List.set_cons_zero, List.set_cons_succ, i64_w, i32_w]
        rfl
       refine one_ (i := 1) (N := some 26) #[T, T, T, F, F, F, F, F, T, F, F] rfl rfl (one_of HT_.out (by kernel_rfl)) (by decide) (fun K hK => ?_)
       refine goes_ Try.func67 (by kernel_rfl) rfl #[.agg #[.int .i64 a0_0, .int .i64 a0_1, .int .i64 a0_2, .int .i64 a0_3]] (by rfl) rfl rfl mz ?_
       with_reducible refine (impl_Val_rest.calls a0_0 a0_1 a0_2 a0_3 t353 t354 _ A51.out).mono ?_
       rintro e w61 ⟨rfl, hb⟩
       refine ⟨_, rfl, ?_⟩
       have n0_ := Aside0.mk (blk_below (g := gb342) (o := b4 a0_0 a0_1 a0_2 a0_3 25) (bz BK342.out) hb)
       have n1_ := Aside0.mk (blk_below (g := gb343) (o := b4 a1_0 a1_1 a1_2 a1_3 25) (bz BK343.out) hb)
       have n2_ := Aside0.mk (blk_below (g := gb344) (o := b4 0 0 0 0 25) (bz BK344.out) hb)
       have n3_ := Aside0.mk (blk_below (g := gb360) (o := b2 0 0 90) (bz BK360.out) hb)
       have n4_ := Aside0.mk (below_step (hz4 HB.out GE342.out GE343.out GE344.out GE360.out) hb)
       clear BK342
       clear BK343
       clear BK344
       clear BK360
       clear HB
       have BK342 := n0_
       have BK343 := n1_
       have BK344 := n2_
       have BK360 := n3_
       have HB := n4_
       clear n0_ n1_ n2_ n3_ n4_
       (try clear hb)
       (try clear hb2)
       (try clear hk)
       (try clear hi)
       refine hK.out _ _ ⟨bc BK342 0, bc BK342 1, bc BK342 2, bc BK342 3, bc BK343 0, bc BK343 1, bc BK343 2, bc BK343 3⟩ (fun hHeld => ?_)
       clear hK K
       refine norm_ (a' := ?_) ?_ ?_
       rotate_left
       ·show Act.put _ (some 26) _ = _
        simp only [Act.put, List.setIfInBounds_toArray, List.set_cons_zero, List.set_cons_succ, i64_w, i32_w]
        rfl
       refine one_ (i := 3) (N := some 28) #[T, T, T, T, F, F, F, F, T, F, F] rfl rfl (one_of HT_.out (by kernel_rfl)) (by decide) (fun K hK => ?_)
       refine goes_ Try.func67 (by kernel_rfl) rfl #[.agg #[.int .i64 a1_0, .int .i64 a1_1, .int .i64 a1_2, .int .i64 a1_3]] (by rfl) rfl rfl mz ?_
       with_reducible refine (impl_Val_rest.calls a1_0 a1_1 a1_2 a1_3 t355 t356 _ A52.out).mono ?_
       rintro e w62 ⟨rfl, hb⟩
       refine ⟨_, rfl, ?_⟩
       have n0_ := Aside0.mk (blk_below (g := gb342) (o := b4 a0_0 a0_1 a0_2 a0_3 25) (bz BK342.out) hb)
       have n1_ := Aside0.mk (blk_below (g := gb343) (o := b4 a1_0 a1_1 a1_2 a1_3 25) (bz BK343.out) hb)
       have n2_ := Aside0.mk (blk_below (g := gb344) (o := b4 0 0 0 0 25) (bz BK344.out) hb)
       have n3_ := Aside0.mk (blk_below (g := gb360) (o := b2 0 0 90) (bz BK360.out) hb)
       have n4_ := Aside0.mk (below_step (hz4 HB.out GE342.out GE343.out GE344.out GE360.out) hb)
       clear BK342
       clear BK343
       clear BK344
       clear BK360
       clear HB
       have BK342 := n0_
       have BK343 := n1_
       have BK344 := n2_
       have BK360 := n3_
       have HB := n4_
       clear n0_ n1_ n2_ n3_ n4_
       (try clear hb)
       (try clear hb2)
       (try clear hk)
       (try clear hi)
       refine hK.out _ _ ⟨bc BK342 0, bc BK342 1, bc BK342 2, bc BK342 3, bc BK343 0, bc BK343 1, bc BK343 2, bc BK343 3⟩ (fun hHeld => ?_)
       clear hK K
       refine norm_ (a' := ?_) ?_ ?_
       rotate_left
       ·show Act.put _ (some 28) _ = _
        simp only [Act.put, List.setIfInBounds_toArray, List.set_cons_zero, List.set_cons_succ, i64_w, i32_w]
        rfl
       refine one_ (i := 4) (N := some 29) #[T, T, T, T, T, F, F, F, T, F, F] rfl rfl (one_of HT_.out (by kernel_rfl)) (by decide) (fun K hK => ?_)
       refine goes_ Try.func82 (by kernel_rfl) rfl #[.agg #[.int .i64 t353, .int .i64 t354], .agg #[.int .i64 t355, .int .i64 t356]] (by rfl) rfl rfl mz ?_
       with_reducible refine (impl_RestMeet.calls kj2 t353 t354 t355 t356 t357 t358 true _ A53.out).mono ?_
       rintro e w63 ⟨rfl, hb⟩
       refine ⟨_, rfl, ?_⟩
       have n0_ := Aside0.mk (blk_below (g := gb342) (o := b4 a0_0 a0_1 a0_2 a0_3 25) (bz BK342.out) hb)
       have n1_ := Aside0.mk (blk_below (g := gb343) (o := b4 a1_0 a1_1 a1_2 a1_3 25) (bz BK343.out) hb)
       have n2_ := Aside0.mk (blk_below (g := gb344) (o := b4 0 0 0 0 25) (bz BK344.out) hb)
       have n3_ := Aside0.mk (blk_below (g := gb360) (o := b2 0 0 90) (bz BK360.out) hb)
       have n4_ := Aside0.mk (below_step (hz4 HB.out GE342.out GE343.out GE344.out GE360.out) hb)
       clear BK342
       clear BK343
       clear BK344
       clear BK360
       clear HB
       have BK342 := n0_
       have BK343 := n1_
       have BK344 := n2_
       have BK360 := n3_
       have HB := n4_
       clear n0_ n1_ n2_ n3_ n4_
       (try clear hb)
       (try clear hb2)
       (try clear hk)
       (try clear hi)
       refine hK.out _ _ ⟨bc BK342 0, bc BK342 1, bc BK342 2, bc BK342 3, bc BK343 0, bc BK343 1, bc BK343 2, bc BK343 3⟩ (fun hHeld => ?_)
       clear hK K
       refine norm_ (a' := ?_) ?_ ?_
       rotate_left
       ·show Act.put _ (some 29) _ = _
        simp only [Act.put, List.setIfInBounds_toArray, List.set_cons_zero, List.set_cons_succ, i64_w, i32_w]
        rfl
       refine pure_ (i := 5) (N := some 24) (v := ?_) (a' := ?_) #[T, T, T, T, T, T, F, F, T, F, F] rfl rfl (any_of HT_.out (by kernel_rfl)) (fun _ _ _ h => h) (Or.inl ⟨by rfl, ?_⟩) ?_ ?_
       rotate_left
       ·exact gz
       rotate_left
       ·exact pz
       refine pure_ (i := 6) (N := some 30) (v := ?_) (a' := ?_) #[T, T, T, T, T, T, T, F, T, F, F] rfl rfl (any_of HT_.out (by kernel_rfl)) (fun _ _ _ h => h) (Or.inl ⟨by rfl, ?_⟩) ?_ ?_
       rotate_left
       ·exact gz
       rotate_left
       ·exact pz
       refine pure_ (i := 7) (N := some 31) (v := ?_) (a' := ?_) #[T, T, T, T, T, T, T, T, T, F, F] rfl rfl (any_of HT_.out (by kernel_rfl)) (fun _ _ _ h => h) (Or.inl ⟨by rfl, ?_⟩) ?_ ?_
       rotate_left
       ·exact gz
       rotate_left
       ·exact pz
       exact norm_ (by simp only [putAll, Act.put, List.setIfInBounds_toArray, List.set_cons_zero, List.set_cons_succ]) (hCont (gb360) _ ⟨hHeld, (bz BK342.out), (bz BK343.out), (bz BK344.out), (bz BK360.out), GW360.out, GE360.out, NB342_360.out, NB360_342.out, NB343_360.out, NB360_343.out, NB344_360.out, NB360_344.out, (hz4 HB.out GE342.out GE343.out GE344.out GE360.out)⟩)
     rintro gb360 w64 ⟨hS_, h0_, h1_, h2_, h3_, h4_, h5_, h6_, h7_, h8_, h9_, h10_, h11_, h12_⟩
     have n0_ : Aside0 (w64.heap[gb342]? = some (.cells #[.int .i64 a0_0, .int .i64 a0_1, .int .i64 a0_2, .int .i64 a0_3] 25 (0, 0))) := ⟨h0_⟩
     have n1_ : Aside0 (w64.heap[gb343]? = some (.cells #[.int .i64 a1_0, .int .i64 a1_1, .int .i64 a1_2, .int .i64 a1_3] 25 (0, 0))) := ⟨h1_⟩
     have n2_ : Aside0 (w64.heap[gb344]? = some (.cells #[.int .i64 0, .int .i64 0, .int .i64 0, .int .i64 0] 25 (0, 0))) := ⟨h2_⟩
     have n3_ : Aside0 (w64.heap[gb360]? = some (.cells #[.int .i64 0, .int .i64 0] 90 (0, 0))) := ⟨h3_⟩
     have n4_ : Aside0 (w.heap.size ≤ gb360) := ⟨h4_⟩
     have n5_ : Aside0 (w.heap.size ≤ gb360) := ⟨h5_⟩
     have n6_ : Aside0 (gb342 ≠ gb360) := ⟨h6_⟩
     have n7_ : Aside0 (gb360 ≠ gb342) := ⟨h7_⟩
     have n8_ : Aside0 (gb343 ≠ gb360) := ⟨h8_⟩
     have n9_ : Aside0 (gb360 ≠ gb343) := ⟨h9_⟩
     have n10_ : Aside0 (gb344 ≠ gb360) := ⟨h10_⟩
     have n11_ : Aside0 (gb360 ≠ gb344) := ⟨h11_⟩
     have n12_ : Aside0 (Below w.heap.size w w64) := ⟨h12_⟩
     clear BK342
     clear BK343
     clear BK344
     clear HB
     clear h0_ h1_ h2_ h3_ h4_ h5_ h6_ h7_ h8_ h9_ h10_ h11_ h12_
     have BK342 := n0_
     have BK343 := n1_
     have BK344 := n2_
     have BK360 := n3_
     have GW360 := n4_
     have GE360 := n5_
     have NB342_360 := n6_
     have NB360_342 := n7_
     have NB343_360 := n8_
     have NB360_343 := n9_
     have NB344_360 := n10_
     have NB360_344 := n11_
     have HB := n12_
     clear n0_ n1_ n2_ n3_ n4_ n5_ n6_ n7_ n8_ n9_ n10_ n11_ n12_
     have hHeld : w64.cell? ⟨gb342, 0, none⟩ = some (.int .i64 a0_0) ∧ w64.cell? ⟨gb342, 1, none⟩ = some (.int .i64 a0_1) ∧ w64.cell? ⟨gb342, 2, none⟩ = some (.int .i64 a0_2) ∧ w64.cell? ⟨gb342, 3, none⟩ = some (.int .i64 a0_3) ∧ w64.cell? ⟨gb343, 0, none⟩ = some (.int .i64 a1_0) ∧ w64.cell? ⟨gb343, 1, none⟩ = some (.int .i64 a1_1) ∧ w64.cell? ⟨gb343, 2, none⟩ = some (.int .i64 a1_2) ∧ w64.cell? ⟨gb343, 3, none⟩ = some (.int .i64 a1_3) := hS_
     refine norm_ (a' := ?_) ?_ ?_
     rotate_left
     ·simp only [putAll, Act.put, List.setIfInBounds_toArray, List.set_cons_zero, List.set_cons_succ]
      rfl
     refine one_ (i := 9) (N := none) #[T, T, T, T, T, T, T, T, T, T, F] rfl rfl (one_of HT_.out (by kernel_rfl)) (by decide) (fun K hK => ?_)
     have hs65 : w64.cell? ⟨gb360, 0, none⟩ = some (.int .i64 0) := bc BK360 0
     have hfs65 := blk_frozen BK360.out 0
     have hns65_0 := NB342_360.out
     have hns65_1 := NB343_360.out
     have hns65_2 := NB344_360.out
     have hms65_0 := NB360_342.out
     have hms65_1 := NB360_343.out
     have hms65_2 := NB360_344.out
     have hs66 : w64.cell? ⟨gb360, 1, none⟩ = some (.int .i64 0) := bc BK360 1
     have hfs66 := blk_frozen BK360.out 1
     have hns66_0 := NB342_360.out
     have hns66_1 := NB343_360.out
     have hns66_2 := NB344_360.out
     have hms66_0 := NB360_342.out
     have hms66_1 := NB360_343.out
     have hms66_2 := NB360_344.out
     refine skip_ (w1 := ?_) (by rfl) rfl ?_ ?_
     rotate_left
     ·go_simp
      rfl
     refine hK.out _ _ ⟨((cell_far (p := ⟨gb360, _, none⟩) NB342_360.out _).trans (((cell_far (p := ⟨gb360, _, none⟩) NB342_360.out _).trans (hHeld.1)))), ((cell_far (p := ⟨gb360, _, none⟩) NB342_360.out _).trans (((cell_far (p := ⟨gb360, _, none⟩) NB342_360.out _).trans (hHeld.2.1)))), ((cell_far (p := ⟨gb360, _, none⟩) NB342_360.out _).trans (((cell_far (p := ⟨gb360, _, none⟩) NB342_360.out _).trans (hHeld.2.2.1)))), ((cell_far (p := ⟨gb360, _, none⟩) NB342_360.out _).trans (((cell_far (p := ⟨gb360, _, none⟩) NB342_360.out _).trans (hHeld.2.2.2.1)))), ((cell_far (p := ⟨gb360, _, none⟩) NB343_360.out _).trans (((cell_far (p := ⟨gb360, _, none⟩) NB343_360.out _).trans (hHeld.2.2.2.2.1)))), ((cell_far (p := ⟨gb360, _, none⟩) NB343_360.out _).trans (((cell_far (p := ⟨gb360, _, none⟩) NB343_360.out _).trans (hHeld.2.2.2.2.2.1)))), ((cell_far (p := ⟨gb360, _, none⟩) NB343_360.out _).trans (((cell_far (p := ⟨gb360, _, none⟩) NB343_360.out _).trans (hHeld.2.2.2.2.2.2.1)))), ((cell_far (p := ⟨gb360, _, none⟩) NB343_360.out _).trans (((cell_far (p := ⟨gb360, _, none⟩) NB343_360.out _).trans (hHeld.2.2.2.2.2.2.2))))⟩ (fun hHeld => ?_)
     clear hK K
     refine pure_ (i := 10) (N := some 6) (v := ?_) (a' := ?_) #[T, T, T, T, T, T, T, T, T, T, T] rfl rfl (any_of HT_.out (by kernel_rfl)) (fun _ _ _ h => h) (Or.inl ⟨by rfl, ?_⟩) ?_ ?_
     rotate_left
     ·exact gz
     rotate_left
     ·exact pz
     refine done_ (done_of HT_.out (by kernel_rfl)) ?_
     try go_wp2
     have n0_ : Aside0 (((w64.setCell ⟨gb360, 0, none⟩ (.int .i64 t357)).setCell ⟨gb360, 1, none⟩ (.int .i64 t358)).heap[gb342]? = some (.cells #[.int .i64 a0_0, .int .i64 a0_1, .int .i64 a0_2, .int .i64 a0_3] 25 (0, 0))) := ⟨by (with_reducible repeat (first | refine blk_drewN ?_ _ | refine blk_drew ?_ | refine blk_alloc ?_ _)); refine blk_far ?_ NB342_360.out _; (with_reducible repeat (first | refine blk_drewN ?_ _ | refine blk_drew ?_ | refine blk_alloc ?_ _)); refine blk_far ?_ NB342_360.out _; (with_reducible repeat (first | refine blk_drewN ?_ _ | refine blk_drew ?_ | refine blk_alloc ?_ _)); exact BK342.out⟩
     have n1_ : Aside0 (((w64.setCell ⟨gb360, 0, none⟩ (.int .i64 t357)).setCell ⟨gb360, 1, none⟩ (.int .i64 t358)).heap[gb343]? = some (.cells #[.int .i64 a1_0, .int .i64 a1_1, .int .i64 a1_2, .int .i64 a1_3] 25 (0, 0))) := ⟨by (with_reducible repeat (first | refine blk_drewN ?_ _ | refine blk_drew ?_ | refine blk_alloc ?_ _)); refine blk_far ?_ NB343_360.out _; (with_reducible repeat (first | refine blk_drewN ?_ _ | refine blk_drew ?_ | refine blk_alloc ?_ _)); refine blk_far ?_ NB343_360.out _; (with_reducible repeat (first | refine blk_drewN ?_ _ | refine blk_drew ?_ | refine blk_alloc ?_ _)); exact BK343.out⟩
     have n2_ : Aside0 (((w64.setCell ⟨gb360, 0, none⟩ (.int .i64 t357)).setCell ⟨gb360, 1, none⟩ (.int .i64 t358)).heap[gb344]? = some (.cells #[.int .i64 0, .int .i64 0, .int .i64 0, .int .i64 0] 25 (0, 0))) := ⟨by (with_reducible repeat (first | refine blk_drewN ?_ _ | refine blk_drew ?_ | refine blk_alloc ?_ _)); refine blk_far ?_ NB344_360.out _; (with_reducible repeat (first | refine blk_drewN ?_ _ | refine blk_drew ?_ | refine blk_alloc ?_ _)); refine blk_far ?_ NB344_360.out _; (with_reducible repeat (first | refine blk_drewN ?_ _ | refine blk_drew ?_ | refine blk_alloc ?_ _)); exact BK344.out⟩
     have n3_ : Aside0 (((w64.setCell ⟨gb360, 0, none⟩ (.int .i64 t357)).setCell ⟨gb360, 1, none⟩ (.int .i64 t358)).heap[gb360]? = some (.cells #[.int .i64 t357, .int .i64 t358] 90 (0, 0))) := ⟨by (with_reducible repeat (first | refine blk_drewN ?_ _ | refine blk_drew ?_ | refine blk_alloc ?_ _)); refine blk_put (cs := #[.int .i64 t357, .int .i64 0]) ?_ 1 _ rfl; (with_reducible repeat (first | refine blk_drewN ?_ _ | refine blk_drew ?_ | refine blk_alloc ?_ _)); refine blk_put (cs := #[.int .i64 0, .int .i64 0]) ?_ 0 _ rfl; (with_reducible repeat (first | refine blk_drewN ?_ _ | refine blk_drew ?_ | refine blk_alloc ?_ _)); exact BK360.out⟩
     have n4_ : Aside0 (Below w.heap.size w ((w64.setCell ⟨gb360, 0, none⟩ (.int .i64 t357)).setCell ⟨gb360, 1, none⟩ (.int .i64 t358))) := ⟨hz4 HB.out GE342.out GE343.out GE344.out GE360.out⟩
     (try clear BK342)
     (try clear BK343)
     (try clear BK344)
     (try clear BK360)
     (try clear HB)
     generalize ((w64.setCell ⟨gb360, 0, none⟩ (.int .i64 t357)).setCell ⟨gb360, 1, none⟩ (.int .i64 t358)) = w67 at n0_ n1_ n2_ n3_ n4_ ⊢
     have BK342 := n0_
     have BK343 := n1_
     have BK344 := n2_
     have BK360 := n3_
     have HB := n4_
     clear n0_ n1_ n2_ n3_ n4_
     have n0_ := Aside0.mk (blk_drew BK342.out)
     have n1_ := Aside0.mk (blk_drew BK343.out)
     have n2_ := Aside0.mk (blk_drew BK344.out)
     have n3_ := Aside0.mk (blk_drew BK360.out)
     have n4_ := Aside0.mk (below_drew1 HB.out)
     clear BK342
     clear BK343
     clear BK344
     clear BK360
     clear HB
     have BK342 := n0_
     have BK343 := n1_
     have BK344 := n2_
     have BK360 := n3_
     have HB := n4_
     clear n0_ n1_ n2_ n3_ n4_
     refine start_ (n := 8) (S := fun w' => w'.cell? ⟨gb342, 0, none⟩ = some (.int .i64 a0_0) ∧ w'.cell? ⟨gb342, 1, none⟩ = some (.int .i64 a0_1) ∧ w'.cell? ⟨gb342, 2, none⟩ = some (.int .i64 a0_2) ∧ w'.cell? ⟨gb342, 3, none⟩ = some (.int .i64 a0_3) ∧ w'.cell? ⟨gb343, 0, none⟩ = some (.int .i64 a1_0) ∧ w'.cell? ⟨gb343, 1, none⟩ = some (.int .i64 a1_1) ∧ w'.cell? ⟨gb343, 2, none⟩ = some (.int .i64 a1_2) ∧ w'.cell? ⟨gb343, 3, none⟩ = some (.int .i64 a1_3) ∧ w'.cell? ⟨gb360, 0, none⟩ = some (.int .i64 t357) ∧ w'.cell? ⟨gb360, 1, none⟩ = some (.int .i64 t358)) (ds := []) #[F, F, F, F, F, F, F, F] (by kernel_rfl) rfl rfl ⟨bc BK342 0, bc BK342 1, bc BK342 2, bc BK342 3, bc BK343 0, bc BK343 1, bc BK343 2, bc BK343 3, bc BK360 0, bc BK360 1⟩ (fun hHeld => ?_); refine with_tabW impl_ValMeet.tab6 impl_ValMeet.bits6 (fun HT_ HW_ => ?_)
     generalize w67.drew = w68 at BK342 BK343 BK344 BK360 HB hHeld ⊢
     refine take_ (i := 0) (N := some 35) (v := ?_) (a' := ?_) #[T, F, F, F, F, F, F, F] rfl rfl (take_ofW HT_.out HW_.out (by kernel_rfl)) (fun _ _ _ h => h) (Or.inl ⟨by rfl, ?_⟩) hHeld ?_ ?_
     rotate_left
     ·rintro w' ⟨s0, s1, s2, s3, s4, s5, s6, s7, s8, s9⟩
      go_simp
      with_reducible rfl
     rotate_left
     ·exact pz
     refine take_ (i := 2) (N := some 37) (v := ?_) (a' := ?_) #[T, F, T, F, F, F, F, F] rfl rfl (take_ofW HT_.out HW_.out (by kernel_rfl)) (fun _ _ _ h => h) (Or.inl ⟨by rfl, ?_⟩) hHeld ?_ ?_
     rotate_left
     ·rintro w' ⟨s0, s1, s2, s3, s4, s5, s6, s7, s8, s9⟩
      go_simp
      with_reducible rfl
     rotate_left
     ·exact pz
     refine take_ (i := 5) (N := some 40) (v := ?_) (a' := ?_) #[T, F, T, F, F, T, F, F] rfl rfl (take_ofW HT_.out HW_.out (by kernel_rfl)) (fun _ _ _ h => h) (Or.inl ⟨by rfl, ?_⟩) hHeld ?_ ?_
     rotate_left
     ·rintro w' ⟨s0, s1, s2, s3, s4, s5, s6, s7, s8, s9⟩
      go_simp
      with_reducible rfl
     rotate_left
     ·exact pz
     refine one_ (i := 1) (N := some 36) #[T, T, T, F, F, T, F, F] rfl rfl (one_of HT_.out (by kernel_rfl)) (by decide) (fun K hK => ?_)
     refine goes_ Try.func65 (by kernel_rfl) rfl #[.agg #[.int .i64 a0_0, .int .i64 a0_1, .int .i64 a0_2, .int .i64 a0_3]] (by rfl) rfl rfl mz ?_
     with_reducible refine (impl_Val_span.calls a0_0 a0_1 a0_2 a0_3 t365 t366 _ A55.out).mono ?_
     rintro e w69 ⟨rfl, hb⟩
     refine ⟨_, rfl, ?_⟩
     have n0_ := Aside0.mk (blk_below (g := gb342) (o := b4 a0_0 a0_1 a0_2 a0_3 25) (bz BK342.out) hb)
     have n1_ := Aside0.mk (blk_below (g := gb343) (o := b4 a1_0 a1_1 a1_2 a1_3 25) (bz BK343.out) hb)
     have n2_ := Aside0.mk (blk_below (g := gb344) (o := b4 0 0 0 0 25) (bz BK344.out) hb)
     have n3_ := Aside0.mk (blk_below (g := gb360) (o := b2 t357 t358 90) (bz BK360.out) hb)
     have n4_ := Aside0.mk (below_step (hz4 HB.out GE342.out GE343.out GE344.out GE360.out) hb)
     clear BK342
     clear BK343
     clear BK344
     clear BK360
     clear HB
     have BK342 := n0_
     have BK343 := n1_
     have BK344 := n2_
     have BK360 := n3_
     have HB := n4_
     clear n0_ n1_ n2_ n3_ n4_
     (try clear hb)
     (try clear hb2)
     (try clear hk)
     (try clear hi)
     refine hK.out _ _ ⟨bc BK342 0, bc BK342 1, bc BK342 2, bc BK342 3, bc BK343 0, bc BK343 1, bc BK343 2, bc BK343 3, bc BK360 0, bc BK360 1⟩ (fun hHeld => ?_)
     clear hK K
     refine norm_ (a' := ?_) ?_ ?_
     rotate_left
     ·show Act.put _ (some 36) _ = _
      simp only [Act.put, List.setIfInBounds_toArray, List.set_cons_zero, List.set_cons_succ, i64_w, i32_w]
      rfl
     refine one_ (i := 3) (N := some 38) #[T, T, T, T, F, T, F, F] rfl rfl (one_of HT_.out (by kernel_rfl)) (by decide) (fun K hK => ?_)
     refine goes_ Try.func65 (by kernel_rfl) rfl #[.agg #[.int .i64 a1_0, .int .i64 a1_1, .int .i64 a1_2, .int .i64 a1_3]] (by rfl) rfl rfl mz ?_
     with_reducible refine (impl_Val_span.calls a1_0 a1_1 a1_2 a1_3 t367 t368 _ A56.out).mono ?_
     rintro e w70 ⟨rfl, hb⟩
     refine ⟨_, rfl, ?_⟩
     have n0_ := Aside0.mk (blk_below (g := gb342) (o := b4 a0_0 a0_1 a0_2 a0_3 25) (bz BK342.out) hb)
     have n1_ := Aside0.mk (blk_below (g := gb343) (o := b4 a1_0 a1_1 a1_2 a1_3 25) (bz BK343.out) hb)
     have n2_ := Aside0.mk (blk_below (g := gb344) (o := b4 0 0 0 0 25) (bz BK344.out) hb)
     have n3_ := Aside0.mk (blk_below (g := gb360) (o := b2 t357 t358 90) (bz BK360.out) hb)
     have n4_ := Aside0.mk (below_step (hz4 HB.out GE342.out GE343.out GE344.out GE360.out) hb)
     clear BK342
     clear BK343
     clear BK344
     clear BK360
     clear HB
     have BK342 := n0_
     have BK343 := n1_
     have BK344 := n2_
     have BK360 := n3_
     have HB := n4_
     clear n0_ n1_ n2_ n3_ n4_
     (try clear hb)
     (try clear hb2)
     (try clear hk)
     (try clear hi)
     refine hK.out _ _ ⟨bc BK342 0, bc BK342 1, bc BK342 2, bc BK342 3, bc BK343 0, bc BK343 1, bc BK343 2, bc BK343 3, bc BK360 0, bc BK360 1⟩ (fun hHeld => ?_)
     clear hK K
     refine norm_ (a' := ?_) ?_ ?_
     rotate_left
     ·show Act.put _ (some 38) _ = _
      simp only [Act.put, List.setIfInBounds_toArray, List.set_cons_zero, List.set_cons_succ, i64_w, i32_w]
      rfl
     refine one_ (i := 4) (N := some 39) #[T, T, T, T, T, T, F, F] rfl rfl (one_of HT_.out (by kernel_rfl)) (by decide) (fun K hK => ?_)
     refine goes_ Try.func83 (by kernel_rfl) rfl #[.agg #[.int .i64 t365, .int .i64 t366], .agg #[.int .i64 t367, .int .i64 t368]] (by rfl) rfl rfl mz ?_
     with_reducible refine (impl_RangeMeet.calls kj2 t365 t366 t367 t368 t369 t370 _ A57.out).mono ?_
     rintro e w71 ⟨rfl, hb⟩
     refine ⟨_, rfl, ?_⟩
     have n0_ := Aside0.mk (blk_below (g := gb342) (o := b4 a0_0 a0_1 a0_2 a0_3 25) (bz BK342.out) hb)
     have n1_ := Aside0.mk (blk_below (g := gb343) (o := b4 a1_0 a1_1 a1_2 a1_3 25) (bz BK343.out) hb)
     have n2_ := Aside0.mk (blk_below (g := gb344) (o := b4 0 0 0 0 25) (bz BK344.out) hb)
     have n3_ := Aside0.mk (blk_below (g := gb360) (o := b2 t357 t358 90) (bz BK360.out) hb)
     have n4_ := Aside0.mk (below_step (hz4 HB.out GE342.out GE343.out GE344.out GE360.out) hb)
     clear BK342
     clear BK343
     clear BK344
     clear BK360
     clear HB
     have BK342 := n0_
     have BK343 := n1_
     have BK344 := n2_
     have BK360 := n3_
     have HB := n4_
     clear n0_ n1_ n2_ n3_ n4_
     (try clear hb)
     (try clear hb2)
     (try clear hk)
     (try clear hi)
     refine hK.out _ _ ⟨bc BK342 0, bc BK342 1, bc BK342 2, bc BK342 3, bc BK343 0, bc BK343 1, bc BK343 2, bc BK343 3, bc BK360 0, bc BK360 1⟩ (fun hHeld => ?_)
     clear hK K
     refine norm_ (a' := ?_) ?_ ?_
     rotate_left
     ·show Act.put _ (some 39) _ = _
      simp only [Act.put, List.setIfInBounds_toArray, List.set_cons_zero, List.set_cons_succ, i64_w, i32_w]
      rfl
     refine one_ (i := 6) (N := some 41) #[T, T, T, T, T, T, T, F] rfl rfl (one_of HT_.out (by kernel_rfl)) (by decide) (fun K hK => ?_)
     refine goes_ Try.func77 (by kernel_rfl) rfl #[.agg #[.int .i64 t369, .int .i64 t370], .agg #[.int .i64 t357, .int .i64 t358]] (by rfl) rfl rfl mz ?_
     with_reducible refine (impl_ValMake.calls kj2 t369 t370 t357 t358 t371 t372 t373 t374 _ A58.out).mono ?_
     rintro e w72 ⟨rfl, hb⟩
     refine ⟨_, rfl, ?_⟩
     have n0_ := Aside0.mk (blk_below (g := gb342) (o := b4 a0_0 a0_1 a0_2 a0_3 25) (bz BK342.out) hb)
     have n1_ := Aside0.mk (blk_below (g := gb343) (o := b4 a1_0 a1_1 a1_2 a1_3 25) (bz BK343.out) hb)
     have n2_ := Aside0.mk (blk_below (g := gb344) (o := b4 0 0 0 0 25) (bz BK344.out) hb)
     have n3_ := Aside0.mk (blk_below (g := gb360) (o := b2 t357 t358 90) (bz BK360.out) hb)
     have n4_ := Aside0.mk (below_step (hz4 HB.out GE342.out GE343.out GE344.out GE360.out) hb)
     clear BK342
     clear BK343
     clear BK344
     clear BK360
     clear HB
     have BK342 := n0_
     have BK343 := n1_
     have BK344 := n2_
     have BK360 := n3_
     have HB := n4_
     clear n0_ n1_ n2_ n3_ n4_
     (try clear hb)
     (try clear hb2)
     (try clear hk)
     (try clear hi)
     refine hK.out _ _ ⟨bc BK342 0, bc BK342 1, bc BK342 2, bc BK342 3, bc BK343 0, bc BK343 1, bc BK343 2, bc BK343 3, bc BK360 0, bc BK360 1⟩ (fun hHeld => ?_)
     clear hK K
     refine norm_ (a' := ?_) ?_ ?_
     rotate_left
     ·show Act.put _ (some 41) _ = _
      simp only [Act.put, List.setIfInBounds_toArray, List.set_cons_zero, List.set_cons_succ, i64_w, i32_w]
      rfl
     refine one_ (i := 7) (N := none) #[T, T, T, T, T, T, T, T] rfl rfl (one_of HT_.out (by kernel_rfl)) (by decide) (fun K hK => ?_)
     have hs73 : w72.cell? ⟨gb344, 0, none⟩ = some (.int .i64 0) := bc BK344 0
     have hfs73 := blk_frozen BK344.out 0
     have hns73_0 := NB342_344.out
     have hns73_1 := NB343_344.out
     have hns73_3 := NB360_344.out
     have hms73_0 := NB344_342.out
     have hms73_1 := NB344_343.out
     have hms73_3 := NB344_360.out
     have hs74 : w72.cell? ⟨gb344, 1, none⟩ = some (.int .i64 0) := bc BK344 1
     have hfs74 := blk_frozen BK344.out 1
     have hns74_0 := NB342_344.out
     have hns74_1 := NB343_344.out
     have hns74_3 := NB360_344.out
     have hms74_0 := NB344_342.out
     have hms74_1 := NB344_343.out
     have hms74_3 := NB344_360.out
     have hs75 : w72.cell? ⟨gb344, 2, none⟩ = some (.int .i64 0) := bc BK344 2
     have hfs75 := blk_frozen BK344.out 2
     have hns75_0 := NB342_344.out
     have hns75_1 := NB343_344.out
     have hns75_3 := NB360_344.out
     have hms75_0 := NB344_342.out
     have hms75_1 := NB344_343.out
     have hms75_3 := NB344_360.out
     have hs76 : w72.cell? ⟨gb344, 3, none⟩ = some (.int .i64 0) := bc BK344 3
     have hfs76 := blk_frozen BK344.out 3
     have hns76_0 := NB342_344.out
     have hns76_1 := NB343_344.out
     have hns76_3 := NB360_344.out
     have hms76_0 := NB344_342.out
     have hms76_1 := NB344_343.out
     have hms76_3 := NB344_360.out
     refine skip_ (w1 := ?_) (by rfl) rfl ?_ ?_
     rotate_left
     ·go_simp
      rfl
     refine hK.out _ _ ⟨((cell_far (p := ⟨gb344, _, none⟩) NB342_344.out _).trans (((cell_far (p := ⟨gb344, _, none⟩) NB342_344.out _).trans (((cell_far (p := ⟨gb344, _, none⟩) NB342_344.out _).trans (((cell_far (p := ⟨gb344, _, none⟩) NB342_344.out _).trans (hHeld.1)))))))), ((cell_far (p := ⟨gb344, _, none⟩) NB342_344.out _).trans (((cell_far (p := ⟨gb344, _, none⟩) NB342_344.out _).trans (((cell_far (p := ⟨gb344, _, none⟩) NB342_344.out _).trans (((cell_far (p := ⟨gb344, _, none⟩) NB342_344.out _).trans (hHeld.2.1)))))))), ((cell_far (p := ⟨gb344, _, none⟩) NB342_344.out _).trans (((cell_far (p := ⟨gb344, _, none⟩) NB342_344.out _).trans (((cell_far (p := ⟨gb344, _, none⟩) NB342_344.out _).trans (((cell_far (p := ⟨gb344, _, none⟩) NB342_344.out _).trans (hHeld.2.2.1)))))))), ((cell_far (p := ⟨gb344, _, none⟩) NB342_344.out _).trans (((cell_far (p := ⟨gb344, _, none⟩) NB342_344.out _).trans (((cell_far (p := ⟨gb344, _, none⟩) NB342_344.out _).trans (((cell_far (p := ⟨gb344, _, none⟩) NB342_344.out _).trans (hHeld.2.2.2.1)))))))), ((cell_far (p := ⟨gb344, _, none⟩) NB343_344.out _).trans (((cell_far (p := ⟨gb344, _, none⟩) NB343_344.out _).trans (((cell_far (p := ⟨gb344, _, none⟩) NB343_344.out _).trans (((cell_far (p := ⟨gb344, _, none⟩) NB343_344.out _).trans (hHeld.2.2.2.2.1)))))))), ((cell_far (p := ⟨gb344, _, none⟩) NB343_344.out _).trans (((cell_far (p := ⟨gb344, _, none⟩) NB343_344.out _).trans (((cell_far (p := ⟨gb344, _, none⟩) NB343_344.out _).trans (((cell_far (p := ⟨gb344, _, none⟩) NB343_344.out _).trans (hHeld.2.2.2.2.2.1)))))))), ((cell_far (p := ⟨gb344, _, none⟩) NB343_344.out _).trans (((cell_far (p := ⟨gb344, _, none⟩) NB343_344.out _).trans (((cell_far (p := ⟨gb344, _, none⟩) NB343_344.out _).trans (((cell_far (p := ⟨gb344, _, none⟩) NB343_344.out _).trans (hHeld.2.2.2.2.2.2.1)))))))), ((cell_far (p := ⟨gb344, _, none⟩) NB343_344.out _).trans (((cell_far (p := ⟨gb344, _, none⟩) NB343_344.out _).trans (((cell_far (p := ⟨gb344, _, none⟩) NB343_344.out _).trans (((cell_far (p := ⟨gb344, _, none⟩) NB343_344.out _).trans (hHeld.2.2.2.2.2.2.2.1)))))))), ((cell_far (p := ⟨gb344, _, none⟩) NB360_344.out _).trans (((cell_far (p := ⟨gb344, _, none⟩) NB360_344.out _).trans (((cell_far (p := ⟨gb344, _, none⟩) NB360_344.out _).trans (((cell_far (p := ⟨gb344, _, none⟩) NB360_344.out _).trans (hHeld.2.2.2.2.2.2.2.2.1)))))))), ((cell_far (p := ⟨gb344, _, none⟩) NB360_344.out _).trans (((cell_far (p := ⟨gb344, _, none⟩) NB360_344.out _).trans (((cell_far (p := ⟨gb344, _, none⟩) NB360_344.out _).trans (((cell_far (p := ⟨gb344, _, none⟩) NB360_344.out _).trans (hHeld.2.2.2.2.2.2.2.2.2))))))))⟩ (fun hHeld => ?_)
     clear hK K
     refine done_ (done_of HT_.out (by kernel_rfl)) ?_
     try go_wp2
     refine bodyPost_ret (results_cell_row rfl _ _ gb344 25 #[.int .i64 t371, .int .i64 t372, .int .i64 t373, .int .i64 t374] (0, 0) _ rfl (by (with_reducible repeat (first | refine blk_drewN ?_ _ | refine blk_drew ?_ | refine blk_alloc ?_ _)); refine blk_put (cs := #[.int .i64 t371, .int .i64 t372, .int .i64 t373, .int .i64 0]) ?_ 3 _ rfl; (with_reducible repeat (first | refine blk_drewN ?_ _ | refine blk_drew ?_ | refine blk_alloc ?_ _)); refine blk_put (cs := #[.int .i64 t371, .int .i64 t372, .int .i64 0, .int .i64 0]) ?_ 2 _ rfl; (with_reducible repeat (first | refine blk_drewN ?_ _ | refine blk_drew ?_ | refine blk_alloc ?_ _)); refine blk_put (cs := #[.int .i64 t371, .int .i64 0, .int .i64 0, .int .i64 0]) ?_ 1 _ rfl; (with_reducible repeat (first | refine blk_drewN ?_ _ | refine blk_drew ?_ | refine blk_alloc ?_ _)); refine blk_put (cs := #[.int .i64 0, .int .i64 0, .int .i64 0, .int .i64 0]) ?_ 0 _ rfl; (with_reducible repeat (first | refine blk_drewN ?_ _ | refine blk_drew ?_ | refine blk_alloc ?_ _)); exact BK344.out) Try.underlying25 rfl (by kernel_rfl)) rfl ?_
     exact ⟨by first | rfl | (simp [errW_none, errW_some] <;> rfl) | (simp [*, errW_none, errW_some] <;> rfl), hz4 HB.out GE342.out GE343.out GE344.out GE360.out⟩
    ·replace c54 := Bool.eq_false_iff.mpr c54
     subst c54
     have H1 : ((impl_valNone.f).bind fun bt361 => (some (bt361.1, bt361.2.1, bt361.2.2.1, bt361.2.2.2))) = some (r1, r2, r3, r4) := by rw [if_neg (show ¬ (false = true) by decide)] at H; exact H
     clear H
     have H := H1
     clear H1
     replace H := Option.bind_eq_some_iff.mp H
     obtain ⟨⟨t361, t362, t363, t364⟩, A770, H⟩ := H
     replace H : (some (t361, t362, t363, t364)) = some (r1, r2, r3, r4) := H
     have A77 := Aside0.mk A770
     clear A770
     simp only [Option.some.injEq, Prod.mk.injEq] at H
     obtain ⟨rfl, rfl, rfl, rfl⟩ := H
     try go_wp2
     have n0_ := Aside0.mk (blk_drew BK342.out)
     have n1_ := Aside0.mk (blk_drew BK343.out)
     have n2_ := Aside0.mk (blk_drew BK344.out)
     have n3_ := Aside0.mk (below_drew1 HB.out)
     clear BK342
     clear BK343
     clear BK344
     clear HB
     have BK342 := n0_
     have BK343 := n1_
     have BK344 := n2_
     have HB := n3_
     clear n0_ n1_ n2_ n3_
     refine start_ (n := 11) (S := fun w' => w'.cell? ⟨gb342, 0, none⟩ = some (.int .i64 a0_0) ∧ w'.cell? ⟨gb342, 1, none⟩ = some (.int .i64 a0_1) ∧ w'.cell? ⟨gb342, 2, none⟩ = some (.int .i64 a0_2) ∧ w'.cell? ⟨gb342, 3, none⟩ = some (.int .i64 a0_3) ∧ w'.cell? ⟨gb343, 0, none⟩ = some (.int .i64 a1_0) ∧ w'.cell? ⟨gb343, 1, none⟩ = some (.int .i64 a1_1) ∧ w'.cell? ⟨gb343, 2, none⟩ = some (.int .i64 a1_2) ∧ w'.cell? ⟨gb343, 3, none⟩ = some (.int .i64 a1_3)) (ds := []) #[F, F, F, F, F, F, F, F, F, F, F] (by kernel_rfl) rfl rfl ⟨bc BK342 0, bc BK342 1, bc BK342 2, bc BK342 3, bc BK343 0, bc BK343 1, bc BK343 2, bc BK343 3⟩ (fun hHeld => ?_); refine with_tabW impl_ValMeet.tab3 impl_ValMeet.bits3 (fun HT_ HW_ => ?_)
     generalize wc.drew = w78 at BK342 BK343 BK344 HB hHeld ⊢
     refine take_ (i := 0) (N := some 25) (v := ?_) (a' := ?_) #[T, F, F, F, F, F, F, F, F, F, F] rfl rfl (take_ofW HT_.out HW_.out (by kernel_rfl)) (fun _ _ _ h => h) (Or.inl ⟨by rfl, ?_⟩) hHeld ?_ ?_
     rotate_left
     ·rintro w' ⟨s0, s1, s2, s3, s4, s5, s6, s7⟩
      go_simp
      with_reducible rfl
     rotate_left
     ·exact pz
     refine take_ (i := 2) (N := some 27) (v := ?_) (a' := ?_) #[T, F, T, F, F, F, F, F, F, F, F] rfl rfl (take_ofW HT_.out HW_.out (by kernel_rfl)) (fun _ _ _ h => h) (Or.inl ⟨by rfl, ?_⟩) hHeld ?_ ?_
     rotate_left
     ·rintro w' ⟨s0, s1, s2, s3, s4, s5, s6, s7⟩
      go_simp
      with_reducible rfl
     rotate_left
     ·exact pz
     refine join_ (σ := Nat) 2 #[T, T, T, T, T, T, T, T, T, F, F] (fun s_ => [(26, .agg #[.int .i64 t353, .int .i64 t354]), (28, .agg #[.int .i64 t355, .int .i64 t356]), (29, .tuple #[.agg #[.int .i64 t357, .int .i64 t358], .bool false]), (5, .pointer (some ⟨s_, 0, none⟩)), (24, .tuple #[.agg #[.int .i64 t357, .int .i64 t358], .bool false]), (30, .agg #[.int .i64 t357, .int .i64 t358]), (31, .bool false)]) (fun s_ w' => (w'.cell? ⟨gb342, 0, none⟩ = some (.int .i64 a0_0) ∧ w'.cell? ⟨gb342, 1, none⟩ = some (.int .i64 a0_1) ∧ w'.cell? ⟨gb342, 2, none⟩ = some (.int .i64 a0_2) ∧ w'.cell? ⟨gb342, 3, none⟩ = some (.int .i64 a0_3) ∧ w'.cell? ⟨gb343, 0, none⟩ = some (.int .i64 a1_0) ∧ w'.cell? ⟨gb343, 1, none⟩ = some (.int .i64 a1_1) ∧ w'.cell? ⟨gb343, 2, none⟩ = some (.int .i64 a1_2) ∧ w'.cell? ⟨gb343, 3, none⟩ = some (.int .i64 a1_3)) ∧ (w'.heap[gb342]? = some (.cells #[.int .i64 a0_0, .int .i64 a0_1, .int .i64 a0_2, .int .i64 a0_3] 25 (0, 0))) ∧ (w'.heap[gb343]? = some (.cells #[.int .i64 a1_0, .int .i64 a1_1, .int .i64 a1_2, .int .i64 a1_3] 25 (0, 0))) ∧ (w'.heap[gb344]? = some (.cells #[.int .i64 0, .int .i64 0, .int .i64 0, .int .i64 0] 25 (0, 0))) ∧ (w'.heap[s_]? = some (.cells #[.int .i64 0, .int .i64 0] 90 (0, 0))) ∧ (w.heap.size ≤ s_) ∧ (w.heap.size ≤ s_) ∧ (gb342 ≠ s_) ∧ (s_ ≠ gb342) ∧ (gb343 ≠ s_) ∧ (s_ ≠ gb343) ∧ (gb344 ≠ s_) ∧ (s_ ≠ gb344) ∧ (Below w.heap.size w w')) ?_ ?_
     rotate_left
     ·intro hCont
      refine two_ (i := 1) (j := 8) (Ni := some 26) (Nj := some 5) #[T, T, T, F, F, F, F, F, F, F, F] #[T, F, T, F, F, F, F, F, T, F, F] rfl rfl rfl rfl (two_of HT_.out (by kernel_rfl)) (by decide) (by decide) (fun K hK => ?_) (fun K hK => ?_)
      ·skip
       refine goes_ Try.func67 (by kernel_rfl) rfl #[.agg #[.int .i64 a0_0, .int .i64 a0_1, .int .i64 a0_2, .int .i64 a0_3]] (by rfl) rfl rfl mz ?_
       with_reducible refine (impl_Val_rest.calls a0_0 a0_1 a0_2 a0_3 t353 t354 _ A51.out).mono ?_
       rintro e w79 ⟨rfl, hb⟩
       refine ⟨_, rfl, ?_⟩
       have n0_ := Aside0.mk (blk_below (g := gb342) (o := b4 a0_0 a0_1 a0_2 a0_3 25) (bz BK342.out) hb)
       have n1_ := Aside0.mk (blk_below (g := gb343) (o := b4 a1_0 a1_1 a1_2 a1_3 25) (bz BK343.out) hb)
       have n2_ := Aside0.mk (blk_below (g := gb344) (o := b4 0 0 0 0 25) (bz BK344.out) hb)
       have n3_ := Aside0.mk (below_step (hz3 HB.out GE342.out GE343.out GE344.out) hb)
       clear BK342
       clear BK343
       clear BK344
       clear HB
       have BK342 := n0_
       have BK343 := n1_
       have BK344 := n2_
       have HB := n3_
       clear n0_ n1_ n2_ n3_
       (try clear hb)
       (try clear hb2)
       (try clear hk)
       (try clear hi)
       refine hK.out _ _ ⟨bc BK342 0, bc BK342 1, bc BK342 2, bc BK342 3, bc BK343 0, bc BK343 1, bc BK343 2, bc BK343 3⟩ (fun hHeld => ?_)
       clear hK K
       refine norm_ (a' := ?_) ?_ ?_
       rotate_left
       ·show Act.put _ (some 26) _ = _
        simp only [Act.put, List.setIfInBounds_toArray, List.set_cons_zero, List.set_cons_succ, i64_w, i32_w]
        rfl
       refine two_ (i := 3) (j := 8) (Ni := some 28) (Nj := some 5) #[T, T, T, T, F, F, F, F, F, F, F] #[T, T, T, F, F, F, F, F, T, F, F] rfl rfl rfl rfl (two_of HT_.out (by kernel_rfl)) (by decide) (by decide) (fun K hK => ?_) (fun K hK => ?_)
       ·skip
        refine goes_ Try.func67 (by kernel_rfl) rfl #[.agg #[.int .i64 a1_0, .int .i64 a1_1, .int .i64 a1_2, .int .i64 a1_3]] (by rfl) rfl rfl mz ?_
        with_reducible refine (impl_Val_rest.calls a1_0 a1_1 a1_2 a1_3 t355 t356 _ A52.out).mono ?_
        rintro e w80 ⟨rfl, hb⟩
        refine ⟨_, rfl, ?_⟩
        have n0_ := Aside0.mk (blk_below (g := gb342) (o := b4 a0_0 a0_1 a0_2 a0_3 25) (bz BK342.out) hb)
        have n1_ := Aside0.mk (blk_below (g := gb343) (o := b4 a1_0 a1_1 a1_2 a1_3 25) (bz BK343.out) hb)
        have n2_ := Aside0.mk (blk_below (g := gb344) (o := b4 0 0 0 0 25) (bz BK344.out) hb)
        have n3_ := Aside0.mk (below_step (hz3 HB.out GE342.out GE343.out GE344.out) hb)
        clear BK342
        clear BK343
        clear BK344
        clear HB
        have BK342 := n0_
        have BK343 := n1_
        have BK344 := n2_
        have HB := n3_
        clear n0_ n1_ n2_ n3_
        (try clear hb)
        (try clear hb2)
        (try clear hk)
        (try clear hi)
        refine hK.out _ _ ⟨bc BK342 0, bc BK342 1, bc BK342 2, bc BK342 3, bc BK343 0, bc BK343 1, bc BK343 2, bc BK343 3⟩ (fun hHeld => ?_)
        clear hK K
        refine norm_ (a' := ?_) ?_ ?_
        rotate_left
        ·show Act.put _ (some 28) _ = _
         simp only [Act.put, List.setIfInBounds_toArray, List.set_cons_zero, List.set_cons_succ, i64_w, i32_w]
         rfl
        refine two_ (i := 4) (j := 8) (Ni := some 29) (Nj := some 5) #[T, T, T, T, T, F, F, F, F, F, F] #[T, T, T, T, F, F, F, F, T, F, F] rfl rfl rfl rfl (two_of HT_.out (by kernel_rfl)) (by decide) (by decide) (fun K hK => ?_) (fun K hK => ?_)
        ·skip
         refine goes_ Try.func82 (by kernel_rfl) rfl #[.agg #[.int .i64 t353, .int .i64 t354], .agg #[.int .i64 t355, .int .i64 t356]] (by rfl) rfl rfl mz ?_
         with_reducible refine (impl_RestMeet.calls kj2 t353 t354 t355 t356 t357 t358 false _ A53.out).mono ?_
         rintro e w81 ⟨rfl, hb⟩
         refine ⟨_, rfl, ?_⟩
         have n0_ := Aside0.mk (blk_below (g := gb342) (o := b4 a0_0 a0_1 a0_2 a0_3 25) (bz BK342.out) hb)
         have n1_ := Aside0.mk (blk_below (g := gb343) (o := b4 a1_0 a1_1 a1_2 a1_3 25) (bz BK343.out) hb)
         have n2_ := Aside0.mk (blk_below (g := gb344) (o := b4 0 0 0 0 25) (bz BK344.out) hb)
         have n3_ := Aside0.mk (below_step (hz3 HB.out GE342.out GE343.out GE344.out) hb)
         clear BK342
         clear BK343
         clear BK344
         clear HB
         have BK342 := n0_
         have BK343 := n1_
         have BK344 := n2_
         have HB := n3_
         clear n0_ n1_ n2_ n3_
         (try clear hb)
         (try clear hb2)
         (try clear hk)
         (try clear hi)
         refine hK.out _ _ ⟨bc BK342 0, bc BK342 1, bc BK342 2, bc BK342 3, bc BK343 0, bc BK343 1, bc BK343 2, bc BK343 3⟩ (fun hHeld => ?_)
         clear hK K
         refine norm_ (a' := ?_) ?_ ?_
         rotate_left
         ·show Act.put _ (some 29) _ = _
          simp only [Act.put, List.setIfInBounds_toArray, List.set_cons_zero, List.set_cons_succ, i64_w, i32_w]
          rfl
         refine pure_ (i := 5) (N := some 24) (v := ?_) (a' := ?_) #[T, T, T, T, T, T, F, F, F, F, F] rfl rfl (any_of HT_.out (by kernel_rfl)) (fun _ _ _ h => h) (Or.inl ⟨by rfl, ?_⟩) ?_ ?_
         rotate_left
         ·exact gz
         rotate_left
         ·exact pz
         refine pure_ (i := 6) (N := some 30) (v := ?_) (a' := ?_) #[T, T, T, T, T, T, T, F, F, F, F] rfl rfl (any_of HT_.out (by kernel_rfl)) (fun _ _ _ h => h) (Or.inl ⟨by rfl, ?_⟩) ?_ ?_
         rotate_left
         ·exact gz
         rotate_left
         ·exact pz
         refine pure_ (i := 7) (N := some 31) (v := ?_) (a' := ?_) #[T, T, T, T, T, T, T, T, F, F, F] rfl rfl (any_of HT_.out (by kernel_rfl)) (fun _ _ _ h => h) (Or.inl ⟨by rfl, ?_⟩) ?_ ?_
         rotate_left
         ·exact gz
         rotate_left
         ·exact pz
         refine one_ (i := 8) (N := some 5) #[T, T, T, T, T, T, T, T, T, F, F] rfl rfl (one_of HT_.out (by kernel_rfl)) (by decide) (fun K hK => ?_)
         refine box_step ?hg (N := 5) ?hd (cs := #[.int .i64 0, .int .i64 0]) (t := 90) ?hr ?_; (case hd => rfl); (case hg => rfl); (case hr => first | (go_simp; done) | (go_simp; rfl))
         intro gb360 hg w82 hbox hb
         have n0_ := Aside0.mk (blk_below (g := gb342) (o := b4 a0_0 a0_1 a0_2 a0_3 25) (bz BK342.out) hb)
         have n1_ := Aside0.mk (blk_below (g := gb343) (o := b4 a1_0 a1_1 a1_2 a1_3 25) (bz BK343.out) hb)
         have n2_ := Aside0.mk (blk_below (g := gb344) (o := b4 0 0 0 0 25) (bz BK344.out) hb)
         have n3_ := Aside0.mk (below_step (hz3 HB.out GE342.out GE343.out GE344.out) hb)
         have n4_ := Aside0.mk (hbox)
         have n5_ := Aside0.mk ((by rw [hg]; exact (below_size (hz3 HB.out GE342.out GE343.out GE344.out)) : w.heap.size ≤ gb360))
         have n6_ := Aside0.mk ((by rw [hg]; exact (below_size (hz3 HB.out GE342.out GE343.out GE344.out)) : w.heap.size ≤ gb360))
         have n7_ := Aside0.mk ((by rw [hg]; exact Nat.ne_of_lt (blk_lt (g := gb342) (o := b4 a0_0 a0_1 a0_2 a0_3 25) (bz BK342.out)) : gb342 ≠ gb360))
         have n8_ := Aside0.mk ((by rw [hg]; exact Nat.ne_of_gt (blk_lt (g := gb342) (o := b4 a0_0 a0_1 a0_2 a0_3 25) (bz BK342.out)) : gb360 ≠ gb342))
         have n9_ := Aside0.mk ((by rw [hg]; exact Nat.ne_of_lt (blk_lt (g := gb343) (o := b4 a1_0 a1_1 a1_2 a1_3 25) (bz BK343.out)) : gb343 ≠ gb360))
         have n10_ := Aside0.mk ((by rw [hg]; exact Nat.ne_of_gt (blk_lt (g := gb343) (o := b4 a1_0 a1_1 a1_2 a1_3 25) (bz BK343.out)) : gb360 ≠ gb343))
         have n11_ := Aside0.mk ((by rw [hg]; exact Nat.ne_of_lt (blk_lt (g := gb344) (o := b4 0 0 0 0 25) (bz BK344.out)) : gb344 ≠ gb360))
         have n12_ := Aside0.mk ((by rw [hg]; exact Nat.ne_of_gt (blk_lt (g := gb344) (o := b4 0 0 0 0 25) (bz BK344.out)) : gb360 ≠ gb344))
         clear BK342
         clear BK343
         clear BK344
         clear HB
         have BK342 := n0_
         have BK343 := n1_
         have BK344 := n2_
         have HB := n3_
         have BK360 := n4_
         have GW360 := n5_
         have GE360 := n6_
         have NB342_360 := n7_
         have NB360_342 := n8_
         have NB343_360 := n9_
         have NB360_343 := n10_
         have NB344_360 := n11_
         have NB360_344 := n12_
         clear n0_ n1_ n2_ n3_ n4_ n5_ n6_ n7_ n8_ n9_ n10_ n11_ n12_
         clear hb hbox hg
         refine hK.out _ _ ⟨bc BK342 0, bc BK342 1, bc BK342 2, bc BK342 3, bc BK343 0, bc BK343 1, bc BK343 2, bc BK343 3⟩ (fun hHeld => ?_)
         clear hK K
         refine norm_ (a' := ?_) ?_ ?_
         rotate_left
         ·show Act.put _ (some 5) _ = _
          simp only [Act.put, List.setIfInBounds_toArray, List.set_cons_zero, List.set_cons_succ, i64_w, i32_w]
          rfl
         exact norm_ (by simp only [putAll, Act.put, List.setIfInBounds_toArray, List.set_cons_zero, List.set_cons_succ]) (hCont (gb360) _ ⟨hHeld, (bz BK342.out), (bz BK343.out), (bz BK344.out), (bz BK360.out), GW360.out, GE360.out, NB342_360.out, NB360_342.out, NB343_360.out, NB360_343.out, NB344_360.out, NB360_344.out, (hz4 HB.out GE342.out GE343.out GE344.out GE360.out)⟩)
        ·skip
         refine box_step ?hg (N := 5) ?hd (cs := #[.int .i64 0, .int .i64 0]) (t := 90) ?hr ?_; (case hd => rfl); (case hg => rfl); (case hr => first | (go_simp; done) | (go_simp; rfl))
         intro gb360 hg w81 hbox hb
         have n0_ := Aside0.mk (blk_below (g := gb342) (o := b4 a0_0 a0_1 a0_2 a0_3 25) (bz BK342.out) hb)
         have n1_ := Aside0.mk (blk_below (g := gb343) (o := b4 a1_0 a1_1 a1_2 a1_3 25) (bz BK343.out) hb)
         have n2_ := Aside0.mk (blk_below (g := gb344) (o := b4 0 0 0 0 25) (bz BK344.out) hb)
         have n3_ := Aside0.mk (below_step (hz3 HB.out GE342.out GE343.out GE344.out) hb)
         have n4_ := Aside0.mk (hbox)
         have n5_ := Aside0.mk ((by rw [hg]; exact (below_size (hz3 HB.out GE342.out GE343.out GE344.out)) : w.heap.size ≤ gb360))
         have n6_ := Aside0.mk ((by rw [hg]; exact (below_size (hz3 HB.out GE342.out GE343.out GE344.out)) : w.heap.size ≤ gb360))
         have n7_ := Aside0.mk ((by rw [hg]; exact Nat.ne_of_lt (blk_lt (g := gb342) (o := b4 a0_0 a0_1 a0_2 a0_3 25) (bz BK342.out)) : gb342 ≠ gb360))
         have n8_ := Aside0.mk ((by rw [hg]; exact Nat.ne_of_gt (blk_lt (g := gb342) (o := b4 a0_0 a0_1 a0_2 a0_3 25) (bz BK342.out)) : gb360 ≠ gb342))
         have n9_ := Aside0.mk ((by rw [hg]; exact Nat.ne_of_lt (blk_lt (g := gb343) (o := b4 a1_0 a1_1 a1_2 a1_3 25) (bz BK343.out)) : gb343 ≠ gb360))
         have n10_ := Aside0.mk ((by rw [hg]; exact Nat.ne_of_gt (blk_lt (g := gb343) (o := b4 a1_0 a1_1 a1_2 a1_3 25) (bz BK343.out)) : gb360 ≠ gb343))
         have n11_ := Aside0.mk ((by rw [hg]; exact Nat.ne_of_lt (blk_lt (g := gb344) (o := b4 0 0 0 0 25) (bz BK344.out)) : gb344 ≠ gb360))
         have n12_ := Aside0.mk ((by rw [hg]; exact Nat.ne_of_gt (blk_lt (g := gb344) (o := b4 0 0 0 0 25) (bz BK344.out)) : gb360 ≠ gb344))
         clear BK342
         clear BK343
         clear BK344
         clear HB
         have BK342 := n0_
         have BK343 := n1_
         have BK344 := n2_
         have HB := n3_
         have BK360 := n4_
         have GW360 := n5_
         have GE360 := n6_
         have NB342_360 := n7_
         have NB360_342 := n8_
         have NB343_360 := n9_
         have NB360_343 := n10_
         have NB344_360 := n11_
         have NB360_344 := n12_
         clear n0_ n1_ n2_ n3_ n4_ n5_ n6_ n7_ n8_ n9_ n10_ n11_ n12_
         clear hb hbox hg
         refine hK.out _ _ ⟨bc BK342 0, bc BK342 1, bc BK342 2, bc BK342 3, bc BK343 0, bc BK343 1, bc BK343 2, bc BK343 3⟩ (fun hHeld => ?_)
         clear hK K
         refine norm_ (a' := ?_) ?_ ?_
         rotate_left
         ·show Act.put _ (some 5) _ = _
          simp only [Act.put, List.setIfInBounds_toArray, List.set_cons_zero, List.set_cons_succ, i64_w, i32_w]
          rfl
         refine one_ (i := 4) (N := some 29) #[T, T, T, T, T, F, F, F, T, F, F] rfl rfl (one_of HT_.out (by kernel_rfl)) (by decide) (fun K hK => ?_)
         refine goes_ Try.func82 (by kernel_rfl) rfl #[.agg #[.int .i64 t353, .int .i64 t354], .agg #[.int .i64 t355, .int .i64 t356]] (by rfl) rfl rfl mz ?_
         with_reducible refine (impl_RestMeet.calls kj2 t353 t354 t355 t356 t357 t358 false _ A53.out).mono ?_
         rintro e w82 ⟨rfl, hb⟩
         refine ⟨_, rfl, ?_⟩
         have n0_ := Aside0.mk (blk_below (g := gb342) (o := b4 a0_0 a0_1 a0_2 a0_3 25) (bz BK342.out) hb)
         have n1_ := Aside0.mk (blk_below (g := gb343) (o := b4 a1_0 a1_1 a1_2 a1_3 25) (bz BK343.out) hb)
         have n2_ := Aside0.mk (blk_below (g := gb344) (o := b4 0 0 0 0 25) (bz BK344.out) hb)
         have n3_ := Aside0.mk (blk_below (g := gb360) (o := b2 0 0 90) (bz BK360.out) hb)
         have n4_ := Aside0.mk (below_step (hz4 HB.out GE342.out GE343.out GE344.out GE360.out) hb)
         clear BK342
         clear BK343
         clear BK344
         clear BK360
         clear HB
         have BK342 := n0_
         have BK343 := n1_
         have BK344 := n2_
         have BK360 := n3_
         have HB := n4_
         clear n0_ n1_ n2_ n3_ n4_
         (try clear hb)
         (try clear hb2)
         (try clear hk)
         (try clear hi)
         refine hK.out _ _ ⟨bc BK342 0, bc BK342 1, bc BK342 2, bc BK342 3, bc BK343 0, bc BK343 1, bc BK343 2, bc BK343 3⟩ (fun hHeld => ?_)
         clear hK K
         refine norm_ (a' := ?_) ?_ ?_
         rotate_left
         ·show Act.put _ (some 29) _ = _
          simp only [Act.put, List.setIfInBounds_toArray, List.set_cons_zero, List.set_cons_succ, i64_w, i32_w]
          rfl
         refine pure_ (i := 5) (N := some 24) (v := ?_) (a' := ?_) #[T, T, T, T, T, T, F, F, T, F, F] rfl rfl (any_of HT_.out (by kernel_rfl)) (fun _ _ _ h => h) (Or.inl ⟨by rfl, ?_⟩) ?_ ?_
         rotate_left
         ·exact gz
         rotate_left
         ·exact pz
         refine pure_ (i := 6) (N := some 30) (v := ?_) (a' := ?_) #[T, T, T, T, T, T, T, F, T, F, F] rfl rfl (any_of HT_.out (by kernel_rfl)) (fun _ _ _ h => h) (Or.inl ⟨by rfl, ?_⟩) ?_ ?_
         rotate_left
         ·exact gz
         rotate_left
         ·exact pz
         refine pure_ (i := 7) (N := some 31) (v := ?_) (a' := ?_) #[T, T, T, T, T, T, T, T, T, F, F] rfl rfl (any_of HT_.out (by kernel_rfl)) (fun _ _ _ h => h) (Or.inl ⟨by rfl, ?_⟩) ?_ ?_
         rotate_left
         ·exact gz
         rotate_left
         ·exact pz
         exact norm_ (by simp only [putAll, Act.put, List.setIfInBounds_toArray, List.set_cons_zero, List.set_cons_succ]) (hCont (gb360) _ ⟨hHeld, (bz BK342.out), (bz BK343.out), (bz BK344.out), (bz BK360.out), GW360.out, GE360.out, NB342_360.out, NB360_342.out, NB343_360.out, NB360_343.out, NB344_360.out, NB360_344.out, (hz4 HB.out GE342.out GE343.out GE344.out GE360.out)⟩)
       ·skip
        refine box_step ?hg (N := 5) ?hd (cs := #[.int .i64 0, .int .i64 0]) (t := 90) ?hr ?_; (case hd => rfl); (case hg => rfl); (case hr => first | (go_simp; done) | (go_simp; rfl))
        intro gb360 hg w80 hbox hb
        have n0_ := Aside0.mk (blk_below (g := gb342) (o := b4 a0_0 a0_1 a0_2 a0_3 25) (bz BK342.out) hb)
        have n1_ := Aside0.mk (blk_below (g := gb343) (o := b4 a1_0 a1_1 a1_2 a1_3 25) (bz BK343.out) hb)
        have n2_ := Aside0.mk (blk_below (g := gb344) (o := b4 0 0 0 0 25) (bz BK344.out) hb)
        have n3_ := Aside0.mk (below_step (hz3 HB.out GE342.out GE343.out GE344.out) hb)
        have n4_ := Aside0.mk (hbox)
        have n5_ := Aside0.mk ((by rw [hg]; exact (below_size (hz3 HB.out GE342.out GE343.out GE344.out)) : w.heap.size ≤ gb360))
        have n6_ := Aside0.mk ((by rw [hg]; exact (below_size (hz3 HB.out GE342.out GE343.out GE344.out)) : w.heap.size ≤ gb360))
        have n7_ := Aside0.mk ((by rw [hg]; exact Nat.ne_of_lt (blk_lt (g := gb342) (o := b4 a0_0 a0_1 a0_2 a0_3 25) (bz BK342.out)) : gb342 ≠ gb360))
        have n8_ := Aside0.mk ((by rw [hg]; exact Nat.ne_of_gt (blk_lt (g := gb342) (o := b4 a0_0 a0_1 a0_2 a0_3 25) (bz BK342.out)) : gb360 ≠ gb342))
        have n9_ := Aside0.mk ((by rw [hg]; exact Nat.ne_of_lt (blk_lt (g := gb343) (o := b4 a1_0 a1_1 a1_2 a1_3 25) (bz BK343.out)) : gb343 ≠ gb360))
        have n10_ := Aside0.mk ((by rw [hg]; exact Nat.ne_of_gt (blk_lt (g := gb343) (o := b4 a1_0 a1_1 a1_2 a1_3 25) (bz BK343.out)) : gb360 ≠ gb343))
        have n11_ := Aside0.mk ((by rw [hg]; exact Nat.ne_of_lt (blk_lt (g := gb344) (o := b4 0 0 0 0 25) (bz BK344.out)) : gb344 ≠ gb360))
        have n12_ := Aside0.mk ((by rw [hg]; exact Nat.ne_of_gt (blk_lt (g := gb344) (o := b4 0 0 0 0 25) (bz BK344.out)) : gb360 ≠ gb344))
        clear BK342
        clear BK343
        clear BK344
        clear HB
        have BK342 := n0_
        have BK343 := n1_
        have BK344 := n2_
        have HB := n3_
        have BK360 := n4_
        have GW360 := n5_
        have GE360 := n6_
        have NB342_360 := n7_
        have NB360_342 := n8_
        have NB343_360 := n9_
        have NB360_343 := n10_
        have NB344_360 := n11_
        have NB360_344 := n12_
        clear n0_ n1_ n2_ n3_ n4_ n5_ n6_ n7_ n8_ n9_ n10_ n11_ n12_
        clear hb hbox hg
        refine hK.out _ _ ⟨bc BK342 0, bc BK342 1, bc BK342 2, bc BK342 3, bc BK343 0, bc BK343 1, bc BK343 2, bc BK343 3⟩ (fun hHeld => ?_)
        clear hK K
        refine norm_ (a' := ?_) ?_ ?_
        rotate_left
        ·show Act.put _ (some 5) _ = _
         simp only [Act.put, List.setIfInBounds_toArray, List.set_cons_zero, List.set_cons_succ, i64_w, i32_w]
         rfl
        refine one_ (i := 3) (N := some 28) #[T, T, T, T, F, F, F, F, T, F, F] rfl rfl (one_of HT_.out (by kernel_rfl)) (by decide) (fun K hK => ?_)
        refine goes_ Try.func67 (by kernel_rfl) rfl #[.agg #[.int .i64 a1_0, .int .i64 a1_1, .int .i64 a1_2, .int .i64 a1_3]] (by rfl) rfl rfl mz ?_
        with_reducible refine (impl_Val_rest.calls a1_0 a1_1 a1_2 a1_3 t355 t356 _ A52.out).mono ?_
        rintro e w81 ⟨rfl, hb⟩
        refine ⟨_, rfl, ?_⟩
        have n0_ := Aside0.mk (blk_below (g := gb342) (o := b4 a0_0 a0_1 a0_2 a0_3 25) (bz BK342.out) hb)
        have n1_ := Aside0.mk (blk_below (g := gb343) (o := b4 a1_0 a1_1 a1_2 a1_3 25) (bz BK343.out) hb)
        have n2_ := Aside0.mk (blk_below (g := gb344) (o := b4 0 0 0 0 25) (bz BK344.out) hb)
        have n3_ := Aside0.mk (blk_below (g := gb360) (o := b2 0 0 90) (bz BK360.out) hb)
        have n4_ := Aside0.mk (below_step (hz4 HB.out GE342.out GE343.out GE344.out GE360.out) hb)
        clear BK342
        clear BK343
        clear BK344
        clear BK360
        clear HB
        have BK342 := n0_
        have BK343 := n1_
        have BK344 := n2_
        have BK360 := n3_
        have HB := n4_
        clear n0_ n1_ n2_ n3_ n4_
        (try clear hb)
        (try clear hb2)
        (try clear hk)
        (try clear hi)
        refine hK.out _ _ ⟨bc BK342 0, bc BK342 1, bc BK342 2, bc BK342 3, bc BK343 0, bc BK343 1, bc BK343 2, bc BK343 3⟩ (fun hHeld => ?_)
        clear hK K
        refine norm_ (a' := ?_) ?_ ?_
        rotate_left
        ·show Act.put _ (some 28) _ = _
         simp only [Act.put, List.setIfInBounds_toArray, List.set_cons_zero, List.set_cons_succ, i64_w, i32_w]
         rfl
        refine one_ (i := 4) (N := some 29) #[T, T, T, T, T, F, F, F, T, F, F] rfl rfl (one_of HT_.out (by kernel_rfl)) (by decide) (fun K hK => ?_)
        refine goes_ Try.func82 (by kernel_rfl) rfl #[.agg #[.int .i64 t353, .int .i64 t354], .agg #[.int .i64 t355, .int .i64 t356]] (by rfl) rfl rfl mz ?_
        with_reducible refine (impl_RestMeet.calls kj2 t353 t354 t355 t356 t357 t358 false _ A53.out).mono ?_
        rintro e w82 ⟨rfl, hb⟩
        refine ⟨_, rfl, ?_⟩
        have n0_ := Aside0.mk (blk_below (g := gb342) (o := b4 a0_0 a0_1 a0_2 a0_3 25) (bz BK342.out) hb)
        have n1_ := Aside0.mk (blk_below (g := gb343) (o := b4 a1_0 a1_1 a1_2 a1_3 25) (bz BK343.out) hb)
        have n2_ := Aside0.mk (blk_below (g := gb344) (o := b4 0 0 0 0 25) (bz BK344.out) hb)
        have n3_ := Aside0.mk (blk_below (g := gb360) (o := b2 0 0 90) (bz BK360.out) hb)
        have n4_ := Aside0.mk (below_step (hz4 HB.out GE342.out GE343.out GE344.out GE360.out) hb)
        clear BK342
        clear BK343
        clear BK344
        clear BK360
        clear HB
        have BK342 := n0_
        have BK343 := n1_
        have BK344 := n2_
        have BK360 := n3_
        have HB := n4_
        clear n0_ n1_ n2_ n3_ n4_
        (try clear hb)
        (try clear hb2)
        (try clear hk)
        (try clear hi)
        refine hK.out _ _ ⟨bc BK342 0, bc BK342 1, bc BK342 2, bc BK342 3, bc BK343 0, bc BK343 1, bc BK343 2, bc BK343 3⟩ (fun hHeld => ?_)
        clear hK K
        refine norm_ (a' := ?_) ?_ ?_
        rotate_left
        ·show Act.put _ (some 29) _ = _
         simp only [Act.put, List.setIfInBounds_toArray, List.set_cons_zero, List.set_cons_succ, i64_w, i32_w]
         rfl
        refine pure_ (i := 5) (N := some 24) (v := ?_) (a' := ?_) #[T, T, T, T, T, T, F, F, T, F, F] rfl rfl (any_of HT_.out (by kernel_rfl)) (fun _ _ _ h => h) (Or.inl ⟨by rfl, ?_⟩) ?_ ?_
        rotate_left
        ·exact gz
        rotate_left
        ·exact pz
        refine pure_ (i := 6) (N := some 30) (v := ?_) (a' := ?_) #[T, T, T, T, T, T, T, F, T, F, F] rfl rfl (any_of HT_.out (by kernel_rfl)) (fun _ _ _ h => h) (Or.inl ⟨by rfl, ?_⟩) ?_ ?_
        rotate_left
        ·exact gz
        rotate_left
        ·exact pz
        refine pure_ (i := 7) (N := some 31) (v := ?_) (a' := ?_) #[T, T, T, T, T, T, T, T, T, F, F] rfl rfl (any_of HT_.out (by kernel_rfl)) (fun _ _ _ h => h) (Or.inl ⟨by rfl, ?_⟩) ?_ ?_
        rotate_left
        ·exact gz
        rotate_left
        ·exact pz
        exact norm_ (by simp only [putAll, Act.put, List.setIfInBounds_toArray, List.set_cons_zero, List.set_cons_succ]) (hCont (gb360) _ ⟨hHeld, (bz BK342.out), (bz BK343.out), (bz BK344.out), (bz BK360.out), GW360.out, GE360.out, NB342_360.out, NB360_342.out, NB343_360.out, NB360_343.out, NB344_360.out, NB360_344.out, (hz4 HB.out GE342.out GE343.out GE344.out GE360.out)⟩)
      ·skip
       refine box_step ?hg (N := 5) ?hd (cs := #[.int .i64 0, .int .i64 0]) (t := 90) ?hr ?_; (case hd => rfl); (case hg => rfl); (case hr => first | (go_simp; done) | (go_simp; rfl))
       intro gb360 hg w79 hbox hb
       have n0_ := Aside0.mk (blk_below (g := gb342) (o := b4 a0_0 a0_1 a0_2 a0_3 25) (bz BK342.out) hb)
       have n1_ := Aside0.mk (blk_below (g := gb343) (o := b4 a1_0 a1_1 a1_2 a1_3 25) (bz BK343.out) hb)
       have n2_ := Aside0.mk (blk_below (g := gb344) (o := b4 0 0 0 0 25) (bz BK344.out) hb)
       have n3_ := Aside0.mk (below_step (hz3 HB.out GE342.out GE343.out GE344.out) hb)
       have n4_ := Aside0.mk (hbox)
       have n5_ := Aside0.mk ((by rw [hg]; exact (below_size (hz3 HB.out GE342.out GE343.out GE344.out)) : w.heap.size ≤ gb360))
       have n6_ := Aside0.mk ((by rw [hg]; exact (below_size (hz3 HB.out GE342.out GE343.out GE344.out)) : w.heap.size ≤ gb360))
       have n7_ := Aside0.mk ((by rw [hg]; exact Nat.ne_of_lt (blk_lt (g := gb342) (o := b4 a0_0 a0_1 a0_2 a0_3 25) (bz BK342.out)) : gb342 ≠ gb360))
       have n8_ := Aside0.mk ((by rw [hg]; exact Nat.ne_of_gt (blk_lt (g := gb342) (o := b4 a0_0 a0_1 a0_2 a0_3 25) (bz BK342.out)) : gb360 ≠ gb342))
       have n9_ := Aside0.mk ((by rw [hg]; exact Nat.ne_of_lt (blk_lt (g := gb343) (o := b4 a1_0 a1_1 a1_2 a1_3 25) (bz BK343.out)) : gb343 ≠ gb360))
       have n10_ := Aside0.mk ((by rw [hg]; exact Nat.ne_of_gt (blk_lt (g := gb343) (o := b4 a1_0 a1_1 a1_2 a1_3 25) (bz BK343.out)) : gb360 ≠ gb343))
       have n11_ := Aside0.mk ((by rw [hg]; exact Nat.ne_of_lt (blk_lt (g := gb344) (o := b4 0 0 0 0 25) (bz BK344.out)) : gb344 ≠ gb360))
       have n12_ := Aside0.mk ((by rw [hg]; exact Nat.ne_of_gt (blk_lt (g := gb344) (o := b4 0 0 0 0 25) (bz BK344.out)) : gb360 ≠ gb344))
       clear BK342
       clear BK343
       clear BK344
       clear HB
       have BK342 := n0_
       have BK343 := n1_
       have BK344 := n2_
       have HB := n3_
       have BK360 := n4_
       have GW360 := n5_
       have GE360 := n6_
       have NB342_360 := n7_
       have NB360_342 := n8_
       have NB343_360 := n9_
       have NB360_343 := n10_
       have NB344_360 := n11_
       have NB360_344 := n12_
       clear n0_ n1_ n2_ n3_ n4_ n5_ n6_ n7_ n8_ n9_ n10_ n11_ n12_
       clear hb hbox hg
       refine hK.out _ _ ⟨bc BK342 0, bc BK342 1, bc BK342 2, bc BK342 3, bc BK343 0, bc BK343 1, bc BK343 2, bc BK343 3⟩ (fun hHeld => ?_)
       clear hK K
       refine norm_ (a' := ?_) ?_ ?_
       rotate_left
       ·show Act.put _ (some 5) _ = _
        simp only [Act.put, List.setIfInBounds_toArray, List.set_cons_zero, List.set_cons_succ, i64_w, i32_w]
        rfl
       refine one_ (i := 1) (N := some 26) #[T, T, T, F, F, F, F, F, T, F, F] rfl rfl (one_of HT_.out (by kernel_rfl)) (by decide) (fun K hK => ?_)
       refine goes_ Try.func67 (by kernel_rfl) rfl #[.agg #[.int .i64 a0_0, .int .i64 a0_1, .int .i64 a0_2, .int .i64 a0_3]] (by rfl) rfl rfl mz ?_
       with_reducible refine (impl_Val_rest.calls a0_0 a0_1 a0_2 a0_3 t353 t354 _ A51.out).mono ?_
       rintro e w80 ⟨rfl, hb⟩
       refine ⟨_, rfl, ?_⟩
       have n0_ := Aside0.mk (blk_below (g := gb342) (o := b4 a0_0 a0_1 a0_2 a0_3 25) (bz BK342.out) hb)
       have n1_ := Aside0.mk (blk_below (g := gb343) (o := b4 a1_0 a1_1 a1_2 a1_3 25) (bz BK343.out) hb)
       have n2_ := Aside0.mk (blk_below (g := gb344) (o := b4 0 0 0 0 25) (bz BK344.out) hb)
       have n3_ := Aside0.mk (blk_below (g := gb360) (o := b2 0 0 90) (bz BK360.out) hb)
       have n4_ := Aside0.mk (below_step (hz4 HB.out GE342.out GE343.out GE344.out GE360.out) hb)
       clear BK342
       clear BK343
       clear BK344
       clear BK360
       clear HB
       have BK342 := n0_
       have BK343 := n1_
       have BK344 := n2_
       have BK360 := n3_
       have HB := n4_
       clear n0_ n1_ n2_ n3_ n4_
       (try clear hb)
       (try clear hb2)
       (try clear hk)
       (try clear hi)
       refine hK.out _ _ ⟨bc BK342 0, bc BK342 1, bc BK342 2, bc BK342 3, bc BK343 0, bc BK343 1, bc BK343 2, bc BK343 3⟩ (fun hHeld => ?_)
       clear hK K
       refine norm_ (a' := ?_) ?_ ?_
       rotate_left
       ·show Act.put _ (some 26) _ = _
        simp only [Act.put, List.setIfInBounds_toArray, List.set_cons_zero, List.set_cons_succ, i64_w, i32_w]
        rfl
       refine one_ (i := 3) (N := some 28) #[T, T, T, T, F, F, F, F, T, F, F] rfl rfl (one_of HT_.out (by kernel_rfl)) (by decide) (fun K hK => ?_)
       refine goes_ Try.func67 (by kernel_rfl) rfl #[.agg #[.int .i64 a1_0, .int .i64 a1_1, .int .i64 a1_2, .int .i64 a1_3]] (by rfl) rfl rfl mz ?_
       with_reducible refine (impl_Val_rest.calls a1_0 a1_1 a1_2 a1_3 t355 t356 _ A52.out).mono ?_
       rintro e w81 ⟨rfl, hb⟩
       refine ⟨_, rfl, ?_⟩
       have n0_ := Aside0.mk (blk_below (g := gb342) (o := b4 a0_0 a0_1 a0_2 a0_3 25) (bz BK342.out) hb)
       have n1_ := Aside0.mk (blk_below (g := gb343) (o := b4 a1_0 a1_1 a1_2 a1_3 25) (bz BK343.out) hb)
       have n2_ := Aside0.mk (blk_below (g := gb344) (o := b4 0 0 0 0 25) (bz BK344.out) hb)
       have n3_ := Aside0.mk (blk_below (g := gb360) (o := b2 0 0 90) (bz BK360.out) hb)
       have n4_ := Aside0.mk (below_step (hz4 HB.out GE342.out GE343.out GE344.out GE360.out) hb)
       clear BK342
       clear BK343
       clear BK344
       clear BK360
       clear HB
       have BK342 := n0_
       have BK343 := n1_
       have BK344 := n2_
       have BK360 := n3_
       have HB := n4_
       clear n0_ n1_ n2_ n3_ n4_
       (try clear hb)
       (try clear hb2)
       (try clear hk)
       (try clear hi)
       refine hK.out _ _ ⟨bc BK342 0, bc BK342 1, bc BK342 2, bc BK342 3, bc BK343 0, bc BK343 1, bc BK343 2, bc BK343 3⟩ (fun hHeld => ?_)
       clear hK K
       refine norm_ (a' := ?_) ?_ ?_
       rotate_left
       ·show Act.put _ (some 28) _ = _
        simp only [Act.put, List.setIfInBounds_toArray, List.set_cons_zero, List.set_cons_succ, i64_w, i32_w]
        rfl
       refine one_ (i := 4) (N := some 29) #[T, T, T, T, T, F, F, F, T, F, F] rfl rfl (one_of HT_.out (by kernel_rfl)) (by decide) (fun K hK => ?_)
       refine goes_ Try.func82 (by kernel_rfl) rfl #[.agg #[.int .i64 t353, .int .i64 t354], .agg #[.int .i64 t355, .int .i64 t356]] (by rfl) rfl rfl mz ?_
       with_reducible refine (impl_RestMeet.calls kj2 t353 t354 t355 t356 t357 t358 false _ A53.out).mono ?_
       rintro e w82 ⟨rfl, hb⟩
       refine ⟨_, rfl, ?_⟩
       have n0_ := Aside0.mk (blk_below (g := gb342) (o := b4 a0_0 a0_1 a0_2 a0_3 25) (bz BK342.out) hb)
       have n1_ := Aside0.mk (blk_below (g := gb343) (o := b4 a1_0 a1_1 a1_2 a1_3 25) (bz BK343.out) hb)
       have n2_ := Aside0.mk (blk_below (g := gb344) (o := b4 0 0 0 0 25) (bz BK344.out) hb)
       have n3_ := Aside0.mk (blk_below (g := gb360) (o := b2 0 0 90) (bz BK360.out) hb)
       have n4_ := Aside0.mk (below_step (hz4 HB.out GE342.out GE343.out GE344.out GE360.out) hb)
       clear BK342
       clear BK343
       clear BK344
       clear BK360
       clear HB
       have BK342 := n0_
       have BK343 := n1_
       have BK344 := n2_
       have BK360 := n3_
       have HB := n4_
       clear n0_ n1_ n2_ n3_ n4_
       (try clear hb)
       (try clear hb2)
       (try clear hk)
       (try clear hi)
       refine hK.out _ _ ⟨bc BK342 0, bc BK342 1, bc BK342 2, bc BK342 3, bc BK343 0, bc BK343 1, bc BK343 2, bc BK343 3⟩ (fun hHeld => ?_)
       clear hK K
       refine norm_ (a' := ?_) ?_ ?_
       rotate_left
       ·show Act.put _ (some 29) _ = _
        simp only [Act.put, List.setIfInBounds_toArray, List.set_cons_zero, List.set_cons_succ, i64_w, i32_w]
        rfl
       refine pure_ (i := 5) (N := some 24) (v := ?_) (a' := ?_) #[T, T, T, T, T, T, F, F, T, F, F] rfl rfl (any_of HT_.out (by kernel_rfl)) (fun _ _ _ h => h) (Or.inl ⟨by rfl, ?_⟩) ?_ ?_
       rotate_left
       ·exact gz
       rotate_left
       ·exact pz
       refine pure_ (i := 6) (N := some 30) (v := ?_) (a' := ?_) #[T, T, T, T, T, T, T, F, T, F, F] rfl rfl (any_of HT_.out (by kernel_rfl)) (fun _ _ _ h => h) (Or.inl ⟨by rfl, ?_⟩) ?_ ?_
       rotate_left
       ·exact gz
       rotate_left
       ·exact pz
       refine pure_ (i := 7) (N := some 31) (v := ?_) (a' := ?_) #[T, T, T, T, T, T, T, T, T, F, F] rfl rfl (any_of HT_.out (by kernel_rfl)) (fun _ _ _ h => h) (Or.inl ⟨by rfl, ?_⟩) ?_ ?_
       rotate_left
       ·exact gz
       rotate_left
       ·exact pz
       exact norm_ (by simp only [putAll, Act.put, List.setIfInBounds_toArray, List.set_cons_zero, List.set_cons_succ]) (hCont (gb360) _ ⟨hHeld, (bz BK342.out), (bz BK343.out), (bz BK344.out), (bz BK360.out), GW360.out, GE360.out, NB342_360.out, NB360_342.out, NB343_360.out, NB360_343.out, NB344_360.out, NB360_344.out, (hz4 HB.out GE342.out GE343.out GE344.out GE360.out)⟩)
     rintro gb360 w83 ⟨hS_, h0_, h1_, h2_, h3_, h4_, h5_, h6_, h7_, h8_, h9_, h10_, h11_, h12_⟩
     have n0_ : Aside0 (w83.heap[gb342]? = some (.cells #[.int .i64 a0_0, .int .i64 a0_1, .int .i64 a0_2, .int .i64 a0_3] 25 (0, 0))) := ⟨h0_⟩
     have n1_ : Aside0 (w83.heap[gb343]? = some (.cells #[.int .i64 a1_0, .int .i64 a1_1, .int .i64 a1_2, .int .i64 a1_3] 25 (0, 0))) := ⟨h1_⟩
     have n2_ : Aside0 (w83.heap[gb344]? = some (.cells #[.int .i64 0, .int .i64 0, .int .i64 0, .int .i64 0] 25 (0, 0))) := ⟨h2_⟩
     have n3_ : Aside0 (w83.heap[gb360]? = some (.cells #[.int .i64 0, .int .i64 0] 90 (0, 0))) := ⟨h3_⟩
     have n4_ : Aside0 (w.heap.size ≤ gb360) := ⟨h4_⟩
     have n5_ : Aside0 (w.heap.size ≤ gb360) := ⟨h5_⟩
     have n6_ : Aside0 (gb342 ≠ gb360) := ⟨h6_⟩
     have n7_ : Aside0 (gb360 ≠ gb342) := ⟨h7_⟩
     have n8_ : Aside0 (gb343 ≠ gb360) := ⟨h8_⟩
     have n9_ : Aside0 (gb360 ≠ gb343) := ⟨h9_⟩
     have n10_ : Aside0 (gb344 ≠ gb360) := ⟨h10_⟩
     have n11_ : Aside0 (gb360 ≠ gb344) := ⟨h11_⟩
     have n12_ : Aside0 (Below w.heap.size w w83) := ⟨h12_⟩
     clear BK342
     clear BK343
     clear BK344
     clear HB
     clear h0_ h1_ h2_ h3_ h4_ h5_ h6_ h7_ h8_ h9_ h10_ h11_ h12_
     have BK342 := n0_
     have BK343 := n1_
     have BK344 := n2_
     have BK360 := n3_
     have GW360 := n4_
     have GE360 := n5_
     have NB342_360 := n6_
     have NB360_342 := n7_
     have NB343_360 := n8_
     have NB360_343 := n9_
     have NB344_360 := n10_
     have NB360_344 := n11_
     have HB := n12_
     clear n0_ n1_ n2_ n3_ n4_ n5_ n6_ n7_ n8_ n9_ n10_ n11_ n12_
     have hHeld : w83.cell? ⟨gb342, 0, none⟩ = some (.int .i64 a0_0) ∧ w83.cell? ⟨gb342, 1, none⟩ = some (.int .i64 a0_1) ∧ w83.cell? ⟨gb342, 2, none⟩ = some (.int .i64 a0_2) ∧ w83.cell? ⟨gb342, 3, none⟩ = some (.int .i64 a0_3) ∧ w83.cell? ⟨gb343, 0, none⟩ = some (.int .i64 a1_0) ∧ w83.cell? ⟨gb343, 1, none⟩ = some (.int .i64 a1_1) ∧ w83.cell? ⟨gb343, 2, none⟩ = some (.int .i64 a1_2) ∧ w83.cell? ⟨gb343, 3, none⟩ = some (.int .i64 a1_3) := hS_
     refine norm_ (a' := ?_) ?_ ?_
     rotate_left
     ·simp only [putAll, Act.put, List.setIfInBounds_toArray, List.set_cons_zero, List.set_cons_succ]
      rfl
     refine one_ (i := 9) (N := none) #[T, T, T, T, T, T, T, T, T, T, F] rfl rfl (one_of HT_.out (by kernel_rfl)) (by decide) (fun K hK => ?_)
     have hs84 : w83.cell? ⟨gb360, 0, none⟩ = some (.int .i64 0) := bc BK360 0
     have hfs84 := blk_frozen BK360.out 0
     have hns84_0 := NB342_360.out
     have hns84_1 := NB343_360.out
     have hns84_2 := NB344_360.out
     have hms84_0 := NB360_342.out
     have hms84_1 := NB360_343.out
     have hms84_2 := NB360_344.out
     have hs85 : w83.cell? ⟨gb360, 1, none⟩ = some (.int .i64 0) := bc BK360 1
     have hfs85 := blk_frozen BK360.out 1
     have hns85_0 := NB342_360.out
     have hns85_1 := NB343_360.out
     have hns85_2 := NB344_360.out
     have hms85_0 := NB360_342.out
     have hms85_1 := NB360_343.out
     have hms85_2 := NB360_344.out
     refine skip_ (w1 := ?_) (by rfl) rfl ?_ ?_
     rotate_left
     ·go_simp
      rfl
     refine hK.out _ _ ⟨((cell_far (p := ⟨gb360, _, none⟩) NB342_360.out _).trans (((cell_far (p := ⟨gb360, _, none⟩) NB342_360.out _).trans (hHeld.1)))), ((cell_far (p := ⟨gb360, _, none⟩) NB342_360.out _).trans (((cell_far (p := ⟨gb360, _, none⟩) NB342_360.out _).trans (hHeld.2.1)))), ((cell_far (p := ⟨gb360, _, none⟩) NB342_360.out _).trans (((cell_far (p := ⟨gb360, _, none⟩) NB342_360.out _).trans (hHeld.2.2.1)))), ((cell_far (p := ⟨gb360, _, none⟩) NB342_360.out _).trans (((cell_far (p := ⟨gb360, _, none⟩) NB342_360.out _).trans (hHeld.2.2.2.1)))), ((cell_far (p := ⟨gb360, _, none⟩) NB343_360.out _).trans (((cell_far (p := ⟨gb360, _, none⟩) NB343_360.out _).trans (hHeld.2.2.2.2.1)))), ((cell_far (p := ⟨gb360, _, none⟩) NB343_360.out _).trans (((cell_far (p := ⟨gb360, _, none⟩) NB343_360.out _).trans (hHeld.2.2.2.2.2.1)))), ((cell_far (p := ⟨gb360, _, none⟩) NB343_360.out _).trans (((cell_far (p := ⟨gb360, _, none⟩) NB343_360.out _).trans (hHeld.2.2.2.2.2.2.1)))), ((cell_far (p := ⟨gb360, _, none⟩) NB343_360.out _).trans (((cell_far (p := ⟨gb360, _, none⟩) NB343_360.out _).trans (hHeld.2.2.2.2.2.2.2))))⟩ (fun hHeld => ?_)
     clear hK K
     refine pure_ (i := 10) (N := some 6) (v := ?_) (a' := ?_) #[T, T, T, T, T, T, T, T, T, T, T] rfl rfl (any_of HT_.out (by kernel_rfl)) (fun _ _ _ h => h) (Or.inl ⟨by rfl, ?_⟩) ?_ ?_
     rotate_left
     ·exact gz
     rotate_left
     ·exact pz
     refine done_ (done_of HT_.out (by kernel_rfl)) ?_
     try go_wp2_with (first | ((with_reducible refine gate_callee (f := 76) rfl ?_); refine goesL_ (some 34) rfl rfl Try.func76 (by kernel_rfl) rfl #[] rfl mz ?_; (with_reducible refine (impl_valNone.calls  t361 t362 t363 t364 _ A77.out).mono ?_); rintro e w86 ⟨rfl, hb⟩; refine ⟨_, rfl, ?_⟩; have n0_ := Aside0.mk (blk_below (g := gb342) (o := b4 a0_0 a0_1 a0_2 a0_3 25) (by (with_reducible repeat (first | refine blk_drewN ?_ _ | refine blk_drew ?_ | refine blk_alloc ?_ _)); refine blk_far ?_ NB342_360.out _; (with_reducible repeat (first | refine blk_drewN ?_ _ | refine blk_drew ?_ | refine blk_alloc ?_ _)); refine blk_far ?_ NB342_360.out _; (with_reducible repeat (first | refine blk_drewN ?_ _ | refine blk_drew ?_ | refine blk_alloc ?_ _)); exact BK342.out) hb); have n1_ := Aside0.mk (blk_below (g := gb343) (o := b4 a1_0 a1_1 a1_2 a1_3 25) (by (with_reducible repeat (first | refine blk_drewN ?_ _ | refine blk_drew ?_ | refine blk_alloc ?_ _)); refine blk_far ?_ NB343_360.out _; (with_reducible repeat (first | refine blk_drewN ?_ _ | refine blk_drew ?_ | refine blk_alloc ?_ _)); refine blk_far ?_ NB343_360.out _; (with_reducible repeat (first | refine blk_drewN ?_ _ | refine blk_drew ?_ | refine blk_alloc ?_ _)); exact BK343.out) hb); have n2_ := Aside0.mk (blk_below (g := gb344) (o := b4 0 0 0 0 25) (by (with_reducible repeat (first | refine blk_drewN ?_ _ | refine blk_drew ?_ | refine blk_alloc ?_ _)); refine blk_far ?_ NB344_360.out _; (with_reducible repeat (first | refine blk_drewN ?_ _ | refine blk_drew ?_ | refine blk_alloc ?_ _)); refine blk_far ?_ NB344_360.out _; (with_reducible repeat (first | refine blk_drewN ?_ _ | refine blk_drew ?_ | refine blk_alloc ?_ _)); exact BK344.out) hb); have n3_ := Aside0.mk (blk_below (g := gb360) (o := b2 t357 t358 90) (by (with_reducible repeat (first | refine blk_drewN ?_ _ | refine blk_drew ?_ | refine blk_alloc ?_ _)); refine blk_put (cs := #[.int .i64 t357, .int .i64 0]) ?_ 1 _ rfl; (with_reducible repeat (first | refine blk_drewN ?_ _ | refine blk_drew ?_ | refine blk_alloc ?_ _)); refine blk_put (cs := #[.int .i64 0, .int .i64 0]) ?_ 0 _ rfl; (with_reducible repeat (first | refine blk_drewN ?_ _ | refine blk_drew ?_ | refine blk_alloc ?_ _)); exact BK360.out) hb); have n4_ := Aside0.mk (below_step (hz4 HB.out GE342.out GE343.out GE344.out GE360.out) hb); clear BK342; clear BK343; clear BK344; clear BK360; clear HB; have BK342 := n0_; have BK343 := n1_; have BK344 := n2_; have BK360 := n3_; have HB := n4_; clear n0_ n1_ n2_ n3_ n4_; (try clear hb); (try clear hb2); (try clear hk); (try clear hi); have hnb87 := NB344_342.out; have hnc87 := NB342_344.out; have hnb88 := NB344_343.out; have hnc88 := NB343_344.out; have hnb89 := NB344_360.out; have hnc89 := NB360_344.out; have hcz90_0 : w86.cell? ⟨gb344, 0, none⟩ = some (.int .i64 0) := bc BK344 0; have hcz90_1 : w86.cell? ⟨gb344, 1, none⟩ = some (.int .i64 0) := bc BK344 1; have hcz90_2 : w86.cell? ⟨gb344, 2, none⟩ = some (.int .i64 0) := bc BK344 2; have hcz90_3 : w86.cell? ⟨gb344, 3, none⟩ = some (.int .i64 0) := bc BK344 3; have hfz90_0 := blk_frozen BK344.out 0; have hfz90_1 := blk_frozen BK344.out 1; have hfz90_2 := blk_frozen BK344.out 2; have hfz90_3 := blk_frozen BK344.out 3))
     refine bodyPost_ret (results_cell_row rfl _ _ gb344 25 #[.int .i64 t361, .int .i64 t362, .int .i64 t363, .int .i64 t364] (0, 0) _ rfl (by (with_reducible repeat (first | refine blk_drewN ?_ _ | refine blk_drew ?_ | refine blk_alloc ?_ _)); refine blk_put (cs := #[.int .i64 t361, .int .i64 t362, .int .i64 t363, .int .i64 0]) ?_ 3 _ rfl; (with_reducible repeat (first | refine blk_drewN ?_ _ | refine blk_drew ?_ | refine blk_alloc ?_ _)); refine blk_put (cs := #[.int .i64 t361, .int .i64 t362, .int .i64 0, .int .i64 0]) ?_ 2 _ rfl; (with_reducible repeat (first | refine blk_drewN ?_ _ | refine blk_drew ?_ | refine blk_alloc ?_ _)); refine blk_put (cs := #[.int .i64 t361, .int .i64 0, .int .i64 0, .int .i64 0]) ?_ 1 _ rfl; (with_reducible repeat (first | refine blk_drewN ?_ _ | refine blk_drew ?_ | refine blk_alloc ?_ _)); refine blk_put (cs := #[.int .i64 0, .int .i64 0, .int .i64 0, .int .i64 0]) ?_ 0 _ rfl; (with_reducible repeat (first | refine blk_drewN ?_ _ | refine blk_drew ?_ | refine blk_alloc ?_ _)); exact BK344.out) Try.underlying25 rfl (by kernel_rfl)) rfl ?_
     exact ⟨by first | rfl | (simp [errW_none, errW_some] <;> rfl) | (simp [*, errW_none, errW_some] <;> rfl), hz4 HB.out GE342.out GE343.out GE344.out GE360.out⟩

end Go.Proofs.Ytnmccgjdnceheaa.PFnExactValMeet
