/- Written by this session's own driver (wip/dprint.py): the functions that the law FnExactRangeDo reaches, as Lean functions, each with its contract. -/
import Derived.Test.YthbkakcchgnhpaaPFnExactRangeDox0
import Derived.Test.YthbkakcchgnhpaaPFnExactRangeDox13
import Derived.Test.YthbkakcchgnhpaaPFnExactRangeDox18
import Derived.Test.YthbkakcchgnhpaaSv
namespace Go.Proofs.Ythbkakcchgnhpaa.PFnExactRangeDo
open Go.RowKit Go.Proofs.YthbkakcchgnhpaaV.PrintWords Go.Proofs.YthbkakcchgnhpaaV.PrintLast Go.Proofs.YthbkakcchgnhpaaV.PrintMore Go.Proofs.YthbkakcchgnhpaaSv
attribute [local go_sem] max2_int min2_int max_two min_two max_three min_three max_four min_four   -- for this text's walks alone
set_option linter.unusedVariables false
set_option linter.unusedSimpArgs false

/-! ### impl_rangeBits: function 55 -/
attribute [local go_sem] Go.Proofs.YthbkakcchgnhpaaSet.isSome_setCell
mutual
def impl_rangeBits.j0 : Nat → Int → Bool → Int → Int → Int → Int → Option (Int × Int)
 | 0, _, _, _, _, _, _ => none
 | k + 1, x0, x14, x447000, x447001, x448000, x448001 => if x14 = true then ((impl_numExact.f k x0 x447000 x448000).bind fun t451 => (some (t451, t451))) else (if x0 = 6 then (if x447000 ≥ 0 then (impl_rangeBits.j1 k (decide (x448000 ≥ 0)) x447000 x447001 x448000 x448001) else (impl_rangeBits.j1 k false x447000 x447001 x448000 x448001)) else (if x447000 < 0 then (impl_rangeBits.j2 k x0 true x447000 x447001 x448000 x448001) else (impl_rangeBits.j2 k x0 (decide (x448000 < 0)) x447000 x447001 x448000 x448001)))
def impl_rangeBits.j1 : Nat → Bool → Int → Int → Int → Int → Option (Int × Int)
 | 0, _, _, _, _, _ => none
 | k + 1, x26, x447000, x447001, x448000, x448001 => if x26 = true then (some (0, mn x447001 x448001)) else (if x447000 ≥ 0 then (some (0, x447001)) else (if x448000 ≥ 0 then (some (0, x448001)) else (some ((-2147483648), 2147483647))))
def impl_rangeBits.j2 : Nat → Int → Bool → Int → Int → Int → Int → Option (Int × Int)
 | 0, _, _, _, _, _, _ => none
 | k + 1, x0, x63, x447000, x447001, x448000, x448001 => if x63 = true then (some ((-2147483648), 2147483647)) else (if x0 = 7 then (impl_rangeBits.j3 k x447000 x447001 x448000 x448001 (mx x447000 x448000) 0) else (impl_rangeBits.j3 k x447000 x447001 x448000 x448001 0 0))
def impl_rangeBits.j3 : Nat → Int → Int → Int → Int → Int → Int → Option (Int × Int)
 | 0, _, _, _, _, _, _ => none
 | k + 1, x447000, x447001, x448000, x448001, x453000, x453001 => impl_rangeBits.l0 k x447000 x447001 x448000 x448001 x453000 x453001
def impl_rangeBits.l0 : Nat → Int → Int → Int → Int → Int → Int → Option (Int × Int)
 | 0, _, _, _, _, _, _ => none
 | k + 1, x447000, x447001, x448000, x448001, x453000, x453001 => if x453001 < (mx x447001 x448001) then (impl_rangeBits.l0 k x447000 x447001 x448000 x448001 x453000 (wrap64 ((wrap64 (2 * x453001)) + 1))) else (some (x453000, x453001))
end
def impl_rangeBits.f (k : Nat) (a0 : Int) (a1_0 : Int) (a1_1 : Int) (a2_0 : Int) (a2_1 : Int) : Option (Int × Int) := (impl_Range_single.f a1_0 a1_1).bind fun t449 => (if t449 = true then ((impl_Range_single.f a2_0 a2_1).bind fun t450 => (impl_rangeBits.j0 k a0 t450 a1_0 a1_1 a2_0 a2_1)) else (impl_rangeBits.j0 k a0 false a1_0 a1_1 a2_0 a2_1))
theorem impl_rangeBits.mono_l : ∀ k, (∀ y0 y1 y2 y3 y4 y5, LeO (impl_rangeBits.j0 k y0 y1 y2 y3 y4 y5) (impl_rangeBits.j0 (k + 1) y0 y1 y2 y3 y4 y5)) ∧ (∀ y0 y1 y2 y3 y4, LeO (impl_rangeBits.j1 k y0 y1 y2 y3 y4) (impl_rangeBits.j1 (k + 1) y0 y1 y2 y3 y4)) ∧ (∀ y0 y1 y2 y3 y4 y5, LeO (impl_rangeBits.j2 k y0 y1 y2 y3 y4 y5) (impl_rangeBits.j2 (k + 1) y0 y1 y2 y3 y4 y5)) ∧ (∀ y0 y1 y2 y3 y4 y5, LeO (impl_rangeBits.j3 k y0 y1 y2 y3 y4 y5) (impl_rangeBits.j3 (k + 1) y0 y1 y2 y3 y4 y5)) ∧ (∀ y0 y1 y2 y3 y4 y5, LeO (impl_rangeBits.l0 k y0 y1 y2 y3 y4 y5) (impl_rangeBits.l0 (k + 1) y0 y1 y2 y3 y4 y5))
 | 0 => ⟨fun _ _ _ _ _ _ r h => by simp [impl_rangeBits.j0] at h, fun _ _ _ _ _ r h => by simp [impl_rangeBits.j1] at h, fun _ _ _ _ _ _ r h => by simp [impl_rangeBits.j2] at h, fun _ _ _ _ _ _ r h => by simp [impl_rangeBits.j3] at h, fun _ _ _ _ _ _ r h => by simp [impl_rangeBits.l0] at h⟩
 | k + 1 => by
  obtain ⟨ih0, ih1, ih2, ih3, ih4⟩ := impl_rangeBits.mono_l k
  refine ⟨?_, ?_, ?_, ?_, ?_⟩
  ·intro y0 y1 y2 y3 y4 y5
   unfold impl_rangeBits.j0
   repeat' first
   | (with_reducible exact ih0 _ _ _ _ _ _)
   | (with_reducible exact ih1 _ _ _ _ _)
   | (with_reducible exact ih2 _ _ _ _ _ _)
   | (with_reducible exact ih3 _ _ _ _ _ _)
   | (with_reducible exact ih4 _ _ _ _ _ _)
   | (with_reducible exact impl_numExact.mono _ _ _ _)
   | (with_reducible exact LeO.refl _)
   | (with_reducible exact LeO.none _)
   | (with_reducible refine LeO.ite ?_ ?_)
   | (with_reducible refine LeO.bind ?_ (fun _ => ?_))
   | exact ih0 _ _ _ _ _ _
   | exact ih1 _ _ _ _ _
   | exact ih2 _ _ _ _ _ _
   | exact ih3 _ _ _ _ _ _
   | exact ih4 _ _ _ _ _ _
   | exact impl_numExact.mono _ _ _ _
   | exact LeO.none _
   | refine LeO.ite ?_ ?_
   | refine LeO.bind ?_ (fun _ => ?_)
  ·intro y0 y1 y2 y3 y4
   unfold impl_rangeBits.j1
   repeat' first
   | (with_reducible exact ih0 _ _ _ _ _ _)
   | (with_reducible exact ih1 _ _ _ _ _)
   | (with_reducible exact ih2 _ _ _ _ _ _)
   | (with_reducible exact ih3 _ _ _ _ _ _)
   | (with_reducible exact ih4 _ _ _ _ _ _)
   | (with_reducible exact impl_numExact.mono _ _ _ _)
   | (with_reducible exact LeO.refl _)
   | (with_reducible exact LeO.none _)
   | (with_reducible refine LeO.ite ?_ ?_)
   | (with_reducible refine LeO.bind ?_ (fun _ => ?_))
   | exact ih0 _ _ _ _ _ _
   | exact ih1 _ _ _ _ _
   | exact ih2 _ _ _ _ _ _
   | exact ih3 _ _ _ _ _ _
   | exact ih4 _ _ _ _ _ _
   | exact impl_numExact.mono _ _ _ _
   | exact LeO.none _
   | refine LeO.ite ?_ ?_
   | refine LeO.bind ?_ (fun _ => ?_)
  ·intro y0 y1 y2 y3 y4 y5
   unfold impl_rangeBits.j2
   repeat' first
   | (with_reducible exact ih0 _ _ _ _ _ _)
   | (with_reducible exact ih1 _ _ _ _ _)
   | (with_reducible exact ih2 _ _ _ _ _ _)
   | (with_reducible exact ih3 _ _ _ _ _ _)
   | (with_reducible exact ih4 _ _ _ _ _ _)
   | (with_reducible exact impl_numExact.mono _ _ _ _)
   | (with_reducible exact LeO.refl _)
   | (with_reducible exact LeO.none _)
   | (with_reducible refine LeO.ite ?_ ?_)
   | (with_reducible refine LeO.bind ?_ (fun _ => ?_))
   | exact ih0 _ _ _ _ _ _
   | exact ih1 _ _ _ _ _
   | exact ih2 _ _ _ _ _ _
   | exact ih3 _ _ _ _ _ _
   | exact ih4 _ _ _ _ _ _
   | exact impl_numExact.mono _ _ _ _
   | exact LeO.none _
   | refine LeO.ite ?_ ?_
   | refine LeO.bind ?_ (fun _ => ?_)
  ·intro y0 y1 y2 y3 y4 y5
   unfold impl_rangeBits.j3
   repeat' first
   | (with_reducible exact ih0 _ _ _ _ _ _)
   | (with_reducible exact ih1 _ _ _ _ _)
   | (with_reducible exact ih2 _ _ _ _ _ _)
   | (with_reducible exact ih3 _ _ _ _ _ _)
   | (with_reducible exact ih4 _ _ _ _ _ _)
   | (with_reducible exact impl_numExact.mono _ _ _ _)
   | (with_reducible exact LeO.refl _)
   | (with_reducible exact LeO.none _)
   | (with_reducible refine LeO.ite ?_ ?_)
   | (with_reducible refine LeO.bind ?_ (fun _ => ?_))
   | exact ih0 _ _ _ _ _ _
   | exact ih1 _ _ _ _ _
   | exact ih2 _ _ _ _ _ _
   | exact ih3 _ _ _ _ _ _
   | exact ih4 _ _ _ _ _ _
   | exact impl_numExact.mono _ _ _ _
   | exact LeO.none _
   | refine LeO.ite ?_ ?_
   | refine LeO.bind ?_ (fun _ => ?_)
  ·intro y0 y1 y2 y3 y4 y5
   unfold impl_rangeBits.l0
   repeat' first
   | (with_reducible exact ih0 _ _ _ _ _ _)
   | (with_reducible exact ih1 _ _ _ _ _)
   | (with_reducible exact ih2 _ _ _ _ _ _)
   | (with_reducible exact ih3 _ _ _ _ _ _)
   | (with_reducible exact ih4 _ _ _ _ _ _)
   | (with_reducible exact impl_numExact.mono _ _ _ _)
   | (with_reducible exact LeO.refl _)
   | (with_reducible exact LeO.none _)
   | (with_reducible refine LeO.ite ?_ ?_)
   | (with_reducible refine LeO.bind ?_ (fun _ => ?_))
   | exact ih0 _ _ _ _ _ _
   | exact ih1 _ _ _ _ _
   | exact ih2 _ _ _ _ _ _
   | exact ih3 _ _ _ _ _ _
   | exact ih4 _ _ _ _ _ _
   | exact impl_numExact.mono _ _ _ _
   | exact LeO.none _
   | refine LeO.ite ?_ ?_
   | refine LeO.bind ?_ (fun _ => ?_)
theorem impl_rangeBits.mono : ∀ a0 a1 a2 a3 a4 k, LeO (impl_rangeBits.f k a0 a1 a2 a3 a4) (impl_rangeBits.f (k + 1) a0 a1 a2 a3 a4) := by
 intro a0 a1 a2 a3 a4 k
 obtain ⟨ih0, ih1, ih2, ih3, ih4⟩ := impl_rangeBits.mono_l k
 unfold impl_rangeBits.f
 repeat' first
   | (with_reducible exact ih0 _ _ _ _ _ _)
   | (with_reducible exact ih1 _ _ _ _ _)
   | (with_reducible exact ih2 _ _ _ _ _ _)
   | (with_reducible exact ih3 _ _ _ _ _ _)
   | (with_reducible exact ih4 _ _ _ _ _ _)
   | (with_reducible exact impl_numExact.mono _ _ _ _)
   | (with_reducible exact LeO.refl _)
   | (with_reducible exact LeO.none _)
   | (with_reducible refine LeO.ite ?_ ?_)
   | (with_reducible refine LeO.bind ?_ (fun _ => ?_))
   | exact ih0 _ _ _ _ _ _
   | exact ih1 _ _ _ _ _
   | exact ih2 _ _ _ _ _ _
   | exact ih3 _ _ _ _ _ _
   | exact ih4 _ _ _ _ _ _
   | exact impl_numExact.mono _ _ _ _
   | exact LeO.none _
   | refine LeO.ite ?_ ?_
   | refine LeO.bind ?_ (fun _ => ?_)
set_option maxHeartbeats 8000000 in
set_option maxRecDepth 100000 in
theorem impl_rangeBits.calls (k : Nat) (a0 : Int) (a1_0 : Int) (a1_1 : Int) (a2_0 : Int) (a2_1 : Int) (r1 : Int) (r2 : Int) (w : World) (h : impl_rangeBits.f k a0 a1_0 a1_1 a2_0 a2_1 = some (r1, r2)) :
  Calls Try.prog 55 #[.int .i64 a0, .agg #[.int .i64 a1_0, .int .i64 a1_1], .agg #[.int .i64 a2_0, .int .i64 a2_1]] w fun e w' => e = .returned (.agg #[.int .i64 r1, .int .i64 r2]) ∧ Below w.heap.size w w' := by
 have hu24 := Try.underlying24
 have HB := am (Below.refl w.heap.size w)
 have H : ((impl_Range_single.f a1_0 a1_1).bind fun t449 => (if t449 = true then ((impl_Range_single.f a2_0 a2_1).bind fun t450 => (impl_rangeBits.j0 k a0 t450 a1_0 a1_1 a2_0 a2_1)) else (impl_rangeBits.j0 k a0 false a1_0 a1_1 a2_0 a2_1))) = some (r1, r2) := h
 clear h
 have HC4 := am H
 clear H
 go_enter Try.func55, Try.ntmps55
 go_upto_region 1 with (first | ((with_reducible refine gate_dst (N := 4) rfl ?_); refine bx 4 #[.int .i64 a1_0, .int .i64 a1_1] 24 ?_; intro gb446 hg w5 hbox hb; have BK446 := am (hbox); have GW446 := am (bs hg (Y0 HB)); have GE446 := am (bs hg (Y0 HB)); replace HB := am (below_step (Y0 HB) hb); clear hb hbox hg) | ((with_reducible refine gate_dst (N := 5) rfl ?_); refine bx 5 #[.int .i64 a2_0, .int .i64 a2_1] 24 ?_; intro gb447 hg w6 hbox hb; have BK447 := am (hbox); have GW447 := am (bs hg (Y1 HB GE446)); have GE447 := am (bs hg (Y1 HB GE446)); obtain ⟨NB446_447,NB447_446⟩ := ne_ hg BK446; replace BK446 := bb BK446 hb; replace HB := am (below_step (Y1 HB GE446) hb); clear hb hbox hg) | ((with_reducible refine gate_dst (N := 6) rfl ?_); refine bx 6 #[.int .i64 0, .int .i64 0] 24 ?_; intro gb448 hg w7 hbox hb; have BK448 := am (hbox); have GW448 := am (bs hg (Y2 HB GE446 GE447)); have GE448 := am (bs hg (Y2 HB GE446 GE447)); obtain ⟨NB446_448,NB448_446⟩ := ne_ hg BK446; obtain ⟨NB447_448,NB448_447⟩ := ne_ hg BK447; replace BK446 := bb BK446 hb; replace BK447 := bb BK447 hb; replace HB := am (below_step (Y2 HB GE446 GE447) hb); clear hb hbox hg))
 (try simp only [Act.put, List.setIfInBounds_toArray, List.set_cons_zero, List.set_cons_succ])
 go_cut [14] (fun v14 wc => ∃ (kq : Nat) (x14_3 : Bool), v14 = .bool x14_3 ∧ Aside0 (impl_rangeBits.j0 kq a0 x14_3 a1_0 a1_1 a2_0 a2_1 = some (r1, r2)) ∧ Aside0 (kq ≤ k) ∧ Aside0 (wc.heap[gb446]? = some (.cells #[.int .i64 a1_0, .int .i64 a1_1] 24 (0, 0))) ∧ Aside0 (wc.heap[gb447]? = some (.cells #[.int .i64 a2_0, .int .i64 a2_1] 24 (0, 0))) ∧ Aside0 (wc.heap[gb448]? = some (.cells #[.int .i64 0, .int .i64 0] 24 (0, 0))) ∧ Aside0 (Below w.heap.size w wc))
 case first =>
  have H := HC4.out
  clear HC4
  replace H := Option.bind_eq_some_iff.mp H
  obtain ⟨t449, A80, H⟩ := H
  try dsimp only at H
  have A8 := am A80
  clear A80
  by_cases c9 : t449 = true
  rotate_left
  ·replace c9 := Bool.eq_false_iff.mpr c9
   subst c9
   rw [if_neg (show ¬ (false = true) by decide)] at H
   have H' := am H
   clear H
   obtain ⟨hnb18,hnc18⟩ := nn NB446_447
   obtain ⟨hnb19,hnc19⟩ := nn NB446_448
   obtain ⟨hcz20_0,hcz20_1,hfz20_0,hfz20_1⟩ := c2 BK446
   go_wp2_with (first | ((with_reducible refine gate_callee (f := 96) rfl ?_); refine goesL_ (some 10) rfl rfl Try.func96 (by kernel_rfl) rfl #[.agg #[.int .i64 a1_0, .int .i64 a1_1]] rfl mz ?_; (with_reducible refine (impl_Range_single.calls a1_0 a1_1 false _ A8.out).mono ?_); rintro e w21 ⟨rfl, hb⟩; refine ⟨_, rfl, ?_⟩; replace BK446 := bb BK446 hb; replace BK447 := bb BK447 hb; replace BK448 := bb BK448 hb; replace HB := am (below_step (Y3 HB GE446 GE447 GE448) hb); (try clear hb)))
   go_meet
   case rel => exact ⟨_, (false), ey, H', ⟨by first | omega | exact Nat.le_refl _⟩, ⟨Z BK446⟩, ⟨Z BK447⟩, ⟨Z BK448⟩, ⟨Y3 HB GE446 GE447 GE448⟩⟩
  subst c9
  rw [if_pos rfl] at H
  replace H := Option.bind_eq_some_iff.mp H
  obtain ⟨t450, A100, H⟩ := H
  try dsimp only at H
  have A10 := am A100
  clear A100
  have H' := am H
  clear H
  obtain ⟨hnb11,hnc11⟩ := nn NB446_447
  obtain ⟨hnb12,hnc12⟩ := nn NB446_448
  obtain ⟨hcz13_0,hcz13_1,hfz13_0,hfz13_1⟩ := c2 BK446
  go_wp2_with (first | ((with_reducible refine gate_callee (f := 96) rfl ?_); refine goesL_ (some 10) rfl rfl Try.func96 (by kernel_rfl) rfl #[.agg #[.int .i64 a1_0, .int .i64 a1_1]] rfl mz ?_; (with_reducible refine (impl_Range_single.calls a1_0 a1_1 true _ A8.out).mono ?_); rintro e w14 ⟨rfl, hb⟩; refine ⟨_, rfl, ?_⟩; replace BK446 := bb BK446 hb; replace BK447 := bb BK447 hb; replace BK448 := bb BK448 hb; replace HB := am (below_step (Y3 HB GE446 GE447 GE448) hb); (try clear hb); obtain ⟨hnb15,hnc15⟩ := nn NB447_448; obtain ⟨hcz16_0,hcz16_1,hfz16_0,hfz16_1⟩ := c2 BK447) | (go_at_call 96; (with_reducible refine (impl_Range_single.calls a2_0 a2_1 t450 _ A10.out).mono ?_); rintro e w17 ⟨rfl, hb⟩; replace BK446 := bb BK446 hb; replace BK447 := bb BK447 hb; replace BK448 := bb BK448 hb; replace HB := am (below_step (Y3 HB GE446 GE447 GE448) hb); (try clear hb)))
  go_meet
  case rel => exact ⟨_, (t450), ey, H', ⟨by first | omega | exact Nat.le_refl _⟩, ⟨Z BK446⟩, ⟨Z BK447⟩, ⟨Z BK448⟩, ⟨Y3 HB GE446 GE447 GE448⟩⟩
 case rest =>
  clear HC4
  obtain ⟨kq, x14_3, rfl, HA, HJ3, BK446, BK447, BK448, HB⟩ := hcut
  cases kq with
  | zero => exact absurd HA.out (by simp [impl_rangeBits.j0])
  | succ kj3 =>
   have H := HA.out
   clear HA
   simp only [impl_rangeBits.j0] at H
   by_cases c22 : x14_3 = true
   ·subst c22
    rw [if_pos rfl] at H
    replace H := Option.bind_eq_some_iff.mp H
    obtain ⟨t451, A230, H⟩ := H
    try dsimp only at H
    have A23 := am A230
    clear A230
    simp only [Option.some.injEq, Prod.mk.injEq] at H
    obtain ⟨rfl, rfl⟩ := H
    obtain ⟨hnb24,hnc24⟩ := nn NB446_447
    obtain ⟨hnb25,hnc25⟩ := nn NB446_448
    obtain ⟨hcz26_0,hcz26_1,hfz26_0,hfz26_1⟩ := c2 BK446
    obtain ⟨hnb27,hnc27⟩ := nn NB447_448
    obtain ⟨hcz28_0,hcz28_1,hfz28_0,hfz28_1⟩ := c2 BK447
    go_wp2_with (first | ((with_reducible refine gate_callee (f := 61) rfl ?_); refine goesL_ (some 20) rfl rfl Try.func61 (by kernel_rfl) rfl #[.int .i64 a0, .int .i64 a1_0, .int .i64 a2_0] rfl mz ?_; (with_reducible refine (impl_numExact.calls kj3 a0 a1_0 a2_0 t451 _ A23.out).mono ?_); rintro e w' ⟨rfl, ⟨nd, rfl⟩⟩; refine ⟨_, rfl, ?_⟩; (try (rw [drewN_self wc]; generalize hq_ : World.drewN wc _ = wc; replace BK446 : Aside0 (wc.heap[gb446]? = some (.cells #[.int .i64 a1_0, .int .i64 a1_1] 24 (0, 0))) := ⟨by rw [← hq_]; exact (Z BK446)⟩; replace BK447 : Aside0 (wc.heap[gb447]? = some (.cells #[.int .i64 a2_0, .int .i64 a2_1] 24 (0, 0))) := ⟨by rw [← hq_]; exact (Z BK447)⟩; replace BK448 : Aside0 (wc.heap[gb448]? = some (.cells #[.int .i64 0, .int .i64 0] 24 (0, 0))) := ⟨by rw [← hq_]; exact (Z BK448)⟩; replace HB : Aside0 (Below w.heap.size w wc) := ⟨by rw [← hq_]; exact (Y3 HB GE446 GE447 GE448)⟩; clear hq_)); obtain ⟨hcz29_0,hcz29_1,hfz29_0,hfz29_1⟩ := c2 BK448))
    refine bodyPost_ret (results_cell_row rfl _ _ gb448 24 #[.int .i64 t451, .int .i64 t451] (0, 0) _ rfl (by refine pf ?_; refine blk_put (cs := #[.int .i64 t451, .int .i64 0]) ?_ 1 _ rfl; refine pf ?_; refine blk_put (cs := #[.int .i64 0, .int .i64 0]) ?_ 0 _ rfl; exact Z BK448) Try.underlying24 rfl (by kernel_rfl)) rfl ?_
    exact ⟨ez, Y3 HB GE446 GE447 GE448⟩
   replace c22 := Bool.eq_false_iff.mpr c22
   subst c22
   rw [if_neg (show ¬ (false = true) by decide)] at H
   by_cases c30 : a0 = 6
   ·rw [if_pos c30] at H
    have c30b0 : (a0 == 6) = true := beq_iff_eq.mpr c30
    have c30b1 : (a0 != 6) = false := bne_eq_false_iff_eq.mpr c30
    clear c30
    have HC31 := am H
    clear H
    go_upto_region 5 with (fail)
    go_cut [26] (fun v26 wc => ∃ (kq : Nat) (x26_30 : Bool), v26 = .bool x26_30 ∧ Aside0 (impl_rangeBits.j1 kq x26_30 a1_0 a1_1 a2_0 a2_1 = some (r1, r2)) ∧ Aside0 (kq ≤ kj3) ∧ Aside0 (wc.heap[gb446]? = some (.cells #[.int .i64 a1_0, .int .i64 a1_1] 24 (0, 0))) ∧ Aside0 (wc.heap[gb447]? = some (.cells #[.int .i64 a2_0, .int .i64 a2_1] 24 (0, 0))) ∧ Aside0 (wc.heap[gb448]? = some (.cells #[.int .i64 0, .int .i64 0] 24 (0, 0))) ∧ Aside0 (Below w.heap.size w wc))
    case first =>
     have H := HC31.out
     clear HC31
     by_cases c32 : a1_0 ≥ 0
     rotate_left
     ·rw [if_neg c32] at H
      have c32b0 : decide (0 ≤ a1_0) = false := decide_eq_false c32
      clear c32
      (first | rw [c32b0] | (simp only [i64_w, i32_w]; rw [c32b0]) | skip)
      have H' := am H
      clear H
      obtain ⟨hnb38,hnc38⟩ := nn NB446_447
      obtain ⟨hnb39,hnc39⟩ := nn NB446_448
      obtain ⟨hcz40_0,hcz40_1,hfz40_0,hfz40_1⟩ := c2 BK446
      go_wp2
      go_meet
      case rel => exact ⟨_, (false), ey, H', ⟨by have := HJ3.out; first | omega | exact Nat.le_refl _⟩, ⟨Z BK446⟩, ⟨Z BK447⟩, ⟨Z BK448⟩, ⟨Y3 HB GE446 GE447 GE448⟩⟩
     rw [if_pos c32] at H
     have c32b0 : decide (0 ≤ a1_0) = true := decide_eq_true c32
     clear c32
     (first | rw [c32b0] | (simp only [i64_w, i32_w]; rw [c32b0]) | skip)
     have H' := am H
     clear H
     obtain ⟨hnb33,hnc33⟩ := nn NB446_447
     obtain ⟨hnb34,hnc34⟩ := nn NB446_448
     obtain ⟨hcz35_0,hcz35_1,hfz35_0,hfz35_1⟩ := c2 BK446
     obtain ⟨hnb36,hnc36⟩ := nn NB447_448
     obtain ⟨hcz37_0,hcz37_1,hfz37_0,hfz37_1⟩ := c2 BK447
     go_wp2
     go_meet
     case rel => exact ⟨_, (decide (a2_0 ≥ 0)), ey, H', ⟨by have := HJ3.out; first | omega | exact Nat.le_refl _⟩, ⟨Z BK446⟩, ⟨Z BK447⟩, ⟨Z BK448⟩, ⟨Y3 HB GE446 GE447 GE448⟩⟩
    case rest =>
     clear HC31
     (try clear c22);(try clear c30b0);(try clear c30b1)
     obtain ⟨kq, x26_30, rfl, HA, HJ30, BK446, BK447, BK448, HB⟩ := hcut
     cases kq with
     | zero => exact absurd HA.out (by simp [impl_rangeBits.j1])
     | succ kj30 =>
      have H := HA.out
      clear HA
      simp only [impl_rangeBits.j1] at H
      by_cases c41 : x26_30 = true
      ·subst c41
       rw [if_pos rfl] at H
       obtain ⟨ji42, hji42⟩ : ∃ j_ : Int, (mn a1_1 a2_1) = j_ := ⟨_, rfl⟩
       replace H : (some (0, ji42)) = some (r1, r2) := by first | (rw [hji42] at H; exact H) | (simp only [hji42] at H ⊢; exact H)
       have hji42_ : (if a2_1 < a1_1 then a2_1 else a1_1) = ji42 := hji42
       simp only [Option.some.injEq, Prod.mk.injEq] at H
       obtain ⟨rfl, rfl⟩ := H
       obtain ⟨hnb43,hnc43⟩ := nn NB446_447
       obtain ⟨hnb44,hnc44⟩ := nn NB446_448
       obtain ⟨hcz45_0,hcz45_1,hfz45_0,hfz45_1⟩ := c2 BK446
       obtain ⟨hnb46,hnc46⟩ := nn NB447_448
       obtain ⟨hcz47_0,hcz47_1,hfz47_0,hfz47_1⟩ := c2 BK447
       obtain ⟨hcz48_0,hcz48_1,hfz48_0,hfz48_1⟩ := c2 BK448
       go_wp2
       refine bodyPost_ret (results_cell_row rfl _ _ gb448 24 #[.int .i64 0, .int .i64 ji42] (0, 0) _ rfl (by refine pf ?_; refine blk_put (cs := #[.int .i64 0, .int .i64 0]) ?_ 1 _ rfl; refine pf ?_; refine blk_put (cs := #[.int .i64 0, .int .i64 0]) ?_ 0 _ rfl; exact Z BK448) Try.underlying24 rfl (by kernel_rfl)) rfl ?_
       exact ⟨by first | rfl | (simp [errW_none, errW_some] <;> rfl) | (simp only [← hji42]; first | rfl | (simp [errW_none, errW_some] <;> rfl)) | (simp [*, errW_none, errW_some] <;> rfl), Y3 HB GE446 GE447 GE448⟩
      replace c41 := Bool.eq_false_iff.mpr c41
      subst c41
      rw [if_neg (show ¬ (false = true) by decide)] at H
      by_cases c49 : a1_0 ≥ 0
      ·rw [if_pos c49] at H
       have c49b0 : decide (0 ≤ a1_0) = true := decide_eq_true c49
       clear c49
       simp only [Option.some.injEq, Prod.mk.injEq] at H
       obtain ⟨rfl, rfl⟩ := H
       obtain ⟨hnb50,hnc50⟩ := nn NB446_447
       obtain ⟨hnb51,hnc51⟩ := nn NB446_448
       obtain ⟨hcz52_0,hcz52_1,hfz52_0,hfz52_1⟩ := c2 BK446
       obtain ⟨hnb53,hnc53⟩ := nn NB448_447
       obtain ⟨hcz54_0,hcz54_1,hfz54_0,hfz54_1⟩ := c2 BK448
       go_wp2
       refine bodyPost_ret (results_cell_row rfl _ _ gb448 24 #[.int .i64 0, .int .i64 a1_1] (0, 0) _ rfl (by refine pf ?_; refine blk_put (cs := #[.int .i64 0, .int .i64 0]) ?_ 1 _ rfl; refine pf ?_; refine blk_put (cs := #[.int .i64 0, .int .i64 0]) ?_ 0 _ rfl; exact Z BK448) Try.underlying24 rfl (by kernel_rfl)) rfl ?_
       exact ⟨ez, Y3 HB GE446 GE447 GE448⟩
      rw [if_neg c49] at H
      have c49b0 : decide (0 ≤ a1_0) = false := decide_eq_false c49
      clear c49
      by_cases c55 : a2_0 ≥ 0
      ·rw [if_pos c55] at H
       have c55b0 : decide (0 ≤ a2_0) = true := decide_eq_true c55
       clear c55
       simp only [Option.some.injEq, Prod.mk.injEq] at H
       obtain ⟨rfl, rfl⟩ := H
       obtain ⟨hnb56,hnc56⟩ := nn NB446_447
       obtain ⟨hnb57,hnc57⟩ := nn NB446_448
       obtain ⟨hcz58_0,hcz58_1,hfz58_0,hfz58_1⟩ := c2 BK446
       obtain ⟨hnb59,hnc59⟩ := nn NB447_448
       obtain ⟨hcz60_0,hcz60_1,hfz60_0,hfz60_1⟩ := c2 BK447
       obtain ⟨hcz61_0,hcz61_1,hfz61_0,hfz61_1⟩ := c2 BK448
       go_wp2
       refine bodyPost_ret (results_cell_row rfl _ _ gb448 24 #[.int .i64 0, .int .i64 a2_1] (0, 0) _ rfl (by refine pf ?_; refine blk_put (cs := #[.int .i64 0, .int .i64 0]) ?_ 1 _ rfl; refine pf ?_; refine blk_put (cs := #[.int .i64 0, .int .i64 0]) ?_ 0 _ rfl; exact Z BK448) Try.underlying24 rfl (by kernel_rfl)) rfl ?_
       exact ⟨ez, Y3 HB GE446 GE447 GE448⟩
      rw [if_neg c55] at H
      have c55b0 : decide (0 ≤ a2_0) = false := decide_eq_false c55
      clear c55
      simp only [Option.some.injEq, Prod.mk.injEq] at H
      obtain ⟨rfl, rfl⟩ := H
      obtain ⟨hnb62,hnc62⟩ := nn NB446_447
      obtain ⟨hnb63,hnc63⟩ := nn NB446_448
      obtain ⟨hcz64_0,hcz64_1,hfz64_0,hfz64_1⟩ := c2 BK446
      obtain ⟨hnb65,hnc65⟩ := nn NB447_448
      obtain ⟨hcz66_0,hcz66_1,hfz66_0,hfz66_1⟩ := c2 BK447
      obtain ⟨hcz67_0,hcz67_1,hfz67_0,hfz67_1⟩ := c2 BK448
      go_wp2
      refine bodyPost_ret (results_cell_row rfl _ _ gb448 24 #[.int .i64 (-2147483648), .int .i64 2147483647] (0, 0) _ rfl (by refine pf ?_; refine blk_put (cs := #[.int .i64 (-2147483648), .int .i64 0]) ?_ 1 _ rfl; refine pf ?_; refine blk_put (cs := #[.int .i64 0, .int .i64 0]) ?_ 0 _ rfl; exact Z BK448) Try.underlying24 rfl (by kernel_rfl)) rfl ?_
      exact ⟨ez, Y3 HB GE446 GE447 GE448⟩
   rw [if_neg c30] at H
   have c30b0 : (a0 == 6) = false := beq_eq_false_iff_ne.mpr c30
   have c30b1 : (a0 != 6) = true := bne_iff_ne.mpr c30
   have HC68 := am H
   clear H
   go_upto_region 12 with (fail)
   go_cut [63] (fun v63 wc => ∃ (kq : Nat) (x63_67 : Bool), v63 = .bool x63_67 ∧ Aside0 (impl_rangeBits.j2 kq a0 x63_67 a1_0 a1_1 a2_0 a2_1 = some (r1, r2)) ∧ Aside0 (kq ≤ kj3) ∧ Aside0 (wc.heap[gb446]? = some (.cells #[.int .i64 a1_0, .int .i64 a1_1] 24 (0, 0))) ∧ Aside0 (wc.heap[gb447]? = some (.cells #[.int .i64 a2_0, .int .i64 a2_1] 24 (0, 0))) ∧ Aside0 (wc.heap[gb448]? = some (.cells #[.int .i64 0, .int .i64 0] 24 (0, 0))) ∧ Aside0 (Below w.heap.size w wc))
   case first =>
    have H := HC68.out
    clear HC68
    by_cases c69 : a1_0 < 0
    ·rw [if_pos c69] at H
     have c69b0 : decide (a1_0 < 0) = true := decide_eq_true c69
     clear c69
     (first | rw [c69b0] | (simp only [i64_w, i32_w]; rw [c69b0]) | skip)
     have H' := am H
     clear H
     obtain ⟨hnb70,hnc70⟩ := nn NB446_447
     obtain ⟨hnb71,hnc71⟩ := nn NB446_448
     obtain ⟨hcz72_0,hcz72_1,hfz72_0,hfz72_1⟩ := c2 BK446
     go_wp2
     go_meet
     case rel => exact ⟨_, (true), ey, H', ⟨by have := HJ3.out; first | omega | exact Nat.le_refl _⟩, ⟨Z BK446⟩, ⟨Z BK447⟩, ⟨Z BK448⟩, ⟨Y3 HB GE446 GE447 GE448⟩⟩
    rw [if_neg c69] at H
    have c69b0 : decide (a1_0 < 0) = false := decide_eq_false c69
    clear c69
    (first | rw [c69b0] | (simp only [i64_w, i32_w]; rw [c69b0]) | skip)
    have H' := am H
    clear H
    obtain ⟨hnb73,hnc73⟩ := nn NB446_447
    obtain ⟨hnb74,hnc74⟩ := nn NB446_448
    obtain ⟨hcz75_0,hcz75_1,hfz75_0,hfz75_1⟩ := c2 BK446
    obtain ⟨hnb76,hnc76⟩ := nn NB447_448
    obtain ⟨hcz77_0,hcz77_1,hfz77_0,hfz77_1⟩ := c2 BK447
    go_wp2
    go_meet
    case rel => exact ⟨_, (decide (a2_0 < 0)), ey, H', ⟨by have := HJ3.out; first | omega | exact Nat.le_refl _⟩, ⟨Z BK446⟩, ⟨Z BK447⟩, ⟨Z BK448⟩, ⟨Y3 HB GE446 GE447 GE448⟩⟩
   case rest =>
    clear HC68
    (try clear c22);(try clear c30);(try clear c30b0);(try clear c30b1)
    obtain ⟨kq, x63_67, rfl, HA, HJ67, BK446, BK447, BK448, HB⟩ := hcut
    cases kq with
    | zero => exact absurd HA.out (by simp [impl_rangeBits.j2])
    | succ kj67 =>
     have H := HA.out
     clear HA
     simp only [impl_rangeBits.j2] at H
     by_cases c78 : x63_67 = true
     ·subst c78
      rw [if_pos rfl] at H
      simp only [Option.some.injEq, Prod.mk.injEq] at H
      obtain ⟨rfl, rfl⟩ := H
      obtain ⟨hnb79,hnc79⟩ := nn NB448_446
      obtain ⟨hnb80,hnc80⟩ := nn NB448_447
      obtain ⟨hcz81_0,hcz81_1,hfz81_0,hfz81_1⟩ := c2 BK448
      go_wp2
      refine bodyPost_ret (results_cell_row rfl _ _ gb448 24 #[.int .i64 (-2147483648), .int .i64 2147483647] (0, 0) _ rfl (by refine pf ?_; refine blk_put (cs := #[.int .i64 (-2147483648), .int .i64 0]) ?_ 1 _ rfl; refine pf ?_; refine blk_put (cs := #[.int .i64 0, .int .i64 0]) ?_ 0 _ rfl; exact Z BK448) Try.underlying24 rfl (by kernel_rfl)) rfl ?_
      exact ⟨ez, Y3 HB GE446 GE447 GE448⟩
     replace c78 := Bool.eq_false_iff.mpr c78
     subst c78
     rw [if_neg (show ¬ (false = true) by decide)] at H
     have HC82 := am H
     clear H
     go_upto_if 67 with (first | ((with_reducible refine gate_dst (N := 8) rfl ?_); refine bx 8 #[.int .i64 0, .int .i64 0] 24 ?_; intro gb452 hg w83 hbox hb; have BK452 := am (hbox); have GW452 := am (bs hg (Y3 HB GE446 GE447 GE448)); have GE452 := am (bs hg (Y3 HB GE446 GE447 GE448)); obtain ⟨NB446_452,NB452_446⟩ := ne_ hg BK446; obtain ⟨NB447_452,NB452_447⟩ := ne_ hg BK447; obtain ⟨NB448_452,NB452_448⟩ := ne_ hg BK448; replace BK446 := bb BK446 hb; replace BK447 := bb BK447 hb; replace BK448 := bb BK448 hb; replace HB := am (below_step (Y3 HB GE446 GE447 GE448) hb); clear hb hbox hg; obtain ⟨hnb84,hnc84⟩ := nn NB452_446; obtain ⟨hnb85,hnc85⟩ := nn NB452_447; obtain ⟨hnb86,hnc86⟩ := nn NB452_448; obtain ⟨hcz87_0,hcz87_1,hfz87_0,hfz87_1⟩ := c2 BK452))
     (try simp only [Act.put, List.setIfInBounds_toArray, List.set_cons_zero, List.set_cons_succ])
     go_cut [] (fun wc => ∃ (kq : Nat) (x453000_81 : Int), Aside0 (impl_rangeBits.j3 kq a1_0 a1_1 a2_0 a2_1 x453000_81 0 = some (r1, r2)) ∧ Aside0 (kq ≤ kj67) ∧ Aside0 (wc.heap[gb446]? = some (.cells #[.int .i64 a1_0, .int .i64 a1_1] 24 (0, 0))) ∧ Aside0 (wc.heap[gb447]? = some (.cells #[.int .i64 a2_0, .int .i64 a2_1] 24 (0, 0))) ∧ Aside0 (wc.heap[gb448]? = some (.cells #[.int .i64 0, .int .i64 0] 24 (0, 0))) ∧ Aside0 (wc.heap[gb452]? = some (.cells #[.int .i64 x453000_81, .int .i64 0] 24 (0, 0))) ∧ Aside0 (Below w.heap.size w wc))
     case first =>
      have H := HC82.out
      clear HC82
      by_cases c88 : a0 = 7
      rotate_left
      ·rw [if_neg c88] at H
       have c88b0 : (a0 == 7) = false := beq_eq_false_iff_ne.mpr c88
       have c88b1 : (a0 != 7) = true := bne_iff_ne.mpr c88
       (first | rw [c88b0] | (simp only [i64_w, i32_w]; rw [c88b0]) | skip)
       have H' := am H
       clear H
       go_wp2
       go_meet
       case rel => exact ⟨_, (0), H', ⟨by have := HJ3.out; have := HJ67.out; first | omega | exact Nat.le_refl _⟩, ⟨by refine fa NB446_452 ?_; refine fa NB446_452 ?_; exact Z BK446⟩, ⟨by refine fa NB447_452 ?_; refine fa NB447_452 ?_; exact Z BK447⟩, ⟨by refine fa NB448_452 ?_; refine fa NB448_452 ?_; exact Z BK448⟩, ⟨by refine pf ?_; refine blk_put (cs := #[.int .i64 0, .int .i64 0]) ?_ 1 _ rfl; refine pf ?_; refine blk_put (cs := #[.int .i64 0, .int .i64 0]) ?_ 0 _ rfl; exact Z BK452⟩, ⟨Y4 HB GE446 GE447 GE448 GE452⟩⟩
      rw [if_pos c88] at H
      have c88b0 : (a0 == 7) = true := beq_iff_eq.mpr c88
      have c88b1 : (a0 != 7) = false := bne_eq_false_iff_eq.mpr c88
      clear c88
      (first | rw [c88b0] | (simp only [i64_w, i32_w]; rw [c88b0]) | skip)
      obtain ⟨ji89, hji89⟩ : ∃ j_ : Int, (mx a1_0 a2_0) = j_ := ⟨_, rfl⟩
      replace H : (impl_rangeBits.j3 kj67 a1_0 a1_1 a2_0 a2_1 ji89 0) = some (r1, r2) := by first | (rw [hji89] at H; exact H) | (simp only [hji89] at H ⊢; exact H)
      have hji89_ : (if a1_0 < a2_0 then a2_0 else a1_0) = ji89 := hji89
      have H' := am H
      clear H
      obtain ⟨hnb90,hnc90⟩ := nn NB446_447
      obtain ⟨hnb91,hnc91⟩ := nn NB446_448
      obtain ⟨hnb92,hnc92⟩ := nn NB446_452
      obtain ⟨hcz93_0,hcz93_1,hfz93_0,hfz93_1⟩ := c2 BK446
      obtain ⟨hnb94,hnc94⟩ := nn NB447_448
      obtain ⟨hnb95,hnc95⟩ := nn NB447_452
      obtain ⟨hcz96_0,hcz96_1,hfz96_0,hfz96_1⟩ := c2 BK447
      obtain ⟨hnb97,hnc97⟩ := nn NB452_448
      obtain ⟨hcz98_0,hcz98_1,hfz98_0,hfz98_1⟩ := c2 BK452
      go_wp2
      go_meet
      case rel => exact ⟨_, (ji89), H', ⟨by have := HJ3.out; have := HJ67.out; first | omega | exact Nat.le_refl _⟩, ⟨by refine fa NB446_452 ?_; refine fa NB446_452 ?_; refine fa NB446_452 ?_; exact Z BK446⟩, ⟨by refine fa NB447_452 ?_; refine fa NB447_452 ?_; refine fa NB447_452 ?_; exact Z BK447⟩, ⟨by refine fa NB448_452 ?_; refine fa NB448_452 ?_; refine fa NB448_452 ?_; exact Z BK448⟩, ⟨by refine pf ?_; refine blk_put (cs := #[.int .i64 0, .int .i64 0]) ?_ 0 _ rfl; refine pf ?_; refine blk_put (cs := #[.int .i64 0, .int .i64 0]) ?_ 1 _ rfl; refine pf ?_; refine blk_put (cs := #[.int .i64 0, .int .i64 0]) ?_ 0 _ rfl; exact Z BK452⟩, ⟨Y4 HB GE446 GE447 GE448 GE452⟩⟩
     case rest =>
      clear HC82
      (try clear c78);(try clear hcz87_0);(try clear hcz87_1);(try clear hfz87_0);(try clear hfz87_1)
      obtain ⟨kq, x453000_81, HA, HJ81, BK446, BK447, BK448, BK452, HB⟩ := hcut
      cases kq with
      | zero => exact absurd HA.out (by simp [impl_rangeBits.j3])
      | succ kj81 =>
       have H := HA.out
       clear HA
       simp only [impl_rangeBits.j3] at H
       have H' := am H
       clear H
       go_wp2
       go_loopg [] kj81 (fun kq w' => ∃ (x453001_4 : Int), Aside0 (impl_rangeBits.l0 kq a1_0 a1_1 a2_0 a2_1 x453000_81 x453001_4 = some (r1, r2)) ∧ Aside0 (kq ≤ kj81) ∧ Aside0 (w'.heap[gb446]? = some (.cells #[.int .i64 a1_0, .int .i64 a1_1] 24 (0, 0))) ∧ Aside0 (w'.heap[gb447]? = some (.cells #[.int .i64 a2_0, .int .i64 a2_1] 24 (0, 0))) ∧ Aside0 (w'.heap[gb448]? = some (.cells #[.int .i64 0, .int .i64 0] 24 (0, 0))) ∧ Aside0 (w'.heap[gb452]? = some (.cells #[.int .i64 x453000_81, .int .i64 x453001_4] 24 (0, 0))) ∧ Aside0 (Below w.heap.size w w'))
       case atStart => exact ⟨(0), H', ⟨Nat.le_refl _⟩, ⟨Z BK446⟩, ⟨Z BK447⟩, ⟨Z BK448⟩, ⟨Z BK452⟩, ⟨Y4 HB GE446 GE447 GE448 GE452⟩⟩
       case round =>
        clear H'
        obtain ⟨x453001_4, HA, HK4, BK446, BK447, BK448, BK452, HB⟩ := hrel
        cases gk with
        | zero => exact absurd HA.out (by simp [impl_rangeBits.l0])
        | succ k4 =>
         have H := HA.out
         clear HA
         simp only [impl_rangeBits.l0] at H
         obtain ⟨ji99, hji99⟩ : ∃ j_ : Int, (mx a1_1 a2_1) = j_ := ⟨_, rfl⟩
         replace H : (if x453001_4 < (ji99) then (impl_rangeBits.l0 k4 a1_0 a1_1 a2_0 a2_1 x453000_81 (wrap64 ((wrap64 (2 * x453001_4)) + 1))) else (some (x453000_81, x453001_4))) = some (r1, r2) := by first | (rw [hji99] at H; exact H) | (simp only [hji99] at H ⊢; exact H)
         have hji99_ : (if a1_1 < a2_1 then a2_1 else a1_1) = ji99 := hji99
         by_cases c100 : x453001_4 < (ji99)
         ·rw [if_pos c100] at H
          have c100b0 : decide (x453001_4 < (ji99)) = true := decide_eq_true c100
          clear c100
          have H' := am H
          clear H
          obtain ⟨hnb101,hnc101⟩ := nn NB452_446
          obtain ⟨hnb102,hnc102⟩ := nn NB452_447
          obtain ⟨hnb103,hnc103⟩ := nn NB452_448
          obtain ⟨hcz104_0,hcz104_1,hfz104_0,hfz104_1⟩ := c2 BK452
          obtain ⟨hnb105,hnc105⟩ := nn NB446_447
          obtain ⟨hnb106,hnc106⟩ := nn NB446_448
          obtain ⟨hcz107_0,hcz107_1,hfz107_0,hfz107_1⟩ := c2 BK446
          obtain ⟨hnb108,hnc108⟩ := nn NB447_448
          obtain ⟨hcz109_0,hcz109_1,hfz109_0,hfz109_1⟩ := c2 BK447
          go_wp2
          go_roundg k4
          case measure => have := HJ3.out; have := HJ67.out; have := HJ81.out; have := HK4.out; omega
          case rel => exact ⟨(wrap64 ((wrap64 (2 * x453001_4)) + 1)), H', ⟨by have := HJ3.out; have := HJ67.out; have := HJ81.out; have := HK4.out; omega⟩, ⟨by refine fa NB446_452 ?_; exact Z BK446⟩, ⟨by refine fa NB447_452 ?_; exact Z BK447⟩, ⟨by refine fa NB448_452 ?_; exact Z BK448⟩, ⟨by refine pf ?_; refine blk_put (cs := #[.int .i64 x453000_81, .int .i64 x453001_4]) ?_ 1 _ rfl; exact Z BK452⟩, ⟨Y4 HB GE446 GE447 GE448 GE452⟩⟩
         rw [if_neg c100] at H
         have c100b0 : decide (x453001_4 < (ji99)) = false := decide_eq_false c100
         clear c100
         simp only [Option.some.injEq, Prod.mk.injEq] at H
         obtain ⟨rfl, rfl⟩ := H
         obtain ⟨hnb110,hnc110⟩ := nn NB452_446
         obtain ⟨hnb111,hnc111⟩ := nn NB452_447
         obtain ⟨hnb112,hnc112⟩ := nn NB452_448
         obtain ⟨hcz113_0,hcz113_1,hfz113_0,hfz113_1⟩ := c2 BK452
         obtain ⟨hnb114,hnc114⟩ := nn NB446_447
         obtain ⟨hnb115,hnc115⟩ := nn NB446_448
         obtain ⟨hcz116_0,hcz116_1,hfz116_0,hfz116_1⟩ := c2 BK446
         obtain ⟨hnb117,hnc117⟩ := nn NB447_448
         obtain ⟨hcz118_0,hcz118_1,hfz118_0,hfz118_1⟩ := c2 BK447
         obtain ⟨hcz119_0,hcz119_1,hfz119_0,hfz119_1⟩ := c2 BK448
         go_wp2
         refine bodyPost_ret (results_cell_row rfl _ _ gb448 24 #[.int .i64 x453000_81, .int .i64 x453001_4] (0, 0) _ rfl (by refine pf ?_; refine blk_put (cs := #[.int .i64 x453000_81, .int .i64 0]) ?_ 1 _ rfl; refine pf ?_; refine blk_put (cs := #[.int .i64 0, .int .i64 0]) ?_ 0 _ rfl; exact Z BK448) Try.underlying24 rfl (by kernel_rfl)) rfl ?_
         exact ⟨by first | rfl | (simp [errW_none, errW_some] <;> rfl) | (simp only [← hji99]; first | rfl | (simp [errW_none, errW_some] <;> rfl)) | (simp [*, errW_none, errW_some] <;> rfl), Y4 HB GE446 GE447 GE448 GE452⟩

end Go.Proofs.Ythbkakcchgnhpaa.PFnExactRangeDo
