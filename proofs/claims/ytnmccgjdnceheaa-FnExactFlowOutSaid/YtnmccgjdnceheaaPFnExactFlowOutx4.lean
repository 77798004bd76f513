/- Written by this session's own driver (wip/dprint.py): the functions that the law FnExactFlowOut reaches, as Lean functions, each with its contract. -/
import Derived.Test.YtnmccgjdnceheaaPFnExactFlowOutx0
import Derived.Test.YtnmccgjdnceheaaPFnExactFlowOutx3
namespace Go.Proofs.Ytnmccgjdnceheaa.PFnExactFlowOut
open Go.RowKit Go.Proofs.YtnmccgjdnceheaaW.PrintWords Go.Proofs.YtnmccgjdnceheaaW.PrintLast Go.Proofs.YtnmccgjdnceheaaW.PrintMore
attribute [local go_sem] max2_int min2_int max_two min_two max_three min_three max_four min_four   -- for this text's walks alone
set_option linter.unusedVariables false
set_option linter.unusedSimpArgs false

/-! ### laws_markEdgeS: function 103 -/
def laws_markEdgeS.l0 : Nat → List (S111) → Int → Int → Option (Int × (List (S111)))
  | 0, _, _, _ => none
  | k + 1, x0, x1, x5 => if x5 < (x0.length : Int) then (if 0 ≤ x5 then ((some (x0.set (x5 : Int).toNat (⟨x1, (rd_T111 x0 x5).f1, (rd_T111 x0 x5).f2, (rd_T111 x0 x5).f3, (rd_T111 x0 x5).f4⟩ : S111) : List (S111))).bind fun y175 => ((some (y175.set (x5 : Int).toNat (⟨(rd_T111 y175 x5).f0, wrap64 (x1 + 1), (rd_T111 y175 x5).f2, (rd_T111 y175 x5).f3, (rd_T111 y175 x5).f4⟩ : S111) : List (S111))).bind fun y176 => ((some (y176.set (x5 : Int).toNat (⟨(rd_T111 y176 x5).f0, (rd_T111 y176 x5).f1, wrap64 ((wrap64 (x1 + 1)) + 1), (rd_T111 y176 x5).f3, (rd_T111 y176 x5).f4⟩ : S111) : List (S111))).bind fun y177 => ((some (y177.set (x5 : Int).toNat (⟨(rd_T111 y177 x5).f0, (rd_T111 y177 x5).f1, (rd_T111 y177 x5).f2, wrap64 ((wrap64 ((wrap64 (x1 + 1)) + 1)) + 1), (rd_T111 y177 x5).f4⟩ : S111) : List (S111))).bind fun y178 => (laws_markEdgeS.l0 k (y178.set (x5 : Int).toNat (⟨(rd_T111 y178 x5).f0, (rd_T111 y178 x5).f1, (rd_T111 y178 x5).f2, (rd_T111 y178 x5).f3, wrap64 ((wrap64 ((wrap64 ((wrap64 (x1 + 1)) + 1)) + 1)) + 1)⟩ : S111)) (wrap64 ((wrap64 ((wrap64 ((wrap64 ((wrap64 (x1 + 1)) + 1)) + 1)) + 1)) + 1)) (wrap64 (x5 + 1))))))) else (none)) else (some (x1, x0))
def laws_markEdgeS.f (k : Nat) (l0 : List (S111)) (a1 : Int) : Option (Int × (List (S111))) := laws_markEdgeS.l0 k l0 a1 0
theorem laws_markEdgeS.mono_l : ∀ k, (∀ y0 y1 y2, LeO (laws_markEdgeS.l0 k y0 y1 y2) (laws_markEdgeS.l0 (k + 1) y0 y1 y2))
  | 0 => fun _ _ _ r h => by simp [laws_markEdgeS.l0] at h
  | k + 1 => by
    have ih0 := laws_markEdgeS.mono_l k
    · intro y0 y1 y2
      unfold laws_markEdgeS.l0
      repeat' first
      | (with_reducible exact ih0 _ _ _)
      | (with_reducible exact LeO.refl _)
      | (with_reducible exact LeO.none _)
      | (with_reducible refine LeO.ite ?_ ?_)
      | (with_reducible refine LeO.bind ?_ (fun _ => ?_))
      | exact ih0 _ _ _
      | exact LeO.none _
      | refine LeO.ite ?_ ?_
      | refine LeO.bind ?_ (fun _ => ?_)
theorem laws_markEdgeS.mono : ∀ a0 a1 k, LeO (laws_markEdgeS.f k a0 a1) (laws_markEdgeS.f (k + 1) a0 a1) := by
  intro a0 a1 k
  have ih0 := laws_markEdgeS.mono_l k
  unfold laws_markEdgeS.f
  repeat' first
      | (with_reducible exact ih0 _ _ _)
      | (with_reducible exact LeO.refl _)
      | (with_reducible exact LeO.none _)
      | (with_reducible refine LeO.ite ?_ ?_)
      | (with_reducible refine LeO.bind ?_ (fun _ => ?_))
      | exact ih0 _ _ _
      | exact LeO.none _
      | refine LeO.ite ?_ ?_
      | refine LeO.bind ?_ (fun _ => ?_)
set_option maxHeartbeats 8000000 in
set_option maxRecDepth 100000 in
theorem laws_markEdgeS.calls (k : Nat) (P0_ : Nat → Prop) (u9000_ : Value) (l0 : List (S111)) (a1 : Int) (r1 : Int) (r2 : List (S111)) (w0 w : World) (hB : Below w0.heap.size w0 w) (ho0 : Kd.R k111 111 w w0.heap.size P0_ u9000_ l0) (h : laws_markEdgeS.f k l0 a1 = some (r1, r2)) :
    Calls Try.prog 103 #[u9000_, .int .i64 a1] w fun e w' => e = .returned (.int .i64 r1) ∧ Kd.R k111 111 w' w0.heap.size (fun k_ => (P0_ k_ ∨ w.heap.size ≤ k_)) u9000_ r2 ∧ Below w0.heap.size w0 w' ∧ Kept w w' (fun k_ => P0_ k_) := by
  have HO0 := Aside0.mk (show Kd.R k111 111 w w0.heap.size (fun k_ => (P0_ k_ ∨ w.heap.size ≤ k_)) u9000_ l0 from Kd.R_mono ho0 (fun k_ hk => (.inl hk)))
  have HK := Aside0.mk (Kept.refl w (fun k_ => P0_ k_))
  have HW0 := Aside0.mk hB.size
  have HB := Aside0.mk hB
  clear hB
  have H : (laws_markEdgeS.l0 k l0 a1 0) = some (r1, r2) := h
  clear h
  have H' := Aside0.mk H
  clear H
  go_enter Try.func103, Try.ntmps103
  go_wp2
  go_loopg [1, 5] k (fun kq v1 v5 w' => ∃ (x0_1 : List (S111)) (x1_1 : Int) (x5_1 : Int), v1 = .int .i64 x1_1 ∧ v5 = .int .i64 x5_1 ∧ Aside0 (laws_markEdgeS.l0 kq x0_1 x1_1 x5_1 = some (r1, r2)) ∧ Aside0 (kq ≤ k) ∧ Aside0 (Kd.R k111 111 w' w0.heap.size (fun k_ => (P0_ k_ ∨ w.heap.size ≤ k_)) u9000_ x0_1) ∧ Aside0 (Kept w w' (fun k_ => P0_ k_)) ∧ Aside0 (Below w0.heap.size w0 w'))
  case atStart => exact ⟨(l0), (a1), (0), (by first | rfl | (simp; done) | (simp [*]; done)), (by first | rfl | (simp; done) | (simp [*]; done)), H', ⟨Nat.le_refl _⟩, ⟨by (with_reducible repeat (first | apply Kd.R_alloc | apply Kd.R_drewN | apply Kd.R_drew)); exact HO0.out⟩, ⟨by repeat (first | (with_reducible first | exact HK.out | apply Kept.alloc | apply Kept.drewN | apply Kept.drew) | exact HK.out)⟩, ⟨by repeat (first | (with_reducible first | exact HB.out | apply below_alloc | apply pw_below_drewN | apply below_drew1) | exact HB.out)⟩⟩
  case round =>
    clear H'
    try clear c1
    try clear p2
    obtain ⟨x0_1, x1_1, x5_1, rfl, rfl, HA, HK1, HO_0, HK, HB⟩ := hrel
    cases gk with
    | zero => exact absurd HA.out (by simp [laws_markEdgeS.l0])
    | succ k1 =>
      have H := HA.out
      clear HA
      simp only [laws_markEdgeS.l0] at H
      by_cases c3 : x5_1 < (x0_1.length : Int)
      · rw [if_pos c3] at H
        have c3b0 : decide (x5_1 < (x0_1.length : Int)) = true := decide_eq_true c3
        clear c3
        by_cases c4 : 0 ≤ x5_1
        · rw [if_pos c4] at H
          have c4b0 : decide (0 ≤ x5_1) = true := decide_eq_true c4
          clear c4
          obtain ⟨y175, hy175⟩ : ∃ y_ : List (S111), y_ = (x0_1.set (x5_1 : Int).toNat (⟨x1_1, (rd_T111 x0_1 x5_1).f1, (rd_T111 x0_1 x5_1).f2, (rd_T111 x0_1 x5_1).f3, (rd_T111 x0_1 x5_1).f4⟩ : S111)) := ⟨_, rfl⟩
          replace H : ((some (y175.set (x5_1 : Int).toNat (⟨(rd_T111 y175 x5_1).f0, wrap64 (x1_1 + 1), (rd_T111 y175 x5_1).f2, (rd_T111 y175 x5_1).f3, (rd_T111 y175 x5_1).f4⟩ : S111) : List (S111))).bind fun y176 => ((some (y176.set (x5_1 : Int).toNat (⟨(rd_T111 y176 x5_1).f0, (rd_T111 y176 x5_1).f1, wrap64 ((wrap64 (x1_1 + 1)) + 1), (rd_T111 y176 x5_1).f3, (rd_T111 y176 x5_1).f4⟩ : S111) : List (S111))).bind fun y177 => ((some (y177.set (x5_1 : Int).toNat (⟨(rd_T111 y177 x5_1).f0, (rd_T111 y177 x5_1).f1, (rd_T111 y177 x5_1).f2, wrap64 ((wrap64 ((wrap64 (x1_1 + 1)) + 1)) + 1), (rd_T111 y177 x5_1).f4⟩ : S111) : List (S111))).bind fun y178 => (laws_markEdgeS.l0 k1 (y178.set (x5_1 : Int).toNat (⟨(rd_T111 y178 x5_1).f0, (rd_T111 y178 x5_1).f1, (rd_T111 y178 x5_1).f2, (rd_T111 y178 x5_1).f3, wrap64 ((wrap64 ((wrap64 ((wrap64 (x1_1 + 1)) + 1)) + 1)) + 1)⟩ : S111)) (wrap64 ((wrap64 ((wrap64 ((wrap64 ((wrap64 (x1_1 + 1)) + 1)) + 1)) + 1)) + 1)) (wrap64 (x5_1 + 1)))))) = some (r1, r2) := by first | (rw [hy175]; with_reducible exact H) | (have H2_ := (Option.bind_some _ _).symm.trans H; rw [hy175]; with_reducible exact H2_) | (have H2_ := (Option.bind_some _ _).symm.trans H; with_reducible exact H2_) | with_reducible exact H | (rw [hy175]; exact H) | exact H
          have Ny175 := Aside0.mk hy175
          clear hy175
          obtain ⟨y176, hy176⟩ : ∃ y_ : List (S111), y_ = (y175.set (x5_1 : Int).toNat (⟨(rd_T111 y175 x5_1).f0, wrap64 (x1_1 + 1), (rd_T111 y175 x5_1).f2, (rd_T111 y175 x5_1).f3, (rd_T111 y175 x5_1).f4⟩ : S111)) := ⟨_, rfl⟩
          replace H : ((some (y176.set (x5_1 : Int).toNat (⟨(rd_T111 y176 x5_1).f0, (rd_T111 y176 x5_1).f1, wrap64 ((wrap64 (x1_1 + 1)) + 1), (rd_T111 y176 x5_1).f3, (rd_T111 y176 x5_1).f4⟩ : S111) : List (S111))).bind fun y177 => ((some (y177.set (x5_1 : Int).toNat (⟨(rd_T111 y177 x5_1).f0, (rd_T111 y177 x5_1).f1, (rd_T111 y177 x5_1).f2, wrap64 ((wrap64 ((wrap64 (x1_1 + 1)) + 1)) + 1), (rd_T111 y177 x5_1).f4⟩ : S111) : List (S111))).bind fun y178 => (laws_markEdgeS.l0 k1 (y178.set (x5_1 : Int).toNat (⟨(rd_T111 y178 x5_1).f0, (rd_T111 y178 x5_1).f1, (rd_T111 y178 x5_1).f2, (rd_T111 y178 x5_1).f3, wrap64 ((wrap64 ((wrap64 ((wrap64 (x1_1 + 1)) + 1)) + 1)) + 1)⟩ : S111)) (wrap64 ((wrap64 ((wrap64 ((wrap64 ((wrap64 (x1_1 + 1)) + 1)) + 1)) + 1)) + 1)) (wrap64 (x5_1 + 1))))) = some (r1, r2) := by first | (rw [hy176]; with_reducible exact H) | (have H2_ := (Option.bind_some _ _).symm.trans H; rw [hy176]; with_reducible exact H2_) | (have H2_ := (Option.bind_some _ _).symm.trans H; with_reducible exact H2_) | with_reducible exact H | (rw [hy176]; exact H) | exact H
          have Ny176 := Aside0.mk hy176
          clear hy176
          obtain ⟨y177, hy177⟩ : ∃ y_ : List (S111), y_ = (y176.set (x5_1 : Int).toNat (⟨(rd_T111 y176 x5_1).f0, (rd_T111 y176 x5_1).f1, wrap64 ((wrap64 (x1_1 + 1)) + 1), (rd_T111 y176 x5_1).f3, (rd_T111 y176 x5_1).f4⟩ : S111)) := ⟨_, rfl⟩
          replace H : ((some (y177.set (x5_1 : Int).toNat (⟨(rd_T111 y177 x5_1).f0, (rd_T111 y177 x5_1).f1, (rd_T111 y177 x5_1).f2, wrap64 ((wrap64 ((wrap64 (x1_1 + 1)) + 1)) + 1), (rd_T111 y177 x5_1).f4⟩ : S111) : List (S111))).bind fun y178 => (laws_markEdgeS.l0 k1 (y178.set (x5_1 : Int).toNat (⟨(rd_T111 y178 x5_1).f0, (rd_T111 y178 x5_1).f1, (rd_T111 y178 x5_1).f2, (rd_T111 y178 x5_1).f3, wrap64 ((wrap64 ((wrap64 ((wrap64 (x1_1 + 1)) + 1)) + 1)) + 1)⟩ : S111)) (wrap64 ((wrap64 ((wrap64 ((wrap64 ((wrap64 (x1_1 + 1)) + 1)) + 1)) + 1)) + 1)) (wrap64 (x5_1 + 1)))) = some (r1, r2) := by first | (rw [hy177]; with_reducible exact H) | (have H2_ := (Option.bind_some _ _).symm.trans H; rw [hy177]; with_reducible exact H2_) | (have H2_ := (Option.bind_some _ _).symm.trans H; with_reducible exact H2_) | with_reducible exact H | (rw [hy177]; exact H) | exact H
          have Ny177 := Aside0.mk hy177
          clear hy177
          obtain ⟨y178, hy178⟩ : ∃ y_ : List (S111), y_ = (y177.set (x5_1 : Int).toNat (⟨(rd_T111 y177 x5_1).f0, (rd_T111 y177 x5_1).f1, (rd_T111 y177 x5_1).f2, wrap64 ((wrap64 ((wrap64 (x1_1 + 1)) + 1)) + 1), (rd_T111 y177 x5_1).f4⟩ : S111)) := ⟨_, rfl⟩
          replace H : (laws_markEdgeS.l0 k1 (y178.set (x5_1 : Int).toNat (⟨(rd_T111 y178 x5_1).f0, (rd_T111 y178 x5_1).f1, (rd_T111 y178 x5_1).f2, (rd_T111 y178 x5_1).f3, wrap64 ((wrap64 ((wrap64 ((wrap64 (x1_1 + 1)) + 1)) + 1)) + 1)⟩ : S111)) (wrap64 ((wrap64 ((wrap64 ((wrap64 ((wrap64 (x1_1 + 1)) + 1)) + 1)) + 1)) + 1)) (wrap64 (x5_1 + 1))) = some (r1, r2) := by first | (rw [hy178]; with_reducible exact H) | (have H2_ := (Option.bind_some _ _).symm.trans H; rw [hy178]; with_reducible exact H2_) | (have H2_ := (Option.bind_some _ _).symm.trans H; with_reducible exact H2_) | with_reducible exact H | (rw [hy178]; exact H) | exact H
          have Ny178 := Aside0.mk hy178
          clear hy178
          obtain ⟨y179, hy179⟩ : ∃ y_ : List (S111), y_ = (y178.set (x5_1 : Int).toNat (⟨(rd_T111 y178 x5_1).f0, (rd_T111 y178 x5_1).f1, (rd_T111 y178 x5_1).f2, (rd_T111 y178 x5_1).f3, wrap64 ((wrap64 ((wrap64 ((wrap64 (x1_1 + 1)) + 1)) + 1)) + 1)⟩ : S111)) := ⟨_, rfl⟩
          replace H : (laws_markEdgeS.l0 k1 y179 (wrap64 ((wrap64 ((wrap64 ((wrap64 ((wrap64 (x1_1 + 1)) + 1)) + 1)) + 1)) + 1)) (wrap64 (x5_1 + 1))) = some (r1, r2) := by first | (rw [hy179]; with_reducible exact H) | (have H2_ := (Option.bind_some _ _).symm.trans H; rw [hy179]; with_reducible exact H2_) | (have H2_ := (Option.bind_some _ _).symm.trans H; with_reducible exact H2_) | with_reducible exact H | (rw [hy179]; exact H) | exact H
          have Ny179 := Aside0.mk hy179
          clear hy179
          have H' := Aside0.mk H
          clear H
          obtain ⟨Ao10, co10, eo10⟩ := Kd.R_slice HO_0.out
          subst eo10
          have p5 : 0 ≤ (x5_1 : Int) := of_decide_eq_true (by first | (with_reducible assumption) | assumption)
          have q5 : (x5_1 : Int) < ((x0_1.length : Int) : Int) := of_decide_eq_true (by first | (with_reducible assumption) | assumption)
          obtain ⟨go5, co5, eo5, gb5, gl5, cl5, HG5⟩ := Kd.R_form HO_0.out (by omega)
          (first | cases eo5 | (injection eo5 with ea_ en_ ec_; (first | subst ea_ | (injection ea_ with ea_; subst ea_)); subst ec_; clear en_))
          have GB5 := Aside0.mk gb5
          have GG5 := Aside0.mk HG5
          clear gb5 gl5 HG5
          have HMgo5 := Aside0.mk (show (P0_ go5 ∨ w.heap.size ≤ go5) from (HO_0.out.1 _ rfl))
          obtain ⟨ce5, hcl5, hM5, hcc5, hfr5⟩ := Kd.R_elem HO_0.out z111 (x5_1 : Int) p5 q5
          obtain rfl := k111_openM hM5
          have hx5_0 : wr.cell? ⟨go5, (x5_1 : Int).toNat * 5, none⟩ = some (.int .i64 ((rd_T111 x0_1 x5_1).f0)) := hcc5 0 _ rfl
          have hx5_1 : wr.cell? ⟨go5, (x5_1 : Int).toNat * 5 + 1, none⟩ = some (.int .i64 ((rd_T111 x0_1 x5_1).f1)) := hcc5 1 _ rfl
          have hx5_2 : wr.cell? ⟨go5, (x5_1 : Int).toNat * 5 + 2, none⟩ = some (.int .i64 ((rd_T111 x0_1 x5_1).f2)) := hcc5 2 _ rfl
          have hx5_3 : wr.cell? ⟨go5, (x5_1 : Int).toNat * 5 + 3, none⟩ = some (.int .i64 ((rd_T111 x0_1 x5_1).f3)) := hcc5 3 _ rfl
          have hx5_4 : wr.cell? ⟨go5, (x5_1 : Int).toNat * 5 + 4, none⟩ = some (.int .i64 ((rd_T111 x0_1 x5_1).f4)) := hcc5 4 _ rfl
          have hf5_0 : wr.frozen? ⟨go5, (x5_1 : Int).toNat * 5, none⟩ = false := hfr5 0
          have hf5_1 : wr.frozen? ⟨go5, (x5_1 : Int).toNat * 5 + 1, none⟩ = false := hfr5 1
          have hf5_2 : wr.frozen? ⟨go5, (x5_1 : Int).toNat * 5 + 2, none⟩ = false := hfr5 2
          have hf5_3 : wr.frozen? ⟨go5, (x5_1 : Int).toNat * 5 + 3, none⟩ = false := hfr5 3
          have hf5_4 : wr.frozen? ⟨go5, (x5_1 : Int).toNat * 5 + 4, none⟩ = false := hfr5 4
          clear hcl5 hcc5 hfr5 hM5
          replace p5 := eq_true p5
          replace q5 := eq_true q5
          have HX11 := Aside0.mk (show Kd.R k111 111 wr w0.heap.size (fun k_ => (P0_ k_ ∨ w.heap.size ≤ k_)) (.slice (some ⟨go5, 0, none⟩) x0_1.length co10) x0_1 from (by (with_reducible repeat (first | apply Kd.R_alloc | apply Kd.R_drewN | apply Kd.R_drew)); exact HO_0.out))
          obtain ⟨ce11, hcl11, hM11, hcc11, hfr11⟩ := Kd.R_elem HX11.out z111 (x5_1 : Int) (of_decide_eq_true (by first | (with_reducible assumption) | assumption)) (by have h_ : (x5_1 : Int) < ((x0_1.length : Int) : Int) := of_decide_eq_true (by first | (with_reducible assumption) | assumption); first | exact h_ | (have e_ := (Kd.R_reads' HO_0.out).1; omega) | simpa using h_)
          obtain rfl := k111_openM hM11
          have HP11 := Kd.R_seg HX11.out (x5_1 : Int) (of_decide_eq_true (by first | (with_reducible assumption) | assumption)) (by have h_ : (x5_1 : Int) < ((x0_1.length : Int) : Int) := of_decide_eq_true (by first | (with_reducible assumption) | assumption); first | exact h_ | (have e_ := (Kd.R_reads' HO_0.out).1; omega) | simpa using h_) (seg := [.int .i64 x1_1]) (j := 0) hcl11 hcc11 (show 1 ≤ 5 from by decide) (x' := (⟨x1_1, (rd_T111 x0_1 x5_1).f1, (rd_T111 x0_1 x5_1).f2, (rd_T111 x0_1 x5_1).f3, (rd_T111 x0_1 x5_1).f4⟩ : S111)) (k111_mkM _ _ _ (⟨x1_1, (rd_T111 x0_1 x5_1).f1, (rd_T111 x0_1 x5_1).f2, (rd_T111 x0_1 x5_1).f3, (rd_T111 x0_1 x5_1).f4⟩ : S111) ) (fun _ hk => hk)
          have hx11_0 := hcc11 0 _ rfl
          (try simp only [show (k111).sz = 5 from rfl, Nat.mul_one, Nat.add_zero] at hx11_0)
          have hf11_0 := hfr11 0
          (try simp only [show (k111).sz = 5 from rfl, Nat.mul_one, Nat.add_zero] at hf11_0)
          clear hcl11 hcc11 hfr11 hM11
          go_wp2_with (first | ((with_reducible refine gate_store (t := 3) (p := 16) rfl ?_); refine store_event (t := 3) (p := 16) (v := ?vo_w12) (w1 := (wr.setCell ⟨go5, (x5_1 : Int).toNat * 5, none⟩ (.int .i64 x1_1))) ?hg ?ho ?hn ?hr ?_; (case ho => rfl); (case hg => rfl); (case hn => rfl); (case hr => first | (go_simp; done) | (go_simp; rfl)); intro w12 hw; have hg : wr.grownBy w12 (some go5) := (by rw [hw]; exact HP11.2); have hp_ : Kd.R k111 111 w12 w0.heap.size (fun k_ => (P0_ k_ ∨ w.heap.size ≤ k_)) (.slice (some ⟨go5, 0, none⟩) x0_1.length co10) y175 := (by rw [hw, Ny175.out]; exact HP11.1); clear HP11; have n0_ := Aside0.mk (hp_); have n1_ := Aside0.mk ((by rw [hw]; exact below_set (HB.out) GB5.out : Below w0.heap.size w0 w12)); have n2_ := Aside0.mk (Kept.of_grown (S := (fun k_ => P0_ k_)) hg (by repeat (first | (with_reducible first | exact HK.out | apply Kept.alloc | apply Kept.drewN | apply Kept.drew) | exact HK.out)) (fun k_ e_ => (HO_0.out.1 k_ e_))); clear HO_0; clear HB; clear HK; have HO_0 := n0_; have HB := n1_; have HK := n2_; clear n0_ n1_ n2_; clear hg hw hp_; have p6 : 0 ≤ (x5_1 : Int) := of_decide_eq_true (by first | (with_reducible assumption) | assumption); have q6 : (x5_1 : Int) < ((x0_1.length : Int) : Int) := of_decide_eq_true (by first | (with_reducible assumption) | assumption); obtain ⟨ce6, hcl6, hM6, hcc6, hfr6⟩ := Kd.R_elem HO_0.out z111 (x5_1 : Int) p6 q6; obtain rfl := k111_openM hM6; have hx6_0 : w12.cell? ⟨go5, (x5_1 : Int).toNat * 5, none⟩ = some (.int .i64 ((rd_T111 y175 x5_1).f0)) := hcc6 0 _ rfl; have hx6_1 : w12.cell? ⟨go5, (x5_1 : Int).toNat * 5 + 1, none⟩ = some (.int .i64 ((rd_T111 y175 x5_1).f1)) := hcc6 1 _ rfl; have hx6_2 : w12.cell? ⟨go5, (x5_1 : Int).toNat * 5 + 2, none⟩ = some (.int .i64 ((rd_T111 y175 x5_1).f2)) := hcc6 2 _ rfl; have hx6_3 : w12.cell? ⟨go5, (x5_1 : Int).toNat * 5 + 3, none⟩ = some (.int .i64 ((rd_T111 y175 x5_1).f3)) := hcc6 3 _ rfl; have hx6_4 : w12.cell? ⟨go5, (x5_1 : Int).toNat * 5 + 4, none⟩ = some (.int .i64 ((rd_T111 y175 x5_1).f4)) := hcc6 4 _ rfl; have hf6_0 : w12.frozen? ⟨go5, (x5_1 : Int).toNat * 5, none⟩ = false := hfr6 0; have hf6_1 : w12.frozen? ⟨go5, (x5_1 : Int).toNat * 5 + 1, none⟩ = false := hfr6 1; have hf6_2 : w12.frozen? ⟨go5, (x5_1 : Int).toNat * 5 + 2, none⟩ = false := hfr6 2; have hf6_3 : w12.frozen? ⟨go5, (x5_1 : Int).toNat * 5 + 3, none⟩ = false := hfr6 3; have hf6_4 : w12.frozen? ⟨go5, (x5_1 : Int).toNat * 5 + 4, none⟩ = false := hfr6 4; clear hcl6 hcc6 hfr6 hM6; replace p6 := eq_true p6; replace q6 := eq_true q6; have HX13 := Aside0.mk (show Kd.R k111 111 w12 w0.heap.size (fun k_ => (P0_ k_ ∨ w.heap.size ≤ k_)) (.slice (some ⟨go5, 0, none⟩) x0_1.length co10) y175 from (by (with_reducible repeat (first | apply Kd.R_alloc | apply Kd.R_drewN | apply Kd.R_drew)); exact HO_0.out)); obtain ⟨ce13, hcl13, hM13, hcc13, hfr13⟩ := Kd.R_elem HX13.out z111 (x5_1 : Int) (of_decide_eq_true (by first | (with_reducible assumption) | assumption)) (by have h_ : (x5_1 : Int) < ((x0_1.length : Int) : Int) := of_decide_eq_true (by first | (with_reducible assumption) | assumption); first | exact h_ | (have e_ := (Kd.R_reads' HO_0.out).1; omega) | simpa using h_); obtain rfl := k111_openM hM13; have HP13 := Kd.R_seg HX13.out (x5_1 : Int) (of_decide_eq_true (by first | (with_reducible assumption) | assumption)) (by have h_ : (x5_1 : Int) < ((x0_1.length : Int) : Int) := of_decide_eq_true (by first | (with_reducible assumption) | assumption); first | exact h_ | (have e_ := (Kd.R_reads' HO_0.out).1; omega) | simpa using h_) (seg := [.int .i64 (wrap64 (x1_1 + 1))]) (j := 1) hcl13 hcc13 (show 2 ≤ 5 from by decide) (x' := (⟨(rd_T111 y175 x5_1).f0, wrap64 (x1_1 + 1), (rd_T111 y175 x5_1).f2, (rd_T111 y175 x5_1).f3, (rd_T111 y175 x5_1).f4⟩ : S111)) (k111_mkM _ _ _ (⟨(rd_T111 y175 x5_1).f0, wrap64 (x1_1 + 1), (rd_T111 y175 x5_1).f2, (rd_T111 y175 x5_1).f3, (rd_T111 y175 x5_1).f4⟩ : S111) ) (fun _ hk => hk); have hx13_1 := hcc13 1 _ rfl; (try simp only [show (k111).sz = 5 from rfl, Nat.mul_one, Nat.add_zero] at hx13_1); have hf13_1 := hfr13 1; (try simp only [show (k111).sz = 5 from rfl, Nat.mul_one, Nat.add_zero] at hf13_1); clear hcl13 hcc13 hfr13 hM13) | ((with_reducible refine gate_store (t := 3) (p := 23) rfl ?_); refine store_event (t := 3) (p := 23) (v := ?vo_w14) (w1 := (w12.setCell ⟨go5, (x5_1 : Int).toNat * 5 + 1, none⟩ (.int .i64 (wrap64 (x1_1 + 1))))) ?hg ?ho ?hn ?hr ?_; (case ho => rfl); (case hg => rfl); (case hn => rfl); (case hr => first | (go_simp; done) | (go_simp; rfl)); intro w14 hw; have hg : w12.grownBy w14 (some go5) := (by rw [hw]; exact HP13.2); have hp_ : Kd.R k111 111 w14 w0.heap.size (fun k_ => (P0_ k_ ∨ w.heap.size ≤ k_)) (.slice (some ⟨go5, 0, none⟩) x0_1.length co10) y176 := (by rw [hw, Ny176.out]; exact HP13.1); clear HP13; have n0_ := Aside0.mk (hp_); have n1_ := Aside0.mk ((by rw [hw]; exact below_set (HB.out) GB5.out : Below w0.heap.size w0 w14)); have n2_ := Aside0.mk (Kept.of_grown (S := (fun k_ => P0_ k_)) hg (by repeat (first | (with_reducible first | exact HK.out | apply Kept.alloc | apply Kept.drewN | apply Kept.drew) | exact HK.out)) (fun k_ e_ => (HO_0.out.1 k_ e_))); clear HO_0; clear HB; clear HK; have HO_0 := n0_; have HB := n1_; have HK := n2_; clear n0_ n1_ n2_; clear hg hw hp_; have p7 : 0 ≤ (x5_1 : Int) := of_decide_eq_true (by first | (with_reducible assumption) | assumption); have q7 : (x5_1 : Int) < ((x0_1.length : Int) : Int) := of_decide_eq_true (by first | (with_reducible assumption) | assumption); obtain ⟨ce7, hcl7, hM7, hcc7, hfr7⟩ := Kd.R_elem HO_0.out z111 (x5_1 : Int) p7 q7; obtain rfl := k111_openM hM7; have hx7_0 : w14.cell? ⟨go5, (x5_1 : Int).toNat * 5, none⟩ = some (.int .i64 ((rd_T111 y176 x5_1).f0)) := hcc7 0 _ rfl; have hx7_1 : w14.cell? ⟨go5, (x5_1 : Int).toNat * 5 + 1, none⟩ = some (.int .i64 ((rd_T111 y176 x5_1).f1)) := hcc7 1 _ rfl; have hx7_2 : w14.cell? ⟨go5, (x5_1 : Int).toNat * 5 + 2, none⟩ = some (.int .i64 ((rd_T111 y176 x5_1).f2)) := hcc7 2 _ rfl; have hx7_3 : w14.cell? ⟨go5, (x5_1 : Int).toNat * 5 + 3, none⟩ = some (.int .i64 ((rd_T111 y176 x5_1).f3)) := hcc7 3 _ rfl; have hx7_4 : w14.cell? ⟨go5, (x5_1 : Int).toNat * 5 + 4, none⟩ = some (.int .i64 ((rd_T111 y176 x5_1).f4)) := hcc7 4 _ rfl; have hf7_0 : w14.frozen? ⟨go5, (x5_1 : Int).toNat * 5, none⟩ = false := hfr7 0; have hf7_1 : w14.frozen? ⟨go5, (x5_1 : Int).toNat * 5 + 1, none⟩ = false := hfr7 1; have hf7_2 : w14.frozen? ⟨go5, (x5_1 : Int).toNat * 5 + 2, none⟩ = false := hfr7 2; have hf7_3 : w14.frozen? ⟨go5, (x5_1 : Int).toNat * 5 + 3, none⟩ = false := hfr7 3; have hf7_4 : w14.frozen? ⟨go5, (x5_1 : Int).toNat * 5 + 4, none⟩ = false := hfr7 4; clear hcl7 hcc7 hfr7 hM7; replace p7 := eq_true p7; replace q7 := eq_true q7; have HX15 := Aside0.mk (show Kd.R k111 111 w14 w0.heap.size (fun k_ => (P0_ k_ ∨ w.heap.size ≤ k_)) (.slice (some ⟨go5, 0, none⟩) x0_1.length co10) y176 from (by (with_reducible repeat (first | apply Kd.R_alloc | apply Kd.R_drewN | apply Kd.R_drew)); exact HO_0.out)); obtain ⟨ce15, hcl15, hM15, hcc15, hfr15⟩ := Kd.R_elem HX15.out z111 (x5_1 : Int) (of_decide_eq_true (by first | (with_reducible assumption) | assumption)) (by have h_ : (x5_1 : Int) < ((x0_1.length : Int) : Int) := of_decide_eq_true (by first | (with_reducible assumption) | assumption); first | exact h_ | (have e_ := (Kd.R_reads' HO_0.out).1; omega) | simpa using h_); obtain rfl := k111_openM hM15; have HP15 := Kd.R_seg HX15.out (x5_1 : Int) (of_decide_eq_true (by first | (with_reducible assumption) | assumption)) (by have h_ : (x5_1 : Int) < ((x0_1.length : Int) : Int) := of_decide_eq_true (by first | (with_reducible assumption) | assumption); first | exact h_ | (have e_ := (Kd.R_reads' HO_0.out).1; omega) | simpa using h_) (seg := [.int .i64 (wrap64 ((wrap64 (x1_1 + 1)) + 1))]) (j := 2) hcl15 hcc15 (show 3 ≤ 5 from by decide) (x' := (⟨(rd_T111 y176 x5_1).f0, (rd_T111 y176 x5_1).f1, wrap64 ((wrap64 (x1_1 + 1)) + 1), (rd_T111 y176 x5_1).f3, (rd_T111 y176 x5_1).f4⟩ : S111)) (k111_mkM _ _ _ (⟨(rd_T111 y176 x5_1).f0, (rd_T111 y176 x5_1).f1, wrap64 ((wrap64 (x1_1 + 1)) + 1), (rd_T111 y176 x5_1).f3, (rd_T111 y176 x5_1).f4⟩ : S111) ) (fun _ hk => hk); have hx15_2 := hcc15 2 _ rfl; (try simp only [show (k111).sz = 5 from rfl, Nat.mul_one, Nat.add_zero] at hx15_2); have hf15_2 := hfr15 2; (try simp only [show (k111).sz = 5 from rfl, Nat.mul_one, Nat.add_zero] at hf15_2); clear hcl15 hcc15 hfr15 hM15) | ((with_reducible refine gate_store (t := 3) (p := 30) rfl ?_); refine store_event (t := 3) (p := 30) (v := ?vo_w16) (w1 := (w14.setCell ⟨go5, (x5_1 : Int).toNat * 5 + 2, none⟩ (.int .i64 (wrap64 ((wrap64 (x1_1 + 1)) + 1))))) ?hg ?ho ?hn ?hr ?_; (case ho => rfl); (case hg => rfl); (case hn => rfl); (case hr => first | (go_simp; done) | (go_simp; rfl)); intro w16 hw; have hg : w14.grownBy w16 (some go5) := (by rw [hw]; exact HP15.2); have hp_ : Kd.R k111 111 w16 w0.heap.size (fun k_ => (P0_ k_ ∨ w.heap.size ≤ k_)) (.slice (some ⟨go5, 0, none⟩) x0_1.length co10) y177 := (by rw [hw, Ny177.out]; exact HP15.1); clear HP15; have n0_ := Aside0.mk (hp_); have n1_ := Aside0.mk ((by rw [hw]; exact below_set (HB.out) GB5.out : Below w0.heap.size w0 w16)); have n2_ := Aside0.mk (Kept.of_grown (S := (fun k_ => P0_ k_)) hg (by repeat (first | (with_reducible first | exact HK.out | apply Kept.alloc | apply Kept.drewN | apply Kept.drew) | exact HK.out)) (fun k_ e_ => (HO_0.out.1 k_ e_))); clear HO_0; clear HB; clear HK; have HO_0 := n0_; have HB := n1_; have HK := n2_; clear n0_ n1_ n2_; clear hg hw hp_; have p8 : 0 ≤ (x5_1 : Int) := of_decide_eq_true (by first | (with_reducible assumption) | assumption); have q8 : (x5_1 : Int) < ((x0_1.length : Int) : Int) := of_decide_eq_true (by first | (with_reducible assumption) | assumption); obtain ⟨ce8, hcl8, hM8, hcc8, hfr8⟩ := Kd.R_elem HO_0.out z111 (x5_1 : Int) p8 q8; obtain rfl := k111_openM hM8; have hx8_0 : w16.cell? ⟨go5, (x5_1 : Int).toNat * 5, none⟩ = some (.int .i64 ((rd_T111 y177 x5_1).f0)) := hcc8 0 _ rfl; have hx8_1 : w16.cell? ⟨go5, (x5_1 : Int).toNat * 5 + 1, none⟩ = some (.int .i64 ((rd_T111 y177 x5_1).f1)) := hcc8 1 _ rfl; have hx8_2 : w16.cell? ⟨go5, (x5_1 : Int).toNat * 5 + 2, none⟩ = some (.int .i64 ((rd_T111 y177 x5_1).f2)) := hcc8 2 _ rfl; have hx8_3 : w16.cell? ⟨go5, (x5_1 : Int).toNat * 5 + 3, none⟩ = some (.int .i64 ((rd_T111 y177 x5_1).f3)) := hcc8 3 _ rfl; have hx8_4 : w16.cell? ⟨go5, (x5_1 : Int).toNat * 5 + 4, none⟩ = some (.int .i64 ((rd_T111 y177 x5_1).f4)) := hcc8 4 _ rfl; have hf8_0 : w16.frozen? ⟨go5, (x5_1 : Int).toNat * 5, none⟩ = false := hfr8 0; have hf8_1 : w16.frozen? ⟨go5, (x5_1 : Int).toNat * 5 + 1, none⟩ = false := hfr8 1; have hf8_2 : w16.frozen? ⟨go5, (x5_1 : Int).toNat * 5 + 2, none⟩ = false := hfr8 2; have hf8_3 : w16.frozen? ⟨go5, (x5_1 : Int).toNat * 5 + 3, none⟩ = false := hfr8 3; have hf8_4 : w16.frozen? ⟨go5, (x5_1 : Int).toNat * 5 + 4, none⟩ = false := hfr8 4; clear hcl8 hcc8 hfr8 hM8; replace p8 := eq_true p8; replace q8 := eq_true q8; have HX17 := Aside0.mk (show Kd.R k111 111 w16 w0.heap.size (fun k_ => (P0_ k_ ∨ w.heap.size ≤ k_)) (.slice (some ⟨go5, 0, none⟩) x0_1.length co10) y177 from (by (with_reducible repeat (first | apply Kd.R_alloc | apply Kd.R_drewN | apply Kd.R_drew)); exact HO_0.out)); obtain ⟨ce17, hcl17, hM17, hcc17, hfr17⟩ := Kd.R_elem HX17.out z111 (x5_1 : Int) (of_decide_eq_true (by first | (with_reducible assumption) | assumption)) (by have h_ : (x5_1 : Int) < ((x0_1.length : Int) : Int) := of_decide_eq_true (by first | (with_reducible assumption) | assumption); first | exact h_ | (have e_ := (Kd.R_reads' HO_0.out).1; omega) | simpa using h_); obtain rfl := k111_openM hM17; have HP17 := Kd.R_seg HX17.out (x5_1 : Int) (of_decide_eq_true (by first | (with_reducible assumption) | assumption)) (by have h_ : (x5_1 : Int) < ((x0_1.length : Int) : Int) := of_decide_eq_true (by first | (with_reducible assumption) | assumption); first | exact h_ | (have e_ := (Kd.R_reads' HO_0.out).1; omega) | simpa using h_) (seg := [.int .i64 (wrap64 ((wrap64 ((wrap64 (x1_1 + 1)) + 1)) + 1))]) (j := 3) hcl17 hcc17 (show 4 ≤ 5 from by decide) (x' := (⟨(rd_T111 y177 x5_1).f0, (rd_T111 y177 x5_1).f1, (rd_T111 y177 x5_1).f2, wrap64 ((wrap64 ((wrap64 (x1_1 + 1)) + 1)) + 1), (rd_T111 y177 x5_1).f4⟩ : S111)) (k111_mkM _ _ _ (⟨(rd_T111 y177 x5_1).f0, (rd_T111 y177 x5_1).f1, (rd_T111 y177 x5_1).f2, wrap64 ((wrap64 ((wrap64 (x1_1 + 1)) + 1)) + 1), (rd_T111 y177 x5_1).f4⟩ : S111) ) (fun _ hk => hk); have hx17_3 := hcc17 3 _ rfl; (try simp only [show (k111).sz = 5 from rfl, Nat.mul_one, Nat.add_zero] at hx17_3); have hf17_3 := hfr17 3; (try simp only [show (k111).sz = 5 from rfl, Nat.mul_one, Nat.add_zero] at hf17_3); clear hcl17 hcc17 hfr17 hM17) | ((with_reducible refine gate_store (t := 3) (p := 37) rfl ?_); refine store_event (t := 3) (p := 37) (v := ?vo_w18) (w1 := (w16.setCell ⟨go5, (x5_1 : Int).toNat * 5 + 3, none⟩ (.int .i64 (wrap64 ((wrap64 ((wrap64 (x1_1 + 1)) + 1)) + 1))))) ?hg ?ho ?hn ?hr ?_; (case ho => rfl); (case hg => rfl); (case hn => rfl); (case hr => first | (go_simp; done) | (go_simp; rfl)); intro w18 hw; have hg : w16.grownBy w18 (some go5) := (by rw [hw]; exact HP17.2); have hp_ : Kd.R k111 111 w18 w0.heap.size (fun k_ => (P0_ k_ ∨ w.heap.size ≤ k_)) (.slice (some ⟨go5, 0, none⟩) x0_1.length co10) y178 := (by rw [hw, Ny178.out]; exact HP17.1); clear HP17; have n0_ := Aside0.mk (hp_); have n1_ := Aside0.mk ((by rw [hw]; exact below_set (HB.out) GB5.out : Below w0.heap.size w0 w18)); have n2_ := Aside0.mk (Kept.of_grown (S := (fun k_ => P0_ k_)) hg (by repeat (first | (with_reducible first | exact HK.out | apply Kept.alloc | apply Kept.drewN | apply Kept.drew) | exact HK.out)) (fun k_ e_ => (HO_0.out.1 k_ e_))); clear HO_0; clear HB; clear HK; have HO_0 := n0_; have HB := n1_; have HK := n2_; clear n0_ n1_ n2_; clear hg hw hp_; have p9 : 0 ≤ (x5_1 : Int) := of_decide_eq_true (by first | (with_reducible assumption) | assumption); have q9 : (x5_1 : Int) < ((x0_1.length : Int) : Int) := of_decide_eq_true (by first | (with_reducible assumption) | assumption); obtain ⟨ce9, hcl9, hM9, hcc9, hfr9⟩ := Kd.R_elem HO_0.out z111 (x5_1 : Int) p9 q9; obtain rfl := k111_openM hM9; have hx9_0 : w18.cell? ⟨go5, (x5_1 : Int).toNat * 5, none⟩ = some (.int .i64 ((rd_T111 y178 x5_1).f0)) := hcc9 0 _ rfl; have hx9_1 : w18.cell? ⟨go5, (x5_1 : Int).toNat * 5 + 1, none⟩ = some (.int .i64 ((rd_T111 y178 x5_1).f1)) := hcc9 1 _ rfl; have hx9_2 : w18.cell? ⟨go5, (x5_1 : Int).toNat * 5 + 2, none⟩ = some (.int .i64 ((rd_T111 y178 x5_1).f2)) := hcc9 2 _ rfl; have hx9_3 : w18.cell? ⟨go5, (x5_1 : Int).toNat * 5 + 3, none⟩ = some (.int .i64 ((rd_T111 y178 x5_1).f3)) := hcc9 3 _ rfl; have hx9_4 : w18.cell? ⟨go5, (x5_1 : Int).toNat * 5 + 4, none⟩ = some (.int .i64 ((rd_T111 y178 x5_1).f4)) := hcc9 4 _ rfl; have hf9_0 : w18.frozen? ⟨go5, (x5_1 : Int).toNat * 5, none⟩ = false := hfr9 0; have hf9_1 : w18.frozen? ⟨go5, (x5_1 : Int).toNat * 5 + 1, none⟩ = false := hfr9 1; have hf9_2 : w18.frozen? ⟨go5, (x5_1 : Int).toNat * 5 + 2, none⟩ = false := hfr9 2; have hf9_3 : w18.frozen? ⟨go5, (x5_1 : Int).toNat * 5 + 3, none⟩ = false := hfr9 3; have hf9_4 : w18.frozen? ⟨go5, (x5_1 : Int).toNat * 5 + 4, none⟩ = false := hfr9 4; clear hcl9 hcc9 hfr9 hM9; replace p9 := eq_true p9; replace q9 := eq_true q9; have HX19 := Aside0.mk (show Kd.R k111 111 w18 w0.heap.size (fun k_ => (P0_ k_ ∨ w.heap.size ≤ k_)) (.slice (some ⟨go5, 0, none⟩) x0_1.length co10) y178 from (by (with_reducible repeat (first | apply Kd.R_alloc | apply Kd.R_drewN | apply Kd.R_drew)); exact HO_0.out)); obtain ⟨ce19, hcl19, hM19, hcc19, hfr19⟩ := Kd.R_elem HX19.out z111 (x5_1 : Int) (of_decide_eq_true (by first | (with_reducible assumption) | assumption)) (by have h_ : (x5_1 : Int) < ((x0_1.length : Int) : Int) := of_decide_eq_true (by first | (with_reducible assumption) | assumption); first | exact h_ | (have e_ := (Kd.R_reads' HO_0.out).1; omega) | simpa using h_); obtain rfl := k111_openM hM19; have HP19 := Kd.R_seg HX19.out (x5_1 : Int) (of_decide_eq_true (by first | (with_reducible assumption) | assumption)) (by have h_ : (x5_1 : Int) < ((x0_1.length : Int) : Int) := of_decide_eq_true (by first | (with_reducible assumption) | assumption); first | exact h_ | (have e_ := (Kd.R_reads' HO_0.out).1; omega) | simpa using h_) (seg := [.int .i64 (wrap64 ((wrap64 ((wrap64 ((wrap64 (x1_1 + 1)) + 1)) + 1)) + 1))]) (j := 4) hcl19 hcc19 (show 5 ≤ 5 from by decide) (x' := (⟨(rd_T111 y178 x5_1).f0, (rd_T111 y178 x5_1).f1, (rd_T111 y178 x5_1).f2, (rd_T111 y178 x5_1).f3, wrap64 ((wrap64 ((wrap64 ((wrap64 (x1_1 + 1)) + 1)) + 1)) + 1)⟩ : S111)) (k111_mkM _ _ _ (⟨(rd_T111 y178 x5_1).f0, (rd_T111 y178 x5_1).f1, (rd_T111 y178 x5_1).f2, (rd_T111 y178 x5_1).f3, wrap64 ((wrap64 ((wrap64 ((wrap64 (x1_1 + 1)) + 1)) + 1)) + 1)⟩ : S111) ) (fun _ hk => hk); have hx19_4 := hcc19 4 _ rfl; (try simp only [show (k111).sz = 5 from rfl, Nat.mul_one, Nat.add_zero] at hx19_4); have hf19_4 := hfr19 4; (try simp only [show (k111).sz = 5 from rfl, Nat.mul_one, Nat.add_zero] at hf19_4); clear hcl19 hcc19 hfr19 hM19) | ((with_reducible refine gate_store (t := 3) (p := 44) rfl ?_); refine store_event (t := 3) (p := 44) (v := ?vo_w20) (w1 := (w18.setCell ⟨go5, (x5_1 : Int).toNat * 5 + 4, none⟩ (.int .i64 (wrap64 ((wrap64 ((wrap64 ((wrap64 (x1_1 + 1)) + 1)) + 1)) + 1))))) ?hg ?ho ?hn ?hr ?_; (case ho => rfl); (case hg => rfl); (case hn => rfl); (case hr => first | (go_simp; done) | (go_simp; rfl)); intro w20 hw; have hg : w18.grownBy w20 (some go5) := (by rw [hw]; exact HP19.2); have hp_ : Kd.R k111 111 w20 w0.heap.size (fun k_ => (P0_ k_ ∨ w.heap.size ≤ k_)) (.slice (some ⟨go5, 0, none⟩) x0_1.length co10) y179 := (by rw [hw, Ny179.out]; exact HP19.1); clear HP19; have n0_ := Aside0.mk (hp_); have n1_ := Aside0.mk ((by rw [hw]; exact below_set (HB.out) GB5.out : Below w0.heap.size w0 w20)); have n2_ := Aside0.mk (Kept.of_grown (S := (fun k_ => P0_ k_)) hg (by repeat (first | (with_reducible first | exact HK.out | apply Kept.alloc | apply Kept.drewN | apply Kept.drew) | exact HK.out)) (fun k_ e_ => (HO_0.out.1 k_ e_))); clear HO_0; clear HB; clear HK; have HO_0 := n0_; have HB := n1_; have HK := n2_; clear n0_ n1_ n2_; clear hg hw hp_))
          go_roundg k1
          case measure => have := HK1.out; omega
          case rel => exact ⟨(y179), (wrap64 ((wrap64 ((wrap64 ((wrap64 ((wrap64 (x1_1 + 1)) + 1)) + 1)) + 1)) + 1)), (wrap64 (x5_1 + 1)), (by first | rfl | (simp; done) | (simp [*]; done)), (by first | rfl | (simp; done) | (simp [*]; done)), H', ⟨by have := HK1.out; omega⟩, ⟨by (with_reducible repeat (first | apply Kd.R_alloc | apply Kd.R_drewN | apply Kd.R_drew)); exact HO_0.out⟩, ⟨by repeat (first | (with_reducible first | exact HK.out | apply Kept.alloc | apply Kept.drewN | apply Kept.drew) | exact HK.out)⟩, ⟨by repeat (first | (with_reducible first | exact HB.out | apply below_alloc | apply pw_below_drewN | apply below_drew1) | exact HB.out)⟩⟩
        · rw [if_neg c4] at H
          exact absurd H (by simp)
      · rw [if_neg c3] at H
        have c3b0 : decide (x5_1 < (x0_1.length : Int)) = false := decide_eq_false c3
        clear c3
        simp only [Option.some.injEq, Prod.mk.injEq] at H
        obtain ⟨rfl, rfl⟩ := H
        obtain ⟨Ao21, co21, eo21⟩ := Kd.R_slice HO_0.out
        subst eo21
        go_wp2
        go_ret
        exact ⟨by first | rfl | (simp [errW_none, errW_some] <;> rfl) | (simp [*, errW_none, errW_some] <;> rfl), by (with_reducible repeat (first | apply Kd.R_alloc | apply Kd.R_drewN | apply Kd.R_drew)); exact HO_0.out, by repeat (first | (with_reducible first | exact HB.out | apply below_alloc | apply pw_below_drewN | apply below_drew1) | exact HB.out), by repeat (first | (with_reducible first | exact HK.out | apply Kept.alloc | apply Kept.drewN | apply Kept.drew) | exact HK.out)⟩

/-! ### laws_markFlow: function 49 -/
def laws_markFlow.f (k : Nat) (l0_0 : List Int) (l0_1 : List Int) (l0_2 : List Bool) (l0_3 : List (S111)) (a1 : Int) : Option (Int × List Int × List Int × List Bool × (List (S111))) := (laws_markIntS.f k l0_0 a1).bind fun bt181 => ((laws_markIntS.f k l0_1 bt181.1).bind fun bt183 => ((laws_markBoolS.f k l0_2 bt183.1).bind fun bt185 => ((laws_markEdgeS.f k l0_3 bt185.1).bind fun bt187 => (some (bt187.1, bt181.2, bt183.2, bt185.2, bt187.2)))))
theorem laws_markFlow.mono : ∀ a0 a1 a2 a3 a4 k, LeO (laws_markFlow.f k a0 a1 a2 a3 a4) (laws_markFlow.f (k + 1) a0 a1 a2 a3 a4) := by
  intro a0 a1 a2 a3 a4 k
  unfold laws_markFlow.f
  repeat' first
      | (with_reducible exact laws_markBoolS.mono _ _ _)
      | (with_reducible exact laws_markEdgeS.mono _ _ _)
      | (with_reducible exact laws_markIntS.mono _ _ _)
      | (with_reducible exact LeO.refl _)
      | (with_reducible exact LeO.none _)
      | (with_reducible refine LeO.ite ?_ ?_)
      | (with_reducible refine LeO.bind ?_ (fun _ => ?_))
      | exact laws_markBoolS.mono _ _ _
      | exact laws_markEdgeS.mono _ _ _
      | exact laws_markIntS.mono _ _ _
      | exact LeO.none _
      | refine LeO.ite ?_ ?_
      | refine LeO.bind ?_ (fun _ => ?_)
set_option maxHeartbeats 8000000 in
set_option maxRecDepth 100000 in
theorem laws_markFlow.calls (k : Nat) (P0_0_ : Nat → Prop) (u9000_ : Value) (l0_0 : List Int) (P0_1_ : Nat → Prop) (u9001_ : Value) (l0_1 : List Int) (P0_2_ : Nat → Prop) (u9002_ : Value) (l0_2 : List Bool) (P0_3_ : Nat → Prop) (u9003_ : Value) (l0_3 : List (S111)) (a1 : Int) (r1 : Int) (r2 : List Int) (r3 : List Int) (r4 : List Bool) (r5 : List (S111)) (w0 w : World) (hB : Below w0.heap.size w0 w) (ho0_0 : Kd.R (Kd.int .i64) 3 w w0.heap.size P0_0_ u9000_ l0_0) (hp0_0_0_1 : ∀ k_, P0_0_ k_ → ¬ P0_1_ k_) (ho0_1 : Kd.R (Kd.int .i64) 3 w w0.heap.size P0_1_ u9001_ l0_1) (hp0_1_0_0 : ∀ k_, P0_1_ k_ → ¬ P0_0_ k_) (ho0_2 : Kd.R Kd.bool 4 w w0.heap.size P0_2_ u9002_ l0_2) (ho0_3 : Kd.R k111 111 w w0.heap.size P0_3_ u9003_ l0_3) (h : laws_markFlow.f k l0_0 l0_1 l0_2 l0_3 a1 = some (r1, r2, r3, r4, r5)) :
    Calls Try.prog 49 #[.agg #[u9000_, u9001_, u9002_, u9003_], .int .i64 a1] w fun e w' => e = .returned (.int .i64 r1) ∧ Kd.R (Kd.int .i64) 3 w' w0.heap.size (fun k_ => ((P0_0_ k_ ∨ P0_1_ k_ ∨ P0_2_ k_ ∨ P0_3_ k_) ∨ w.heap.size ≤ k_)) u9000_ r2 ∧ Kd.R (Kd.int .i64) 3 w' w0.heap.size (fun k_ => ((P0_0_ k_ ∨ P0_1_ k_ ∨ P0_2_ k_ ∨ P0_3_ k_) ∨ w.heap.size ≤ k_)) u9001_ r3 ∧ Kd.R Kd.bool 4 w' w0.heap.size (fun k_ => ((P0_0_ k_ ∨ P0_1_ k_ ∨ P0_2_ k_ ∨ P0_3_ k_) ∨ w.heap.size ≤ k_)) u9002_ r4 ∧ Kd.R k111 111 w' w0.heap.size (fun k_ => ((P0_0_ k_ ∨ P0_1_ k_ ∨ P0_2_ k_ ∨ P0_3_ k_) ∨ w.heap.size ≤ k_)) u9003_ r5 ∧ Below w0.heap.size w0 w' ∧ Kept w w' (fun k_ => P0_0_ k_ ∨ P0_1_ k_ ∨ P0_2_ k_ ∨ P0_3_ k_) := by
  have hu61 := Try.underlying61
  have HO0_0 := Aside0.mk (show Kd.R (Kd.int .i64) 3 w w0.heap.size (fun k_ => ((P0_0_ k_ ∨ P0_1_ k_ ∨ P0_2_ k_ ∨ P0_3_ k_) ∨ w.heap.size ≤ k_) ∧ some k_ ≠ (u9001_ : Value).ownBlock) u9000_ l0_0 from Kd.R_mono ho0_0 (fun k_ hk => ⟨(.inl (.inl hk)), fun e_ => hp0_0_0_1 k_ hk (ho0_1.1 k_ e_.symm)⟩))
  have HO0_1 := Aside0.mk (show Kd.R (Kd.int .i64) 3 w w0.heap.size (fun k_ => ((P0_0_ k_ ∨ P0_1_ k_ ∨ P0_2_ k_ ∨ P0_3_ k_) ∨ w.heap.size ≤ k_) ∧ some k_ ≠ (u9000_ : Value).ownBlock) u9001_ l0_1 from Kd.R_mono ho0_1 (fun k_ hk => ⟨(.inl (.inr (.inl hk))), fun e_ => hp0_1_0_0 k_ hk (ho0_0.1 k_ e_.symm)⟩))
  have HO0_2 := Aside0.mk (show Kd.R Kd.bool 4 w w0.heap.size (fun k_ => ((P0_0_ k_ ∨ P0_1_ k_ ∨ P0_2_ k_ ∨ P0_3_ k_) ∨ w.heap.size ≤ k_)) u9002_ l0_2 from Kd.R_mono ho0_2 (fun k_ hk => (.inl (.inr (.inr (.inl hk))))))
  have HO0_3 := Aside0.mk (show Kd.R k111 111 w w0.heap.size (fun k_ => ((P0_0_ k_ ∨ P0_1_ k_ ∨ P0_2_ k_ ∨ P0_3_ k_) ∨ w.heap.size ≤ k_)) u9003_ l0_3 from Kd.R_mono ho0_3 (fun k_ hk => (.inl (.inr (.inr (.inr hk))))))
  have HK := Aside0.mk (Kept.refl w (fun k_ => P0_0_ k_ ∨ P0_1_ k_ ∨ P0_2_ k_ ∨ P0_3_ k_))
  have HW0 := Aside0.mk hB.size
  have HB := Aside0.mk hB
  clear hB
  have H : ((laws_markIntS.f k l0_0 a1).bind fun bt181 => ((laws_markIntS.f k l0_1 bt181.1).bind fun bt183 => ((laws_markBoolS.f k l0_2 bt183.1).bind fun bt185 => ((laws_markEdgeS.f k l0_3 bt185.1).bind fun bt187 => (some (bt187.1, bt181.2, bt183.2, bt185.2, bt187.2)))))) = some (r1, r2, r3, r4, r5) := h
  clear h
  replace H := Option.bind_eq_some_iff.mp H
  obtain ⟨⟨t181, t182⟩, A30, H⟩ := H
  replace H : ((laws_markIntS.f k l0_1 t181).bind fun bt183 => ((laws_markBoolS.f k l0_2 bt183.1).bind fun bt185 => ((laws_markEdgeS.f k l0_3 bt185.1).bind fun bt187 => (some (bt187.1, t182, bt183.2, bt185.2, bt187.2))))) = some (r1, r2, r3, r4, r5) := H
  have A3 := Aside0.mk A30
  clear A30
  replace H := Option.bind_eq_some_iff.mp H
  obtain ⟨⟨t183, t184⟩, A40, H⟩ := H
  replace H : ((laws_markBoolS.f k l0_2 t183).bind fun bt185 => ((laws_markEdgeS.f k l0_3 bt185.1).bind fun bt187 => (some (bt187.1, t182, t184, bt185.2, bt187.2)))) = some (r1, r2, r3, r4, r5) := H
  have A4 := Aside0.mk A40
  clear A40
  replace H := Option.bind_eq_some_iff.mp H
  obtain ⟨⟨t185, t186⟩, A50, H⟩ := H
  replace H : ((laws_markEdgeS.f k l0_3 t185).bind fun bt187 => (some (bt187.1, t182, t184, t186, bt187.2))) = some (r1, r2, r3, r4, r5) := H
  have A5 := Aside0.mk A50
  clear A50
  replace H := Option.bind_eq_some_iff.mp H
  obtain ⟨⟨t187, t188⟩, A60, H⟩ := H
  replace H : (some (t187, t182, t184, t186, t188)) = some (r1, r2, r3, r4, r5) := H
  have A6 := Aside0.mk A60
  clear A60
  simp only [Option.some.injEq, Prod.mk.injEq] at H
  obtain ⟨rfl, rfl, rfl, rfl, rfl⟩ := H
  obtain ⟨Ao7, co7, eo7⟩ := Kd.R_slice HO0_0.out
  subst eo7
  obtain ⟨Ao8, co8, eo8⟩ := Kd.R_slice HO0_1.out
  subst eo8
  obtain ⟨Ao9, co9, eo9⟩ := Kd.R_slice HO0_2.out
  subst eo9
  obtain ⟨Ao10, co10, eo10⟩ := Kd.R_slice HO0_3.out
  subst eo10
  go_enter Try.func49, Try.ntmps49
  go_wp2_with (first | ((with_reducible refine gate_dst (N := 2) rfl ?_); refine box_event ?hg (N := 2) ?hd (cs := #[.slice Ao7 l0_0.length co7, .slice Ao8 l0_1.length co8, .slice Ao9 l0_2.length co9, .slice Ao10 l0_3.length co10]) (t := 61) ?hr ?_; (case hd => rfl); (case hg => rfl); (case hr => first | (go_simp; done) | (go_simp; rfl)); intro gb180 hg w11 hbox hb; have n0_ := Aside0.mk (Kd.R_below (by (with_reducible repeat (first | apply Kd.R_alloc | apply Kd.R_drewN | apply Kd.R_drew)); exact HO0_0.out) hb); have n1_ := Aside0.mk (Kd.R_below (by (with_reducible repeat (first | apply Kd.R_alloc | apply Kd.R_drewN | apply Kd.R_drew)); exact HO0_1.out) hb); have n2_ := Aside0.mk (Kd.R_below (by (with_reducible repeat (first | apply Kd.R_alloc | apply Kd.R_drewN | apply Kd.R_drew)); exact HO0_2.out) hb); have n3_ := Aside0.mk (Kd.R_below (by (with_reducible repeat (first | apply Kd.R_alloc | apply Kd.R_drewN | apply Kd.R_drew)); exact HO0_3.out) hb); have n4_ := Aside0.mk (Kept.below (S := (fun k_ => P0_0_ k_ ∨ P0_1_ k_ ∨ P0_2_ k_ ∨ P0_3_ k_)) (by repeat (first | (with_reducible first | exact HK.out | apply Kept.alloc | apply Kept.drewN | apply Kept.drew) | exact HK.out)) hb); have n5_ := Aside0.mk (below_step (by repeat (first | (with_reducible first | exact HB.out | apply below_alloc | apply pw_below_drewN | apply below_drew1) | exact HB.out)) hb); have n6_ := Aside0.mk (hbox); have n7_ := Aside0.mk ((by rw [hg]; exact (by first | exact HK.out.1 | exact (show Kept w _ (fun k_ => P0_0_ k_ ∨ P0_1_ k_ ∨ P0_2_ k_ ∨ P0_3_ k_) from by repeat (first | (with_reducible first | exact HK.out | apply Kept.alloc | apply Kept.drewN | apply Kept.drew) | exact HK.out)).1) : w.heap.size ≤ gb180)); have n8_ := Aside0.mk ((by rw [hg]; exact (below_size (by repeat (first | (with_reducible first | exact HB.out | apply below_alloc | apply pw_below_drewN | apply below_drew1) | exact HB.out))) : w0.heap.size ≤ gb180)); clear HO0_0; clear HO0_1; clear HO0_2; clear HO0_3; clear HK; clear HB; have HO0_0 := n0_; have HO0_1 := n1_; have HO0_2 := n2_; have HO0_3 := n3_; have HK := n4_; have HB := n5_; have BK180 := n6_; have GW180 := n7_; have GE180 := n8_; clear n0_ n1_ n2_ n3_ n4_ n5_ n6_ n7_ n8_; clear hb hbox hg; have hcz12_0 : w11.cell? ⟨gb180, 0, none⟩ = some (.slice Ao7 l0_0.length co7) := (blk_cell BK180.out 0).trans rfl; have hcz12_1 : w11.cell? ⟨gb180, 1, none⟩ = some (.slice Ao8 l0_1.length co8) := (blk_cell BK180.out 1).trans rfl; have hcz12_2 : w11.cell? ⟨gb180, 2, none⟩ = some (.slice Ao9 l0_2.length co9) := (blk_cell BK180.out 2).trans rfl; have hcz12_3 : w11.cell? ⟨gb180, 3, none⟩ = some (.slice Ao10 l0_3.length co10) := (blk_cell BK180.out 3).trans rfl; have hfz12_0 := blk_frozen BK180.out 0; have hfz12_1 := blk_frozen BK180.out 1; have hfz12_2 := blk_frozen BK180.out 2; have hfz12_3 := blk_frozen BK180.out 3) | ((with_reducible refine gate_callee (f := 50) rfl ?_); refine goesL_ (some 8) rfl rfl Try.func50 (by kernel_rfl) rfl #[.slice Ao7 l0_0.length co7, .int .i64 a1] rfl (by (try simp only [List.map_toArray, List.map_cons, List.map_nil]); first | done | rfl | (simp only [List.length_drop, List.length_take]; rfl)) ?_; (with_reducible refine (laws_markIntS.calls k (fun k_ => some k_ = (.slice Ao7 l0_0.length co7 : Value).ownBlock) (.slice Ao7 l0_0.length co7) l0_0 a1 t181 t182 w0 _ ?side1 ?side2 A3.out).mono ?_); (case side1 => repeat (first | (with_reducible first | exact HB.out | apply below_alloc | apply pw_below_drewN | apply below_drew1 | refine below_set ?_ GE180.out) | exact HB.out)); (case side2 => exact Kd.R_tight rfl HO0_0.out); rintro e w13 ⟨rfl, hy0, hb, hkp⟩; refine ⟨_, rfl, ?_⟩; have n0_ := Aside0.mk (Kd.R_reok rfl hy0 (fun k_ e_ => HO0_0.out.1 k_ e_)); have n1_ := Aside0.mk (Kd.R_mono (ok' := fun k_ => ((P0_0_ k_ ∨ P0_1_ k_ ∨ P0_2_ k_ ∨ P0_3_ k_) ∨ w.heap.size ≤ k_) ∧ some k_ ≠ (.slice Ao7 l0_0.length co7 : Value).ownBlock) (Kd.R_keptB (HO0_1.out) hkp (fun k_ hk_ hs_ => (hk_.2) hs_)) (fun k_ hk_ => (by revert hk_; (try simp only [and_imp]); intros; (repeat' apply And.intro) <;> assumption))); have n2_ := Aside0.mk (Kd.R_mono (ok' := fun k_ => ((P0_0_ k_ ∨ P0_1_ k_ ∨ P0_2_ k_ ∨ P0_3_ k_) ∨ w.heap.size ≤ k_)) (Kd.R_keptB ((Kd.R_apart' HO0_2.out (Kd.R_typed HO0_0.out) (by decide))) hkp (fun k_ hk_ hs_ => (hk_.2) hs_)) (fun k_ hk_ => hk_.1.1)); have n3_ := Aside0.mk (Kd.R_mono (ok' := fun k_ => ((P0_0_ k_ ∨ P0_1_ k_ ∨ P0_2_ k_ ∨ P0_3_ k_) ∨ w.heap.size ≤ k_)) (Kd.R_keptB ((Kd.R_apart' HO0_3.out (Kd.R_typed HO0_0.out) (by decide))) hkp (fun k_ hk_ hs_ => (hk_.2) hs_)) (fun k_ hk_ => hk_.1.1)); have n4_ := Aside0.mk (blk_kept (by (with_reducible repeat (first | refine blk_drewN ?_ _ | refine blk_drew ?_ | refine blk_alloc ?_ _)); exact BK180.out) hkp (fun hs_ => (fun e_ => (Kd.R_ne HO0_0.out BK180.out (by decide)) e_) hs_)); have n5_ := Aside0.mk (Kept.then_ (S := (fun k_ => P0_0_ k_ ∨ P0_1_ k_ ∨ P0_2_ k_ ∨ P0_3_ k_)) (by repeat (first | (with_reducible first | exact HK.out | apply Kept.alloc | apply Kept.drewN | apply Kept.drew | refine Kept.setCell ?_ (.inr GW180.out) _) | exact HK.out)) hkp (fun k_ hs_ => (fun e_ => (HO0_0.out.1 k_ e_.symm).1) hs_)); have n6_ := Aside0.mk (hb); clear HO0_0; clear HO0_1; clear HO0_2; clear HO0_3; clear BK180; clear HK; clear HB; have HO0_0 := n0_; have HO0_1 := n1_; have HO0_2 := n2_; have HO0_3 := n3_; have BK180 := n4_; have HK := n5_; have HB := n6_; clear n0_ n1_ n2_ n3_ n4_ n5_ n6_; (try clear hb); (try clear hkp); (try clear hy0); have hcz14_0 : w13.cell? ⟨gb180, 0, none⟩ = some (.slice Ao7 l0_0.length co7) := (blk_cell BK180.out 0).trans rfl; have hcz14_1 : w13.cell? ⟨gb180, 1, none⟩ = some (.slice Ao8 l0_1.length co8) := (blk_cell BK180.out 1).trans rfl; have hcz14_2 : w13.cell? ⟨gb180, 2, none⟩ = some (.slice Ao9 l0_2.length co9) := (blk_cell BK180.out 2).trans rfl; have hcz14_3 : w13.cell? ⟨gb180, 3, none⟩ = some (.slice Ao10 l0_3.length co10) := (blk_cell BK180.out 3).trans rfl; have hfz14_0 := blk_frozen BK180.out 0; have hfz14_1 := blk_frozen BK180.out 1; have hfz14_2 := blk_frozen BK180.out 2; have hfz14_3 := blk_frozen BK180.out 3) | ((with_reducible refine gate_callee (f := 50) rfl ?_); refine goesL_ (some 12) rfl rfl Try.func50 (by kernel_rfl) rfl #[.slice Ao8 l0_1.length co8, .int .i64 t181] rfl (by (try simp only [List.map_toArray, List.map_cons, List.map_nil]); first | done | rfl | (simp only [List.length_drop, List.length_take]; rfl)) ?_; (with_reducible refine (laws_markIntS.calls k (fun k_ => some k_ = (.slice Ao8 l0_1.length co8 : Value).ownBlock) (.slice Ao8 l0_1.length co8) l0_1 t181 t183 t184 w0 _ ?side1 ?side2 A4.out).mono ?_); (case side1 => repeat (first | (with_reducible first | exact HB.out | apply below_alloc | apply pw_below_drewN | apply below_drew1 | refine below_set ?_ GE180.out) | exact HB.out)); (case side2 => exact Kd.R_tight rfl HO0_1.out); rintro e w15 ⟨rfl, hy0, hb, hkp⟩; refine ⟨_, rfl, ?_⟩; have n0_ := Aside0.mk (Kd.R_mono (ok' := fun k_ => ((P0_0_ k_ ∨ P0_1_ k_ ∨ P0_2_ k_ ∨ P0_3_ k_) ∨ w.heap.size ≤ k_) ∧ some k_ ≠ (.slice Ao8 l0_1.length co8 : Value).ownBlock) (Kd.R_keptB (HO0_0.out) hkp (fun k_ hk_ hs_ => (hk_.2) hs_)) (fun k_ hk_ => (by revert hk_; (try simp only [and_imp]); intros; (repeat' apply And.intro) <;> assumption))); have n1_ := Aside0.mk (Kd.R_reok rfl hy0 (fun k_ e_ => HO0_1.out.1 k_ e_)); have n2_ := Aside0.mk (Kd.R_mono (ok' := fun k_ => ((P0_0_ k_ ∨ P0_1_ k_ ∨ P0_2_ k_ ∨ P0_3_ k_) ∨ w.heap.size ≤ k_)) (Kd.R_keptB ((Kd.R_apart' HO0_2.out (Kd.R_typed HO0_1.out) (by decide))) hkp (fun k_ hk_ hs_ => (hk_.2) hs_)) (fun k_ hk_ => hk_.1.1)); have n3_ := Aside0.mk (Kd.R_mono (ok' := fun k_ => ((P0_0_ k_ ∨ P0_1_ k_ ∨ P0_2_ k_ ∨ P0_3_ k_) ∨ w.heap.size ≤ k_)) (Kd.R_keptB ((Kd.R_apart' HO0_3.out (Kd.R_typed HO0_1.out) (by decide))) hkp (fun k_ hk_ hs_ => (hk_.2) hs_)) (fun k_ hk_ => hk_.1.1)); have n4_ := Aside0.mk (blk_kept (by (with_reducible repeat (first | refine blk_drewN ?_ _ | refine blk_drew ?_ | refine blk_alloc ?_ _)); exact BK180.out) hkp (fun hs_ => (fun e_ => (Kd.R_ne HO0_1.out BK180.out (by decide)) e_) hs_)); have n5_ := Aside0.mk (Kept.then_ (S := (fun k_ => P0_0_ k_ ∨ P0_1_ k_ ∨ P0_2_ k_ ∨ P0_3_ k_)) (by repeat (first | (with_reducible first | exact HK.out | apply Kept.alloc | apply Kept.drewN | apply Kept.drew | refine Kept.setCell ?_ (.inr GW180.out) _) | exact HK.out)) hkp (fun k_ hs_ => (fun e_ => (HO0_1.out.1 k_ e_.symm).1) hs_)); have n6_ := Aside0.mk (hb); clear HO0_0; clear HO0_1; clear HO0_2; clear HO0_3; clear BK180; clear HK; clear HB; have HO0_0 := n0_; have HO0_1 := n1_; have HO0_2 := n2_; have HO0_3 := n3_; have BK180 := n4_; have HK := n5_; have HB := n6_; clear n0_ n1_ n2_ n3_ n4_ n5_ n6_; (try clear hb); (try clear hkp); (try clear hy0); have hcz16_0 : w15.cell? ⟨gb180, 0, none⟩ = some (.slice Ao7 l0_0.length co7) := (blk_cell BK180.out 0).trans rfl; have hcz16_1 : w15.cell? ⟨gb180, 1, none⟩ = some (.slice Ao8 l0_1.length co8) := (blk_cell BK180.out 1).trans rfl; have hcz16_2 : w15.cell? ⟨gb180, 2, none⟩ = some (.slice Ao9 l0_2.length co9) := (blk_cell BK180.out 2).trans rfl; have hcz16_3 : w15.cell? ⟨gb180, 3, none⟩ = some (.slice Ao10 l0_3.length co10) := (blk_cell BK180.out 3).trans rfl; have hfz16_0 := blk_frozen BK180.out 0; have hfz16_1 := blk_frozen BK180.out 1; have hfz16_2 := blk_frozen BK180.out 2; have hfz16_3 := blk_frozen BK180.out 3) | ((with_reducible refine gate_callee (f := 102) rfl ?_); refine goesL_ (some 16) rfl rfl Try.func102 (by kernel_rfl) rfl #[.slice Ao9 l0_2.length co9, .int .i64 t183] rfl (by (try simp only [List.map_toArray, List.map_cons, List.map_nil]); first | done | rfl | (simp only [List.length_drop, List.length_take]; rfl)) ?_; (with_reducible refine (laws_markBoolS.calls k (fun k_ => some k_ = (.slice Ao9 l0_2.length co9 : Value).ownBlock) (.slice Ao9 l0_2.length co9) l0_2 t183 t185 t186 w0 _ ?side1 ?side2 A5.out).mono ?_); (case side1 => repeat (first | (with_reducible first | exact HB.out | apply below_alloc | apply pw_below_drewN | apply below_drew1 | refine below_set ?_ GE180.out) | exact HB.out)); (case side2 => exact Kd.R_tight rfl HO0_2.out); rintro e w17 ⟨rfl, hy0, hb, hkp⟩; refine ⟨_, rfl, ?_⟩; have n0_ := Aside0.mk (Kd.R_mono (ok' := fun k_ => ((P0_0_ k_ ∨ P0_1_ k_ ∨ P0_2_ k_ ∨ P0_3_ k_) ∨ w.heap.size ≤ k_) ∧ some k_ ≠ (.slice Ao8 l0_1.length co8 : Value).ownBlock) (Kd.R_keptB ((Kd.R_apart' HO0_0.out (Kd.R_typed HO0_2.out) (by decide))) hkp (fun k_ hk_ hs_ => (hk_.2) hs_)) (fun k_ hk_ => (by revert hk_; (try simp only [and_imp]); intros; (repeat' apply And.intro) <;> assumption))); have n1_ := Aside0.mk (Kd.R_mono (ok' := fun k_ => ((P0_0_ k_ ∨ P0_1_ k_ ∨ P0_2_ k_ ∨ P0_3_ k_) ∨ w.heap.size ≤ k_) ∧ some k_ ≠ (.slice Ao7 l0_0.length co7 : Value).ownBlock) (Kd.R_keptB ((Kd.R_apart' HO0_1.out (Kd.R_typed HO0_2.out) (by decide))) hkp (fun k_ hk_ hs_ => (hk_.2) hs_)) (fun k_ hk_ => (by revert hk_; (try simp only [and_imp]); intros; (repeat' apply And.intro) <;> assumption))); have n2_ := Aside0.mk (Kd.R_reok rfl hy0 (fun k_ e_ => HO0_2.out.1 k_ e_)); have n3_ := Aside0.mk (Kd.R_mono (ok' := fun k_ => ((P0_0_ k_ ∨ P0_1_ k_ ∨ P0_2_ k_ ∨ P0_3_ k_) ∨ w.heap.size ≤ k_)) (Kd.R_keptB ((Kd.R_apart' HO0_3.out (Kd.R_typed HO0_2.out) (by decide))) hkp (fun k_ hk_ hs_ => (hk_.2) hs_)) (fun k_ hk_ => hk_.1.1)); have n4_ := Aside0.mk (blk_kept (by (with_reducible repeat (first | refine blk_drewN ?_ _ | refine blk_drew ?_ | refine blk_alloc ?_ _)); exact BK180.out) hkp (fun hs_ => (fun e_ => (Kd.R_ne HO0_2.out BK180.out (by decide)) e_) hs_)); have n5_ := Aside0.mk (Kept.then_ (S := (fun k_ => P0_0_ k_ ∨ P0_1_ k_ ∨ P0_2_ k_ ∨ P0_3_ k_)) (by repeat (first | (with_reducible first | exact HK.out | apply Kept.alloc | apply Kept.drewN | apply Kept.drew | refine Kept.setCell ?_ (.inr GW180.out) _) | exact HK.out)) hkp (fun k_ hs_ => (fun e_ => (HO0_2.out.1 k_ e_.symm)) hs_)); have n6_ := Aside0.mk (hb); clear HO0_0; clear HO0_1; clear HO0_2; clear HO0_3; clear BK180; clear HK; clear HB; have HO0_0 := n0_; have HO0_1 := n1_; have HO0_2 := n2_; have HO0_3 := n3_; have BK180 := n4_; have HK := n5_; have HB := n6_; clear n0_ n1_ n2_ n3_ n4_ n5_ n6_; (try clear hb); (try clear hkp); (try clear hy0); have hcz18_0 : w17.cell? ⟨gb180, 0, none⟩ = some (.slice Ao7 l0_0.length co7) := (blk_cell BK180.out 0).trans rfl; have hcz18_1 : w17.cell? ⟨gb180, 1, none⟩ = some (.slice Ao8 l0_1.length co8) := (blk_cell BK180.out 1).trans rfl; have hcz18_2 : w17.cell? ⟨gb180, 2, none⟩ = some (.slice Ao9 l0_2.length co9) := (blk_cell BK180.out 2).trans rfl; have hcz18_3 : w17.cell? ⟨gb180, 3, none⟩ = some (.slice Ao10 l0_3.length co10) := (blk_cell BK180.out 3).trans rfl; have hfz18_0 := blk_frozen BK180.out 0; have hfz18_1 := blk_frozen BK180.out 1; have hfz18_2 := blk_frozen BK180.out 2; have hfz18_3 := blk_frozen BK180.out 3) | ((with_reducible refine gate_callee (f := 103) rfl ?_); refine goesL_ (some 20) rfl rfl Try.func103 (by kernel_rfl) rfl #[.slice Ao10 l0_3.length co10, .int .i64 t185] rfl (by (try simp only [List.map_toArray, List.map_cons, List.map_nil]); first | done | rfl | (simp only [List.length_drop, List.length_take]; rfl)) ?_; (with_reducible refine (laws_markEdgeS.calls k (fun k_ => some k_ = (.slice Ao10 l0_3.length co10 : Value).ownBlock) (.slice Ao10 l0_3.length co10) l0_3 t185 t187 t188 w0 _ ?side1 ?side2 A6.out).mono ?_); (case side1 => repeat (first | (with_reducible first | exact HB.out | apply below_alloc | apply pw_below_drewN | apply below_drew1 | refine below_set ?_ GE180.out) | exact HB.out)); (case side2 => exact Kd.R_tight rfl HO0_3.out); rintro e w19 ⟨rfl, hy0, hb, hkp⟩; refine ⟨_, rfl, ?_⟩; have n0_ := Aside0.mk (Kd.R_mono (ok' := fun k_ => ((P0_0_ k_ ∨ P0_1_ k_ ∨ P0_2_ k_ ∨ P0_3_ k_) ∨ w.heap.size ≤ k_) ∧ some k_ ≠ (.slice Ao8 l0_1.length co8 : Value).ownBlock) (Kd.R_keptB ((Kd.R_apart' HO0_0.out (Kd.R_typed HO0_3.out) (by decide))) hkp (fun k_ hk_ hs_ => (hk_.2) hs_)) (fun k_ hk_ => (by revert hk_; (try simp only [and_imp]); intros; (repeat' apply And.intro) <;> assumption))); have n1_ := Aside0.mk (Kd.R_mono (ok' := fun k_ => ((P0_0_ k_ ∨ P0_1_ k_ ∨ P0_2_ k_ ∨ P0_3_ k_) ∨ w.heap.size ≤ k_) ∧ some k_ ≠ (.slice Ao7 l0_0.length co7 : Value).ownBlock) (Kd.R_keptB ((Kd.R_apart' HO0_1.out (Kd.R_typed HO0_3.out) (by decide))) hkp (fun k_ hk_ hs_ => (hk_.2) hs_)) (fun k_ hk_ => (by revert hk_; (try simp only [and_imp]); intros; (repeat' apply And.intro) <;> assumption))); have n2_ := Aside0.mk (Kd.R_mono (ok' := fun k_ => ((P0_0_ k_ ∨ P0_1_ k_ ∨ P0_2_ k_ ∨ P0_3_ k_) ∨ w.heap.size ≤ k_)) (Kd.R_keptB ((Kd.R_apart' HO0_2.out (Kd.R_typed HO0_3.out) (by decide))) hkp (fun k_ hk_ hs_ => (hk_.2) hs_)) (fun k_ hk_ => hk_.1.1)); have n3_ := Aside0.mk (Kd.R_reok rfl hy0 (fun k_ e_ => HO0_3.out.1 k_ e_)); have n4_ := Aside0.mk (blk_kept (by (with_reducible repeat (first | refine blk_drewN ?_ _ | refine blk_drew ?_ | refine blk_alloc ?_ _)); exact BK180.out) hkp (fun hs_ => (fun e_ => (Kd.R_ne HO0_3.out BK180.out (by decide)) e_) hs_)); have n5_ := Aside0.mk (Kept.then_ (S := (fun k_ => P0_0_ k_ ∨ P0_1_ k_ ∨ P0_2_ k_ ∨ P0_3_ k_)) (by repeat (first | (with_reducible first | exact HK.out | apply Kept.alloc | apply Kept.drewN | apply Kept.drew | refine Kept.setCell ?_ (.inr GW180.out) _) | exact HK.out)) hkp (fun k_ hs_ => (fun e_ => (HO0_3.out.1 k_ e_.symm)) hs_)); have n6_ := Aside0.mk (hb); clear HO0_0; clear HO0_1; clear HO0_2; clear HO0_3; clear BK180; clear HK; clear HB; have HO0_0 := n0_; have HO0_1 := n1_; have HO0_2 := n2_; have HO0_3 := n3_; have BK180 := n4_; have HK := n5_; have HB := n6_; clear n0_ n1_ n2_ n3_ n4_ n5_ n6_; (try clear hb); (try clear hkp); (try clear hy0)))
  go_ret
  exact ⟨by first | rfl | (simp [errW_none, errW_some] <;> rfl) | (simp [*, errW_none, errW_some] <;> rfl), by (with_reducible repeat (first | apply Kd.R_alloc | apply Kd.R_drewN | apply Kd.R_drew)); exact Kd.R_mono HO0_0.out (fun _ hk => hk.1), by (with_reducible repeat (first | apply Kd.R_alloc | apply Kd.R_drewN | apply Kd.R_drew)); exact Kd.R_mono HO0_1.out (fun _ hk => hk.1), by (with_reducible repeat (first | apply Kd.R_alloc | apply Kd.R_drewN | apply Kd.R_drew)); exact HO0_2.out, by (with_reducible repeat (first | apply Kd.R_alloc | apply Kd.R_drewN | apply Kd.R_drew)); exact HO0_3.out, by repeat (first | (with_reducible first | exact HB.out | apply below_alloc | apply pw_below_drewN | apply below_drew1 | refine below_set ?_ GE180.out) | exact HB.out), by repeat (first | (with_reducible first | exact HK.out | apply Kept.alloc | apply Kept.drewN | apply Kept.drew | refine Kept.setCell ?_ (.inr GW180.out) _) | exact HK.out)⟩

/-! ### laws_heldIntS: function 51 -/
def laws_heldIntS.l0 : Nat → List Int → Int → Int → Option (Int)
  | 0, _, _, _ => none
  | k + 1, x0, x1, x5 => if x5 < (x0.length : Int) then (if 0 ≤ x5 then (if (rd x0 x5) = x1 then (laws_heldIntS.l0 k x0 (wrap64 (x1 + 1)) (wrap64 (x5 + 1))) else (some (-1))) else (none)) else (some x1)
def laws_heldIntS.f (k : Nat) (l0 : List Int) (a1 : Int) : Option (Int) := laws_heldIntS.l0 k l0 a1 0
theorem laws_heldIntS.mono_l : ∀ k, (∀ y0 y1 y2, LeO (laws_heldIntS.l0 k y0 y1 y2) (laws_heldIntS.l0 (k + 1) y0 y1 y2))
  | 0 => fun _ _ _ r h => by simp [laws_heldIntS.l0] at h
  | k + 1 => by
    have ih0 := laws_heldIntS.mono_l k
    · intro y0 y1 y2
      unfold laws_heldIntS.l0
      repeat' first
      | (with_reducible exact ih0 _ _ _)
      | (with_reducible exact LeO.refl _)
      | (with_reducible exact LeO.none _)
      | (with_reducible refine LeO.ite ?_ ?_)
      | (with_reducible refine LeO.bind ?_ (fun _ => ?_))
      | exact ih0 _ _ _
      | exact LeO.none _
      | refine LeO.ite ?_ ?_
      | refine LeO.bind ?_ (fun _ => ?_)
theorem laws_heldIntS.mono : ∀ a0 a1 k, LeO (laws_heldIntS.f k a0 a1) (laws_heldIntS.f (k + 1) a0 a1) := by
  intro a0 a1 k
  have ih0 := laws_heldIntS.mono_l k
  unfold laws_heldIntS.f
  repeat' first
      | (with_reducible exact ih0 _ _ _)
      | (with_reducible exact LeO.refl _)
      | (with_reducible exact LeO.none _)
      | (with_reducible refine LeO.ite ?_ ?_)
      | (with_reducible refine LeO.bind ?_ (fun _ => ?_))
      | exact ih0 _ _ _
      | exact LeO.none _
      | refine LeO.ite ?_ ?_
      | refine LeO.bind ?_ (fun _ => ?_)
set_option maxHeartbeats 8000000 in
set_option maxRecDepth 100000 in
theorem laws_heldIntS.calls (k : Nat) (A0 : Option Addr) (c0 : Nat) (l0 : List Int) (a1 : Int) (r : Int) (w : World) (hr0 : Kd.C (Kd.int .i64) w A0 l0.length l0) (hc0 : l0.length ≤ c0) (h : laws_heldIntS.f k l0 a1 = some r) :
    Calls Try.prog 51 #[.slice A0 l0.length c0, .int .i64 a1] w fun e w' => e = .returned (.int .i64 r) ∧ Drawn0 w w' := by
  have HR0 := Aside0.mk hr0
  have HC0 := Aside0.mk hc0
  clear hr0 hc0
  have H : (laws_heldIntS.l0 k l0 a1 0) = some r := h
  clear h
  have H' := Aside0.mk H
  clear H
  go_enter Try.func51, Try.ntmps51
  go_wp2
  go_loopg [1, 5] k (fun kq v1 v5 w' => ∃ (x1_1 : Int) (x5_1 : Int), v1 = .int .i64 x1_1 ∧ v5 = .int .i64 x5_1 ∧ Aside0 (laws_heldIntS.l0 kq l0 x1_1 x5_1 = some r) ∧ Aside0 (kq ≤ k) ∧ Drawn0 w w')
  case atStart => exact ⟨(a1), (0), (by first | rfl | (simp; done) | (simp [*]; done)), (by first | rfl | (simp; done) | (simp [*]; done)), H', ⟨Nat.le_refl _⟩, by repeat (first | exact Drawn0.refl _ | apply Drawn0.step)⟩
  case round =>
    clear H'
    try clear p2
    obtain ⟨x1_1, x5_1, rfl, rfl, HA, HK1, ⟨m1, rfl⟩⟩ := hrel
    cases gk with
    | zero => exact absurd HA.out (by simp [laws_heldIntS.l0])
    | succ k1 =>
      have H := HA.out
      clear HA
      simp only [laws_heldIntS.l0] at H
      by_cases c3 : x5_1 < (l0.length : Int)
      · rw [if_pos c3] at H
        have c3b0 : decide (x5_1 < (l0.length : Int)) = true := decide_eq_true c3
        clear c3
        by_cases c4 : 0 ≤ x5_1
        · rw [if_pos c4] at H
          have c4b0 : decide (0 ≤ x5_1) = true := decide_eq_true c4
          clear c4
          by_cases c5 : (rd l0 x5_1) = x1_1
          · rw [if_pos c5] at H
            have c5b0 : ((rd l0 x5_1) == x1_1) = true := beq_iff_eq.mpr c5
            have c5b1 : ((rd l0 x5_1) != x1_1) = false := bne_eq_false_iff_eq.mpr c5
            clear c5
            have H' := Aside0.mk H
            clear H
            have p189 : 0 ≤ (x5_1 : Int) := of_decide_eq_true (by first | (with_reducible assumption) | assumption)
            have q189 : x5_1 < (l0.length : Int) := of_decide_eq_true (by first | (with_reducible assumption) | assumption)
            obtain ⟨ad189, e189, hx189_0⟩ := Kd.at_int HR0.out x5_1 p189 q189
            cases e189
            replace p189 := eq_true p189
            replace q189 := eq_true q189
            go_wp2
            go_roundg k1
            case measure => have := HK1.out; omega
            case rel => exact ⟨(wrap64 (x1_1 + 1)), (wrap64 (x5_1 + 1)), (by first | rfl | (simp; done) | (simp [*]; done)), (by first | rfl | (simp; done) | (simp [*]; done)), H', ⟨by have := HK1.out; omega⟩, by repeat (first | exact Drawn0.refl _ | apply Drawn0.step)⟩
          · rw [if_neg c5] at H
            have c5b0 : ((rd l0 x5_1) == x1_1) = false := beq_eq_false_iff_ne.mpr c5
            have c5b1 : ((rd l0 x5_1) != x1_1) = true := bne_iff_ne.mpr c5
            obtain rfl := Option.some.inj H
            have p189 : 0 ≤ (x5_1 : Int) := of_decide_eq_true (by first | (with_reducible assumption) | assumption)
            have q189 : x5_1 < (l0.length : Int) := of_decide_eq_true (by first | (with_reducible assumption) | assumption)
            obtain ⟨ad189, e189, hx189_0⟩ := Kd.at_int HR0.out x5_1 p189 q189
            cases e189
            replace p189 := eq_true p189
            replace q189 := eq_true q189
            go_wp2
            go_ret
            exact ⟨by first | rfl | (simp; done) | (simp [*]; done), by repeat (first | exact Drawn0.refl _ | apply Drawn0.step)⟩
        · rw [if_neg c4] at H
          exact absurd H (by simp)
      · rw [if_neg c3] at H
        have c3b0 : decide (x5_1 < (l0.length : Int)) = false := decide_eq_false c3
        clear c3
        obtain rfl := Option.some.inj H
        go_wp2
        go_ret
        exact ⟨by first | rfl | (simp; done) | (simp [*]; done), by repeat (first | exact Drawn0.refl _ | apply Drawn0.step)⟩

end Go.Proofs.Ytnmccgjdnceheaa.PFnExactFlowOut
