import Derived.Test.YtpjbmgoagehjkaaZDfaInfinitex0
namespace Go.Proofs.Ytpjbmgoagehjkaa.PDfaInfinite
open Go.RowKit Go.Proofs.YtpjbmgoagehjkaaH Go.Proofs.YtpjbmgoagehjkaaW.PrintWords Go.Proofs.YtpjbmgoagehjkaaW.PrintLast Go.Proofs.YtpjbmgoagehjkaaW.PrintMore
attribute [local go_sem] max2_int min2_int max_two min_two max_three min_three max_four min_four   -- for this text's walks alone
set_option linter.unusedVariables false
set_option linter.unusedSimpArgs false
/-! ### dfa_search: function 48 -/
mutual
def dfa_search.l0 : Nat → List Int → Int → Int → Int → Int → List Bool → List (List Int) → Option (List Int × List Int × List Int × List Int)
 | 0, _, _, _, _, _, _, _ => none
 | k + 1, x5, x15, x16, x205000, x205001, x205002, x205003 => if x16 < x15 then (if 0 ≤ x16 then (if x16 < (x5.length : Int) then (dfa_search.l0 k (x5.set (x16 : Int).toNat (-1)) x15 (wrap64 (x16 + 1)) x205000 x205001 x205002 x205003) else (none)) else (none)) else (if 0 ≤ x205001 then (if x205001 < (x5.length : Int) then (dfa_search.l1 k (([x205001] : List Int)) (([(-1)] : List Int)) (([(-1)] : List Int)) (x5.set (x205001 : Int).toNat 0) 0 x205000 x205001 x205002 x205003) else (none)) else (none))
def dfa_search.l1 : Nat → List Int → List Int → List Int → List Int → Int → Int → Int → List Bool → List (List Int) → Option (List Int × List Int × List Int × List Int)
 | 0, _, _, _, _, _, _, _, _, _ => none
 | k + 1, x2, x3, x4, x5, x7, x205000, x205001, x205002, x205003 => if x7 < (x2.length : Int) then (if 0 ≤ x7 then (if 0 ≤ (rd x2 x7) then (if (rd x2 x7) < (x205003.length : Int) then (dfa_search.l2 k x2 x3 x4 x5 x7 (rd_L1 x205003 (rd x2 x7)) ((rd_L1 x205003 (rd x2 x7)).length : Int) 0 x205000 x205001 x205002 x205003) else (none)) else (none)) else (none)) else (some (x2, x3, x4, x5))
def dfa_search.l2 : Nat → List Int → List Int → List Int → List Int → Int → List Int → Int → Int → Int → Int → List Bool → List (List Int) → Option (List Int × List Int × List Int × List Int)
 | 0, _, _, _, _, _, _, _, _, _, _, _, _ => none
 | k + 1, x2, x3, x4, x5, x7, x45, x46, x47, x205000, x205001, x205002, x205003 => if x47 < x46 then (if 0 ≤ x47 then (if x47 < (x45.length : Int) then (if 0 ≤ (rd x45 x47) then (if (rd x45 x47) < (x5.length : Int) then (if (rd x5 (rd x45 x47)) < 0 then (if x2.length < 17592186044416 then (if x3.length < 17592186044416 then (if x4.length < 17592186044416 then (dfa_search.l2 k (x2 ++ [rd x45 x47]) (x3 ++ [x7]) (x4 ++ [x47]) (x5.set ((rd x45 x47) : Int).toNat (x2.length : Int)) x7 x45 x46 (wrap64 (x47 + 1)) x205000 x205001 x205002 x205003) else (none)) else (none)) else (none)) else (dfa_search.l2 k x2 x3 x4 x5 x7 x45 x46 (wrap64 (x47 + 1)) x205000 x205001 x205002 x205003)) else (none)) else (none)) else (none)) else (none)) else (dfa_search.l1 k x2 x3 x4 x5 (wrap64 (x7 + 1)) x205000 x205001 x205002 x205003)
end
def dfa_search.f (k : Nat) (a0_0 : Int) (a0_1 : Int) (l0_2 : List Bool) (l0_3 : List (List Int)) : Option (List Int × List Int × List Int × List Int) := if 0 ≤ (l0_2.length : Int) then (if ((l0_2.length : Int) : Int).toNat ≤ 35184372088832 then ((some (List.replicate ((l0_2.length : Int) : Int).toNat 0 : List Int)).bind fun y205 => (dfa_search.l0 k y205 (y205.length : Int) 0 a0_0 a0_1 l0_2 l0_3)) else (none)) else (none)
theorem dfa_search.mono_l : ∀ k, (∀ y0 y1 y2 y3 y4 y5 y6, LeO (dfa_search.l0 k y0 y1 y2 y3 y4 y5 y6) (dfa_search.l0 (k + 1) y0 y1 y2 y3 y4 y5 y6)) ∧ (∀ y0 y1 y2 y3 y4 y5 y6 y7 y8, LeO (dfa_search.l1 k y0 y1 y2 y3 y4 y5 y6 y7 y8) (dfa_search.l1 (k + 1) y0 y1 y2 y3 y4 y5 y6 y7 y8)) ∧ (∀ y0 y1 y2 y3 y4 y5 y6 y7 y8 y9 y10 y11, LeO (dfa_search.l2 k y0 y1 y2 y3 y4 y5 y6 y7 y8 y9 y10 y11) (dfa_search.l2 (k + 1) y0 y1 y2 y3 y4 y5 y6 y7 y8 y9 y10 y11))
 | 0 => ⟨fun _ _ _ _ _ _ _ r h => by simp [dfa_search.l0] at h, fun _ _ _ _ _ _ _ _ _ r h => by simp [dfa_search.l1] at h, fun _ _ _ _ _ _ _ _ _ _ _ _ r h => by simp [dfa_search.l2] at h⟩
 | k + 1 => by
  obtain ⟨ih0, ih1, ih2⟩ := dfa_search.mono_l k
  refine ⟨?_, ?_, ?_⟩
  (focus
  intro y0 y1 y2 y3 y4 y5 y6
  unfold dfa_search.l0
  repeat' first
  | (with_reducible exact ih0 _ _ _ _ _ _ _)
  | (with_reducible exact ih1 _ _ _ _ _ _ _ _ _)
  | (with_reducible exact ih2 _ _ _ _ _ _ _ _ _ _ _ _)
  | (with_reducible exact LeO.refl _)
  | (with_reducible exact LeO.none _)
  | (with_reducible refine LeO.ite ?_ ?_)
  | (with_reducible refine LeO.bind ?_ (fun _ => ?_))
  | exact ih0 _ _ _ _ _ _ _
  | exact ih1 _ _ _ _ _ _ _ _ _
  | exact ih2 _ _ _ _ _ _ _ _ _ _ _ _
  | exact LeO.none _
  | refine LeO.ite ?_ ?_
  | refine LeO.bind ?_ (fun _ => ?_)
  )
  (focus
  intro y0 y1 y2 y3 y4 y5 y6 y7 y8
  unfold dfa_search.l1
  repeat' first
  | (with_reducible exact ih0 _ _ _ _ _ _ _)
  | (with_reducible exact ih1 _ _ _ _ _ _ _ _ _)
  | (with_reducible exact ih2 _ _ _ _ _ _ _ _ _ _ _ _)
  | (with_reducible exact LeO.refl _)
  | (with_reducible exact LeO.none _)
  | (with_reducible refine LeO.ite ?_ ?_)
  | (with_reducible refine LeO.bind ?_ (fun _ => ?_))
  | exact ih0 _ _ _ _ _ _ _
  | exact ih1 _ _ _ _ _ _ _ _ _
  | exact ih2 _ _ _ _ _ _ _ _ _ _ _ _
  | exact LeO.none _
  | refine LeO.ite ?_ ?_
  | refine LeO.bind ?_ (fun _ => ?_)
  )
  (focus
  intro y0 y1 y2 y3 y4 y5 y6 y7 y8 y9 y10 y11
  unfold dfa_search.l2
  repeat' first
  | (with_reducible exact ih0 _ _ _ _ _ _ _)
  | (with_reducible exact ih1 _ _ _ _ _ _ _ _ _)
  | (with_reducible exact ih2 _ _ _ _ _ _ _ _ _ _ _ _)
  | (with_reducible exact LeO.refl _)
  | (with_reducible exact LeO.none _)
  | (with_reducible refine LeO.ite ?_ ?_)
  | (with_reducible refine LeO.bind ?_ (fun _ => ?_))
  | exact ih0 _ _ _ _ _ _ _
  | exact ih1 _ _ _ _ _ _ _ _ _
  | exact ih2 _ _ _ _ _ _ _ _ _ _ _ _
  | exact LeO.none _
  | refine LeO.ite ?_ ?_
  | refine LeO.bind ?_ (fun _ => ?_)
  )
theorem dfa_search.mono : ∀ a0 a1 a2 a3 k, LeO (dfa_search.f k a0 a1 a2 a3) (dfa_search.f (k + 1) a0 a1 a2 a3) := by
 intro a0 a1 a2 a3 k
 obtain ⟨ih0, ih1, ih2⟩ := dfa_search.mono_l k
 unfold dfa_search.f
 repeat' first
  | (with_reducible exact ih0 _ _ _ _ _ _ _)
  | (with_reducible exact ih1 _ _ _ _ _ _ _ _ _)
  | (with_reducible exact ih2 _ _ _ _ _ _ _ _ _ _ _ _)
  | (with_reducible exact LeO.refl _)
  | (with_reducible exact LeO.none _)
  | (with_reducible refine LeO.ite ?_ ?_)
  | (with_reducible refine LeO.bind ?_ (fun _ => ?_))
  | exact ih0 _ _ _ _ _ _ _
  | exact ih1 _ _ _ _ _ _ _ _ _
  | exact ih2 _ _ _ _ _ _ _ _ _ _ _ _
  | exact LeO.none _
  | refine LeO.ite ?_ ?_
  | refine LeO.bind ?_ (fun _ => ?_)
set_option maxHeartbeats 8000000 in
set_option maxRecDepth 100000 in
theorem dfa_search.calls (k : Nat) (a0_0 : Int) (a0_1 : Int) (A0_2 : Option Addr) (c0_2 : Nat) (l0_2 : List Bool) (A0_3 : Option Addr) (c0_3 : Nat) (l0_3 : List (List Int)) (r1 : List Int) (r2 : List Int) (r3 : List Int) (r4 : List Int) (w : World) (hr0_2 : Kd.C Kd.bool w A0_2 l0_2.length l0_2) (hc0_2 : l0_2.length ≤ c0_2) (hr0_3 : Kd.C (Kd.slice 3 (Kd.int .i64)) w A0_3 l0_3.length l0_3) (hc0_3 : l0_3.length ≤ c0_3) (h : dfa_search.f k a0_0 a0_1 l0_2 l0_3 = some (r1, r2, r3, r4)) :
 Calls Try.prog 48 #[.agg #[.int .i64 a0_0, .int .i64 a0_1, .slice A0_2 l0_2.length c0_2, .slice A0_3 l0_3.length c0_3]] w fun e w' => ∃ v0_ v1_ v2_ v3_ : Value, e = .returned (.tuple #[v0_, v1_, v2_, v3_]) ∧ Kd.R (Kd.int .i64) 3 w' w.heap.size (fun k_ => some k_ ≠ (v1_ : Value).ownBlock ∧ some k_ ≠ (v2_ : Value).ownBlock ∧ some k_ ≠ (v3_ : Value).ownBlock) v0_ r1 ∧ Kd.R (Kd.int .i64) 3 w' w.heap.size (fun k_ => some k_ ≠ (v0_ : Value).ownBlock ∧ some k_ ≠ (v2_ : Value).ownBlock ∧ some k_ ≠ (v3_ : Value).ownBlock) v1_ r2 ∧ Kd.R (Kd.int .i64) 3 w' w.heap.size (fun k_ => some k_ ≠ (v0_ : Value).ownBlock ∧ some k_ ≠ (v1_ : Value).ownBlock ∧ some k_ ≠ (v3_ : Value).ownBlock) v2_ r3 ∧ Kd.R (Kd.int .i64) 3 w' w.heap.size (fun k_ => some k_ ≠ (v0_ : Value).ownBlock ∧ some k_ ≠ (v1_ : Value).ownBlock ∧ some k_ ≠ (v2_ : Value).ownBlock) v3_ r4 ∧ Below w.heap.size w w' := by
 have hu25 := Try.underlying25
 have HR0_2 := Aside0.mk hr0_2
 have HC0_2 := Aside0.mk hc0_2
 clear hr0_2 hc0_2
 have HR0_3 := Aside0.mk hr0_3
 have HC0_3 := Aside0.mk hc0_3
 clear hr0_3 hc0_3
 have HB := Aside0.mk (Below.refl w.heap.size w)
 have H : (if 0 ≤ (l0_2.length : Int) then (if ((l0_2.length : Int) : Int).toNat ≤ 35184372088832 then ((some (List.replicate ((l0_2.length : Int) : Int).toNat 0 : List Int)).bind fun y205 => (dfa_search.l0 k y205 (y205.length : Int) 0 a0_0 a0_1 l0_2 l0_3)) else (none)) else (none)) = some (r1, r2, r3, r4) := h
 clear h
 by_cases c2 : 0 ≤ (l0_2.length : Int)
 (focus
 rw [if_pos c2] at H
 have c2b0 := eq_true c2
 have c2b1 : decide (0 ≤ (l0_2.length : Int)) = true := decide_eq_true c2
 clear c2
 by_cases c3 : ((l0_2.length : Int) : Int).toNat ≤ 35184372088832
 (focus
 rw [if_pos c3] at H
 have c3b0 := eq_true c3
 have c3b1 : decide (((l0_2.length : Int) : Int).toNat ≤ 35184372088832) = true := decide_eq_true c3
 clear c3
 obtain ⟨y205, hy205⟩ : ∃ y_ : List Int, y_ = (List.replicate ((l0_2.length : Int) : Int).toNat 0) := ⟨_, rfl⟩
 replace H : (dfa_search.l0 k y205 (y205.length : Int) 0 a0_0 a0_1 l0_2 l0_3) = some (r1, r2, r3, r4) := by first | (rw [hy205]; with_reducible exact H) | (have H2_ := (Option.bind_some _ _).symm.trans H; rw [hy205]; with_reducible exact H2_) | (have H2_ := (Option.bind_some _ _).symm.trans H; with_reducible exact H2_) | with_reducible exact H | (rw [hy205]; exact H) | exact H
 have Ny205 := Aside0.mk hy205
 clear hy205
 have H' := Aside0.mk H
 clear H
 go_enter Try.func48, Try.ntmps48
 go_wp2_with (first | ((with_reducible refine gate_dst (N := 1) rfl ?_); refine box_event ?hg (N := 1) ?hd (cs := #[.int .i64 a0_0, .int .i64 a0_1, .slice A0_2 l0_2.length c0_2, .slice A0_3 l0_3.length c0_3]) (t := 25) ?hr ?_; (case hd => rfl); (case hg => rfl); (case hr => first | (go_simp; done) | (go_simp; rfl)); intro gb204 hg w4 hbox hb; have n0_ := Aside0.mk (below_step (by repeat (first | (with_reducible first | exact HB.out | apply below_alloc | apply pw_below_drewN | apply below_drew1) | exact HB.out)) hb); have n1_ := Aside0.mk (hbox); have n2_ := Aside0.mk ((by rw [hg]; exact (below_size (by repeat (first | (with_reducible first | exact HB.out | apply below_alloc | apply pw_below_drewN | apply below_drew1) | exact HB.out))) : w.heap.size ≤ gb204)); have n3_ := Aside0.mk ((by rw [hg]; exact (below_size (by repeat (first | (with_reducible first | exact HB.out | apply below_alloc | apply pw_below_drewN | apply below_drew1) | exact HB.out))) : w.heap.size ≤ gb204)); clear HB; have HB := n0_; have BK204 := n1_; have GW204 := n2_; have GE204 := n3_; clear n0_ n1_ n2_ n3_; clear hb hbox hg; have hcz5_0 : w4.cell? ⟨gb204, 0, none⟩ = some (.int .i64 a0_0) := (blk_cell BK204.out 0).trans rfl; have hcz5_1 : w4.cell? ⟨gb204, 1, none⟩ = some (.int .i64 a0_1) := (blk_cell BK204.out 1).trans rfl; have hcz5_2 : w4.cell? ⟨gb204, 2, none⟩ = some (.slice A0_2 l0_2.length c0_2) := (blk_cell BK204.out 2).trans rfl; have hcz5_3 : w4.cell? ⟨gb204, 3, none⟩ = some (.slice A0_3 l0_3.length c0_3) := (blk_cell BK204.out 3).trans rfl; have hfz5_0 := blk_frozen BK204.out 0; have hfz5_1 := blk_frozen BK204.out 1; have hfz5_2 := blk_frozen BK204.out 2; have hfz5_3 := blk_frozen BK204.out 3) | ((with_reducible refine gate_dst (N := 13) rfl ?_); refine Kd.R_make (Kd.int .i64) _ 3 rfl (N := 13) rfl 38 _ _ rfl (l0_2.length : Int) rfl rfl Try.underlying38 (.int .i64 0) 8 info3 rfl (by decide) (by omega) 0 (ok := fun _ => True) (okp := fun _ => True) rfl (fun _ hk => hk) trivial (of_decide_eq_true (by first | (with_reducible assumption) | assumption)) (Nat.le_trans (Nat.mul_le_mul_right _ (of_decide_eq_true (by first | (with_reducible assumption) | assumption) : (l0_2.length : Int).toNat ≤ 35184372088832)) (by omega)) (Below.refl _ _) (Nat.le_refl _) ?_; intro v206 w6 ho7 hb hg_ hnew_; clear hg_ hnew_; (first | rw [← Ny205.out] at ho7 | (simp only [Int.reduceToNat] at ho7; rw [← Ny205.out] at ho7)); have n0_ := Aside0.mk (Kd.R_lower ho7 (below_size (by repeat (first | (with_reducible first | exact HB.out | apply below_alloc | apply pw_below_drewN | apply below_drew1 | refine below_set ?_ GE204.out) | exact HB.out)))); have n1_ := Aside0.mk (blk_below (g := gb204) (o := .cells #[.int .i64 a0_0, .int .i64 a0_1, .slice A0_2 l0_2.length c0_2, .slice A0_3 l0_3.length c0_3] 25 (0, 0)) (uB BK204.out) hb); have n2_ := Aside0.mk (below_step (by repeat (first | (with_reducible first | exact HB.out | apply below_alloc | apply pw_below_drewN | apply below_drew1 | refine below_set ?_ GE204.out) | exact HB.out)) hb); clear BK204; clear HB; have HO207 := n0_; have BK204 := n1_; have HB := n2_; clear n0_ n1_ n2_; clear hb ho7; obtain ⟨Ao8, co8, eo8⟩ := Kd.R_slice HO207.out; subst eo8))
 repeat (go_quiet (first | ((with_reducible refine gate_dst (N := 1) rfl ?_); refine box_event ?hg (N := 1) ?hd (cs := #[.int .i64 a0_0, .int .i64 a0_1, .slice A0_2 l0_2.length c0_2, .slice A0_3 l0_3.length c0_3]) (t := 25) ?hr ?_; (case hd => rfl); (case hg => rfl); (case hr => first | (go_simp; done) | (go_simp; rfl)); intro gb204 hg w4 hbox hb; have n0_ := Aside0.mk (below_step (by repeat (first | (with_reducible first | exact HB.out | apply below_alloc | apply pw_below_drewN | apply below_drew1) | exact HB.out)) hb); have n1_ := Aside0.mk (hbox); have n2_ := Aside0.mk ((by rw [hg]; exact (below_size (by repeat (first | (with_reducible first | exact HB.out | apply below_alloc | apply pw_below_drewN | apply below_drew1) | exact HB.out))) : w.heap.size ≤ gb204)); have n3_ := Aside0.mk ((by rw [hg]; exact (below_size (by repeat (first | (with_reducible first | exact HB.out | apply below_alloc | apply pw_below_drewN | apply below_drew1) | exact HB.out))) : w.heap.size ≤ gb204)); clear HB; have HB := n0_; have BK204 := n1_; have GW204 := n2_; have GE204 := n3_; clear n0_ n1_ n2_ n3_; clear hb hbox hg; have hcz5_0 : w4.cell? ⟨gb204, 0, none⟩ = some (.int .i64 a0_0) := (blk_cell BK204.out 0).trans rfl; have hcz5_1 : w4.cell? ⟨gb204, 1, none⟩ = some (.int .i64 a0_1) := (blk_cell BK204.out 1).trans rfl; have hcz5_2 : w4.cell? ⟨gb204, 2, none⟩ = some (.slice A0_2 l0_2.length c0_2) := (blk_cell BK204.out 2).trans rfl; have hcz5_3 : w4.cell? ⟨gb204, 3, none⟩ = some (.slice A0_3 l0_3.length c0_3) := (blk_cell BK204.out 3).trans rfl; have hfz5_0 := blk_frozen BK204.out 0; have hfz5_1 := blk_frozen BK204.out 1; have hfz5_2 := blk_frozen BK204.out 2; have hfz5_3 := blk_frozen BK204.out 3) | ((with_reducible refine gate_dst (N := 13) rfl ?_); refine Kd.R_make (Kd.int .i64) _ 3 rfl (N := 13) rfl 38 _ _ rfl (l0_2.length : Int) rfl rfl Try.underlying38 (.int .i64 0) 8 info3 rfl (by decide) (by omega) 0 (ok := fun _ => True) (okp := fun _ => True) rfl (fun _ hk => hk) trivial (of_decide_eq_true (by first | (with_reducible assumption) | assumption)) (Nat.le_trans (Nat.mul_le_mul_right _ (of_decide_eq_true (by first | (with_reducible assumption) | assumption) : (l0_2.length : Int).toNat ≤ 35184372088832)) (by omega)) (Below.refl _ _) (Nat.le_refl _) ?_; intro v206 w6 ho7 hb hg_ hnew_; clear hg_ hnew_; (first | rw [← Ny205.out] at ho7 | (simp only [Int.reduceToNat] at ho7; rw [← Ny205.out] at ho7)); have n0_ := Aside0.mk (Kd.R_lower ho7 (below_size (by repeat (first | (with_reducible first | exact HB.out | apply below_alloc | apply pw_below_drewN | apply below_drew1 | refine below_set ?_ GE204.out) | exact HB.out)))); have n1_ := Aside0.mk (blk_below (g := gb204) (o := .cells #[.int .i64 a0_0, .int .i64 a0_1, .slice A0_2 l0_2.length c0_2, .slice A0_3 l0_3.length c0_3] 25 (0, 0)) (uB BK204.out) hb); have n2_ := Aside0.mk (below_step (by repeat (first | (with_reducible first | exact HB.out | apply below_alloc | apply pw_below_drewN | apply below_drew1 | refine below_set ?_ GE204.out) | exact HB.out)) hb); clear BK204; clear HB; have HO207 := n0_; have BK204 := n1_; have HB := n2_; clear n0_ n1_ n2_; clear hb ho7; obtain ⟨Ao8, co8, eo8⟩ := Kd.R_slice HO207.out; subst eo8)); try go_wp2_with (first | ((with_reducible refine gate_dst (N := 1) rfl ?_); refine box_event ?hg (N := 1) ?hd (cs := #[.int .i64 a0_0, .int .i64 a0_1, .slice A0_2 l0_2.length c0_2, .slice A0_3 l0_3.length c0_3]) (t := 25) ?hr ?_; (case hd => rfl); (case hg => rfl); (case hr => first | (go_simp; done) | (go_simp; rfl)); intro gb204 hg w4 hbox hb; have n0_ := Aside0.mk (below_step (by repeat (first | (with_reducible first | exact HB.out | apply below_alloc | apply pw_below_drewN | apply below_drew1) | exact HB.out)) hb); have n1_ := Aside0.mk (hbox); have n2_ := Aside0.mk ((by rw [hg]; exact (below_size (by repeat (first | (with_reducible first | exact HB.out | apply below_alloc | apply pw_below_drewN | apply below_drew1) | exact HB.out))) : w.heap.size ≤ gb204)); have n3_ := Aside0.mk ((by rw [hg]; exact (below_size (by repeat (first | (with_reducible first | exact HB.out | apply below_alloc | apply pw_below_drewN | apply below_drew1) | exact HB.out))) : w.heap.size ≤ gb204)); clear HB; have HB := n0_; have BK204 := n1_; have GW204 := n2_; have GE204 := n3_; clear n0_ n1_ n2_ n3_; clear hb hbox hg; have hcz5_0 : w4.cell? ⟨gb204, 0, none⟩ = some (.int .i64 a0_0) := (blk_cell BK204.out 0).trans rfl; have hcz5_1 : w4.cell? ⟨gb204, 1, none⟩ = some (.int .i64 a0_1) := (blk_cell BK204.out 1).trans rfl; have hcz5_2 : w4.cell? ⟨gb204, 2, none⟩ = some (.slice A0_2 l0_2.length c0_2) := (blk_cell BK204.out 2).trans rfl; have hcz5_3 : w4.cell? ⟨gb204, 3, none⟩ = some (.slice A0_3 l0_3.length c0_3) := (blk_cell BK204.out 3).trans rfl; have hfz5_0 := blk_frozen BK204.out 0; have hfz5_1 := blk_frozen BK204.out 1; have hfz5_2 := blk_frozen BK204.out 2; have hfz5_3 := blk_frozen BK204.out 3) | ((with_reducible refine gate_dst (N := 13) rfl ?_); refine Kd.R_make (Kd.int .i64) _ 3 rfl (N := 13) rfl 38 _ _ rfl (l0_2.length : Int) rfl rfl Try.underlying38 (.int .i64 0) 8 info3 rfl (by decide) (by omega) 0 (ok := fun _ => True) (okp := fun _ => True) rfl (fun _ hk => hk) trivial (of_decide_eq_true (by first | (with_reducible assumption) | assumption)) (Nat.le_trans (Nat.mul_le_mul_right _ (of_decide_eq_true (by first | (with_reducible assumption) | assumption) : (l0_2.length : Int).toNat ≤ 35184372088832)) (by omega)) (Below.refl _ _) (Nat.le_refl _) ?_; intro v206 w6 ho7 hb hg_ hnew_; clear hg_ hnew_; (first | rw [← Ny205.out] at ho7 | (simp only [Int.reduceToNat] at ho7; rw [← Ny205.out] at ho7)); have n0_ := Aside0.mk (Kd.R_lower ho7 (below_size (by repeat (first | (with_reducible first | exact HB.out | apply below_alloc | apply pw_below_drewN | apply below_drew1 | refine below_set ?_ GE204.out) | exact HB.out)))); have n1_ := Aside0.mk (blk_below (g := gb204) (o := .cells #[.int .i64 a0_0, .int .i64 a0_1, .slice A0_2 l0_2.length c0_2, .slice A0_3 l0_3.length c0_3] 25 (0, 0)) (uB BK204.out) hb); have n2_ := Aside0.mk (below_step (by repeat (first | (with_reducible first | exact HB.out | apply below_alloc | apply pw_below_drewN | apply below_drew1 | refine below_set ?_ GE204.out) | exact HB.out)) hb); clear BK204; clear HB; have HO207 := n0_; have BK204 := n1_; have HB := n2_; clear n0_ n1_ n2_; clear hb ho7; obtain ⟨Ao8, co8, eo8⟩ := Kd.R_slice HO207.out; subst eo8)))
 go_loopg [16] k (fun kq v16 w' => ∃ (x5_1 : List Int) (x16_1 : Int), v16 = .int .i64 x16_1 ∧ Aside0 (dfa_search.l0 kq x5_1 (y205.length : Int) x16_1 a0_0 a0_1 l0_2 l0_3 = some (r1, r2, r3, r4)) ∧ Aside0 (kq ≤ k) ∧ Aside0 (Kd.R (Kd.int .i64) 3 w' w.heap.size (fun _ => True) (.slice Ao8 y205.length co8) x5_1) ∧ Aside0 (w'.heap[gb204]? = some (.cells #[.int .i64 a0_0, .int .i64 a0_1, (.slice A0_2 l0_2.length c0_2), (.slice A0_3 l0_3.length c0_3)] 25 (0, 0))) ∧ Aside0 (Below w.heap.size w w'))
 case atStart => exact ⟨(y205), (0), (by first | rfl | (simp; done) | (simp [*]; done)), H', ⟨Nat.le_refl _⟩, ⟨by (with_reducible repeat (first | apply Kd.R_alloc | apply Kd.R_drewN | apply Kd.R_drew)); exact HO207.out⟩, ⟨by (with_reducible repeat (first | refine blk_drewN ?_ _ | refine blk_drew ?_ | refine blk_alloc ?_ _)); exact BK204.out⟩, ⟨by repeat (first | (with_reducible first | exact HB.out | apply below_alloc | apply pw_below_drewN | apply below_drew1 | refine below_set ?_ GE204.out) | exact HB.out)⟩⟩
 case round =>
  clear H'
  try clear c2
  try clear c2b0
  try clear c2b1
  try clear p2
  try clear c3
  try clear c3b0
  try clear c3b1
  try clear c4
  try clear hcz5_0
  try clear hcz5_1
  try clear hcz5_2
  try clear hcz5_3
  try clear hfz5_0
  try clear hfz5_1
  try clear hfz5_2
  try clear hfz5_3
  obtain ⟨x5_1, x16_1, rfl, HA, HK1, HO_5, BK204, HB⟩ := hrel
  have hl5_1 := (Kd.R_reads' HO_5.out).1
  rw [hl5_1] at HO_5
  (try simp only [hl5_1])
  (try simp only [hl5_1] at BK204)
  cases gk with
  | zero => exact absurd HA.out (by simp [dfa_search.l0])
  | succ k1 =>
   have H := HA.out
   clear HA
   simp only [dfa_search.l0] at H
   by_cases c9 : x16_1 < (y205.length : Int)
   (focus
   rw [if_pos c9] at H
   have c9b0 : decide (x16_1 < (y205.length : Int)) = true := decide_eq_true c9
   (try (have c9b0_hl5_1 := c9b0; simp only [hl5_1] at c9b0_hl5_1))
   clear c9
   by_cases c10 : 0 ≤ x16_1
   (focus
   rw [if_pos c10] at H
   have c10b0 : decide (0 ≤ x16_1) = true := decide_eq_true c10
   clear c10
   by_cases c11 : x16_1 < (x5_1.length : Int)
   (focus
   rw [if_pos c11] at H
   have c11b0 : decide (x16_1 < (x5_1.length : Int)) = true := decide_eq_true c11
   (try (have c11b0_hl5_1 := c11b0; simp only [hl5_1] at c11b0_hl5_1))
   clear c11
   obtain ⟨y208, hy208⟩ : ∃ y_ : List Int, y_ = (x5_1.set (x16_1 : Int).toNat (-1)) := ⟨_, rfl⟩
   replace H : (dfa_search.l0 k1 y208 (y205.length : Int) (wrap64 (x16_1 + 1)) a0_0 a0_1 l0_2 l0_3) = some (r1, r2, r3, r4) := by first | (rw [hy208]; with_reducible exact H) | (have H2_ := (Option.bind_some _ _).symm.trans H; rw [hy208]; with_reducible exact H2_) | (have H2_ := (Option.bind_some _ _).symm.trans H; with_reducible exact H2_) | with_reducible exact H | (rw [hy208]; exact H) | exact H
   have Ny208 := Aside0.mk hy208
   clear hy208
   have H' := Aside0.mk H
   clear H
   have p12 : 0 ≤ (x16_1 : Int) := of_decide_eq_true (by first | (with_reducible assumption) | assumption)
   have q12 : (x16_1 : Int) < ((x5_1.length : Int) : Int) := of_decide_eq_true (by first | (with_reducible assumption) | assumption)
   obtain ⟨go12, co12, eo12, gb12, gl12, cl12, HG12⟩ := Kd.R_form HO_5.out (by first | omega | (have e_ := (Kd.R_reads' HO_5.out).1; omega))
   (first | cases eo12 | (injection eo12 with ea_ en_ ec_; (first | subst ea_ | (injection ea_ with ea_; subst ea_)); subst ec_; clear en_))
   have GB12 := Aside0.mk gb12
   have GG12 := Aside0.mk HG12
   clear gb12 gl12 HG12
   obtain ⟨hx12_0, hf12_0⟩ := Kd.R_celln 0 HO_5.out (x16_1 : Int) p12 q12
   replace p12 := eq_true p12
   replace q12 := eq_true q12
   have HP13 := Kd.R_putg HO_5.out (x16_1 : Int) (-1)
   go_wp2_with (first | ((with_reducible refine gate_store (t := 3) (p := 21) rfl ?_); (try (rw [drewN_self wr]; generalize hq_ : World.drewN wr _ = wr; have n0_ := Aside0.mk (Kd.R_at hq_ HO_5.out); have n1_ := Aside0.mk (blk_at hq_ BK204.out); have n2_ := Aside0.mk (below_at hq_ HB.out); clear hq_ HO_5 BK204 HB; have HO_5 := n0_; have BK204 := n1_; have HB := n2_; clear n0_ n1_ n2_; (try (have HP13 := Kd.R_putg HO_5.out (x16_1 : Int) (-1))))); refine store_event (t := 3) (p := 21) (v := ?vo_w14) (w1 := (wr.setCell ⟨go12, (x16_1 : Int).toNat, none⟩ (.int .i64 (-1)))) ?hg ?ho ?hn ?hr ?_; (case ho => rfl); (case hg => rfl); (case hn => rfl); (case hr => first | (go_simp; done) | (go_simp; rfl)); intro w14 hw; have hg : wr.grownBy w14 (some go12) := (by rw [hw]; exact HP13.2); have hp_ : Kd.R (Kd.int .i64) 3 w14 w.heap.size (fun _ => True) (.slice (some ⟨go12, 0, none⟩) x5_1.length co8) y208 := (by rw [hw, Ny208.out]; exact HP13.1); clear HP13; have n0_ := Aside0.mk (hp_); have n1_ := Aside0.mk (blk_grown (g := gb204) (o := .cells #[.int .i64 a0_0, .int .i64 a0_1, .slice A0_2 l0_2.length c0_2, .slice A0_3 l0_3.length c0_3] 25 (0, 0)) (uB BK204.out) hg (Kd.R_ne HO_5.out BK204.out (by decide))); have n2_ := Aside0.mk ((by rw [hw]; exact below_set (HB.out) GB12.out : Below w.heap.size w w14)); clear HO_5; clear BK204; clear HB; have HO_5 := n0_; have BK204 := n1_; have HB := n2_; clear n0_ n1_ n2_; clear hg hw hp_))
   repeat (go_quiet (first | ((with_reducible refine gate_store (t := 3) (p := 21) rfl ?_); (try (rw [drewN_self wr]; generalize hq_ : World.drewN wr _ = wr; have n0_ := Aside0.mk (Kd.R_at hq_ HO_5.out); have n1_ := Aside0.mk (blk_at hq_ BK204.out); have n2_ := Aside0.mk (below_at hq_ HB.out); clear hq_ HO_5 BK204 HB; have HO_5 := n0_; have BK204 := n1_; have HB := n2_; clear n0_ n1_ n2_; (try (have HP13 := Kd.R_putg HO_5.out (x16_1 : Int) (-1))))); refine store_event (t := 3) (p := 21) (v := ?vo_w14) (w1 := (wr.setCell ⟨go12, (x16_1 : Int).toNat, none⟩ (.int .i64 (-1)))) ?hg ?ho ?hn ?hr ?_; (case ho => rfl); (case hg => rfl); (case hn => rfl); (case hr => first | (go_simp; done) | (go_simp; rfl)); intro w14 hw; have hg : wr.grownBy w14 (some go12) := (by rw [hw]; exact HP13.2); have hp_ : Kd.R (Kd.int .i64) 3 w14 w.heap.size (fun _ => True) (.slice (some ⟨go12, 0, none⟩) x5_1.length co8) y208 := (by rw [hw, Ny208.out]; exact HP13.1); clear HP13; have n0_ := Aside0.mk (hp_); have n1_ := Aside0.mk (blk_grown (g := gb204) (o := .cells #[.int .i64 a0_0, .int .i64 a0_1, .slice A0_2 l0_2.length c0_2, .slice A0_3 l0_3.length c0_3] 25 (0, 0)) (uB BK204.out) hg (Kd.R_ne HO_5.out BK204.out (by decide))); have n2_ := Aside0.mk ((by rw [hw]; exact below_set (HB.out) GB12.out : Below w.heap.size w w14)); clear HO_5; clear BK204; clear HB; have HO_5 := n0_; have BK204 := n1_; have HB := n2_; clear n0_ n1_ n2_; clear hg hw hp_)); try go_wp2_with (first | ((with_reducible refine gate_store (t := 3) (p := 21) rfl ?_); (try (rw [drewN_self wr]; generalize hq_ : World.drewN wr _ = wr; have n0_ := Aside0.mk (Kd.R_at hq_ HO_5.out); have n1_ := Aside0.mk (blk_at hq_ BK204.out); have n2_ := Aside0.mk (below_at hq_ HB.out); clear hq_ HO_5 BK204 HB; have HO_5 := n0_; have BK204 := n1_; have HB := n2_; clear n0_ n1_ n2_; (try (have HP13 := Kd.R_putg HO_5.out (x16_1 : Int) (-1))))); refine store_event (t := 3) (p := 21) (v := ?vo_w14) (w1 := (wr.setCell ⟨go12, (x16_1 : Int).toNat, none⟩ (.int .i64 (-1)))) ?hg ?ho ?hn ?hr ?_; (case ho => rfl); (case hg => rfl); (case hn => rfl); (case hr => first | (go_simp; done) | (go_simp; rfl)); intro w14 hw; have hg : wr.grownBy w14 (some go12) := (by rw [hw]; exact HP13.2); have hp_ : Kd.R (Kd.int .i64) 3 w14 w.heap.size (fun _ => True) (.slice (some ⟨go12, 0, none⟩) x5_1.length co8) y208 := (by rw [hw, Ny208.out]; exact HP13.1); clear HP13; have n0_ := Aside0.mk (hp_); have n1_ := Aside0.mk (blk_grown (g := gb204) (o := .cells #[.int .i64 a0_0, .int .i64 a0_1, .slice A0_2 l0_2.length c0_2, .slice A0_3 l0_3.length c0_3] 25 (0, 0)) (uB BK204.out) hg (Kd.R_ne HO_5.out BK204.out (by decide))); have n2_ := Aside0.mk ((by rw [hw]; exact below_set (HB.out) GB12.out : Below w.heap.size w w14)); clear HO_5; clear BK204; clear HB; have HO_5 := n0_; have BK204 := n1_; have HB := n2_; clear n0_ n1_ n2_; clear hg hw hp_)))
   (try simp only [← hl5_1])
   go_roundg k1
   case measure => have := HK1.out; omega
   case rel => exact ⟨(y208), (wrap64 (x16_1 + 1)), (by first | rfl | (simp; done) | (simp [*]; done)), H', ⟨by have := HK1.out; omega⟩, ⟨by (try simp only [hl5_1]); (with_reducible repeat (first | apply Kd.R_alloc | apply Kd.R_drewN | apply Kd.R_drew)); exact HO_5.out⟩, ⟨by (try simp only [hl5_1]); (with_reducible repeat (first | refine blk_drewN ?_ _ | refine blk_drew ?_ | refine blk_alloc ?_ _)); exact BK204.out⟩, ⟨by repeat (first | (with_reducible first | exact HB.out | apply below_alloc | apply pw_below_drewN | apply below_drew1 | refine below_set ?_ GE204.out) | exact HB.out)⟩⟩
   )
   (focus
   rw [if_neg c11] at H
   exact absurd H (by simp)
   )
   )
   (focus
   rw [if_neg c10] at H
   exact absurd H (by simp)
   )
   )
   (focus
   rw [if_neg c9] at H
   have c9b0 : decide (x16_1 < (y205.length : Int)) = false := decide_eq_false c9
   (try (have c9b0_hl5_1 := c9b0; simp only [hl5_1] at c9b0_hl5_1))
   clear c9
   by_cases c15 : 0 ≤ a0_1
   (focus
   rw [if_pos c15] at H
   have c15b0 : decide (0 ≤ a0_1) = true := decide_eq_true c15
   clear c15
   by_cases c16 : a0_1 < (x5_1.length : Int)
   (focus
   rw [if_pos c16] at H
   have c16b0 : decide (a0_1 < (x5_1.length : Int)) = true := decide_eq_true c16
   (try (have c16b0_hl5_1 := c16b0; simp only [hl5_1] at c16b0_hl5_1))
   clear c16
   obtain ⟨y209, hy209⟩ : ∃ y_ : List Int, y_ = (x5_1.set (a0_1 : Int).toNat 0) := ⟨_, rfl⟩
   replace H : (dfa_search.l1 k1 (([a0_1] : List Int)) (([(-1)] : List Int)) (([(-1)] : List Int)) y209 0 a0_0 a0_1 l0_2 l0_3) = some (r1, r2, r3, r4) := by first | (rw [hy209]; with_reducible exact H) | (have H2_ := (Option.bind_some _ _).symm.trans H; rw [hy209]; with_reducible exact H2_) | (have H2_ := (Option.bind_some _ _).symm.trans H; with_reducible exact H2_) | with_reducible exact H | (rw [hy209]; exact H) | exact H
   have Ny209 := Aside0.mk hy209
   clear hy209
   obtain ⟨y210, hy210⟩ : ∃ y_ : List Int, y_ = (([a0_1] : List Int)) := ⟨_, rfl⟩
   replace H : (dfa_search.l1 k1 y210 (([(-1)] : List Int)) (([(-1)] : List Int)) y209 0 a0_0 a0_1 l0_2 l0_3) = some (r1, r2, r3, r4) := by first | (rw [hy210]; with_reducible exact H) | (have H2_ := (Option.bind_some _ _).symm.trans H; rw [hy210]; with_reducible exact H2_) | (have H2_ := (Option.bind_some _ _).symm.trans H; with_reducible exact H2_) | with_reducible exact H | (rw [hy210]; exact H) | exact H
   have Ny210 := Aside0.mk hy210
   clear hy210
   obtain ⟨y213, hy213⟩ : ∃ y_ : List Int, y_ = (([(-1)] : List Int)) := ⟨_, rfl⟩
   replace H : (dfa_search.l1 k1 y210 y213 (([(-1)] : List Int)) y209 0 a0_0 a0_1 l0_2 l0_3) = some (r1, r2, r3, r4) := by first | (rw [hy213]; with_reducible exact H) | (have H2_ := (Option.bind_some _ _).symm.trans H; rw [hy213]; with_reducible exact H2_) | (have H2_ := (Option.bind_some _ _).symm.trans H; with_reducible exact H2_) | with_reducible exact H | (rw [hy213]; exact H) | exact H
   have Ny213 := Aside0.mk hy213
   clear hy213
   obtain ⟨y216, hy216⟩ : ∃ y_ : List Int, y_ = (([(-1)] : List Int)) := ⟨_, rfl⟩
   replace H : (dfa_search.l1 k1 y210 y213 y216 y209 0 a0_0 a0_1 l0_2 l0_3) = some (r1, r2, r3, r4) := by first | (rw [hy216]; with_reducible exact H) | (have H2_ := (Option.bind_some _ _).symm.trans H; rw [hy216]; with_reducible exact H2_) | (have H2_ := (Option.bind_some _ _).symm.trans H; with_reducible exact H2_) | with_reducible exact H | (rw [hy216]; exact H) | exact H
   have Ny216 := Aside0.mk hy216
   clear hy216
   have H' := Aside0.mk H
   clear H
   have hcz18_0 : wr.cell? ⟨gb204, 0, none⟩ = some (.int .i64 a0_0) := (blk_cell BK204.out 0).trans rfl
   have hcz18_1 : wr.cell? ⟨gb204, 1, none⟩ = some (.int .i64 a0_1) := (blk_cell BK204.out 1).trans rfl
   have hcz18_2 : wr.cell? ⟨gb204, 2, none⟩ = some (.slice A0_2 l0_2.length c0_2) := (blk_cell BK204.out 2).trans rfl
   have hcz18_3 : wr.cell? ⟨gb204, 3, none⟩ = some (.slice A0_3 l0_3.length c0_3) := (blk_cell BK204.out 3).trans rfl
   have hfz18_0 := blk_frozen BK204.out 0
   have hfz18_1 := blk_frozen BK204.out 1
   have hfz18_2 := blk_frozen BK204.out 2
   have hfz18_3 := blk_frozen BK204.out 3
   have p17 : 0 ≤ (a0_1 : Int) := of_decide_eq_true (by first | (with_reducible assumption) | assumption)
   have q17 : (a0_1 : Int) < ((x5_1.length : Int) : Int) := of_decide_eq_true (by first | (with_reducible assumption) | assumption)
   obtain ⟨go17, co17, eo17, gb17, gl17, cl17, HG17⟩ := Kd.R_form HO_5.out (by first | omega | (have e_ := (Kd.R_reads' HO_5.out).1; omega))
   (first | cases eo17 | (injection eo17 with ea_ en_ ec_; (first | subst ea_ | (injection ea_ with ea_; subst ea_)); subst ec_; clear en_))
   have GB17 := Aside0.mk gb17
   have GG17 := Aside0.mk HG17
   clear gb17 gl17 HG17
   obtain ⟨hx17_0, hf17_0⟩ := Kd.R_celln 0 HO_5.out (a0_1 : Int) p17 q17
   replace p17 := eq_true p17
   replace q17 := eq_true q17
   have HP19 := Kd.R_putg HO_5.out (a0_1 : Int) 0
   go_wp2_with (first | ((with_reducible refine gate_store (t := 3) (p := 26) rfl ?_); (try (rw [drewN_self wr]; generalize hq_ : World.drewN wr _ = wr; have n0_ := Aside0.mk (Kd.R_at hq_ HO_5.out); have n1_ := Aside0.mk (blk_at hq_ BK204.out); have n2_ := Aside0.mk (below_at hq_ HB.out); clear hq_ HO_5 BK204 HB; have HO_5 := n0_; have BK204 := n1_; have HB := n2_; clear n0_ n1_ n2_; (try (have HP19 := Kd.R_putg HO_5.out (a0_1 : Int) 0)))); refine store_event (t := 3) (p := 26) (v := ?vo_w20) (w1 := (wr.setCell ⟨go17, (a0_1 : Int).toNat, none⟩ (.int .i64 0))) ?hg ?ho ?hn ?hr ?_; (case ho => rfl); (case hg => rfl); (case hn => rfl); (case hr => first | (go_simp; done) | (go_simp; rfl)); intro w20 hw; have hg : wr.grownBy w20 (some go17) := (by rw [hw]; exact HP19.2); have hp_ : Kd.R (Kd.int .i64) 3 w20 w.heap.size (fun _ => True) (.slice (some ⟨go17, 0, none⟩) x5_1.length co8) y209 := (by rw [hw, Ny209.out]; exact HP19.1); clear HP19; have n0_ := Aside0.mk (hp_); have n1_ := Aside0.mk (blk_grown (g := gb204) (o := .cells #[.int .i64 a0_0, .int .i64 a0_1, .slice A0_2 l0_2.length c0_2, .slice A0_3 l0_3.length c0_3] 25 (0, 0)) (uB BK204.out) hg (Kd.R_ne HO_5.out BK204.out (by decide))); have n2_ := Aside0.mk ((by rw [hw]; exact below_set (HB.out) GB17.out : Below w.heap.size w w20)); clear HO_5; clear BK204; clear HB; have HO_5 := n0_; have BK204 := n1_; have HB := n2_; clear n0_ n1_ n2_; clear hg hw hp_; have hcz21_0 : w20.cell? ⟨gb204, 0, none⟩ = some (.int .i64 a0_0) := (blk_cell BK204.out 0).trans rfl; have hcz21_1 : w20.cell? ⟨gb204, 1, none⟩ = some (.int .i64 a0_1) := (blk_cell BK204.out 1).trans rfl; have hcz21_2 : w20.cell? ⟨gb204, 2, none⟩ = some (.slice A0_2 l0_2.length c0_2) := (blk_cell BK204.out 2).trans rfl; have hcz21_3 : w20.cell? ⟨gb204, 3, none⟩ = some (.slice A0_3 l0_3.length c0_3) := (blk_cell BK204.out 3).trans rfl; have hfz21_0 := blk_frozen BK204.out 0; have hfz21_1 := blk_frozen BK204.out 1; have hfz21_2 := blk_frozen BK204.out 2; have hfz21_3 := blk_frozen BK204.out 3) | ((with_reducible refine gate_dst (N := 29) rfl ?_); refine Kd.R_lit (Kd.int .i64) _ 3 ?hg (N := 29) ?hd (xs := ([a0_1] : List Int)) (inner := [.int .i64 a0_1]) (ok := fun _ => True) (okp := fun _ => True) ?hr ?hp (fun _ hk => hk) trivial (Below.refl _ _) (Nat.le_refl _) (by simp) ?_; (case hd => rfl); (case hg => rfl); (case hr => first | (go_simp; done) | (go_simp; rfl)); (case hp => exact (Reps.one (show Kd.M (Kd.int .i64) _ _ _ a0_1 [.int .i64 a0_1] from rfl) (Reps.none _ _))); intro v211 w22 ho23 hb hg_ hnew_; clear hg_ hnew_; (first | rw [← Ny210.out] at ho23 | (simp only [Int.reduceToNat] at ho23; rw [← Ny210.out] at ho23)); have n0_ := Aside0.mk (Kd.R_elder' (uR HO_5.out) (Kd.R_base ho23) hb); have n1_ := Aside0.mk (Kd.R_lower (Kd.R_new' ho23 (Kd.R_lt (uR HO_5.out))) (below_size (by repeat (first | (with_reducible first | exact HB.out | apply below_alloc | apply pw_below_drewN | apply below_drew1 | refine below_set ?_ GE204.out) | exact HB.out)))); have n2_ := Aside0.mk (blk_below (g := gb204) (o := .cells #[.int .i64 a0_0, .int .i64 a0_1, .slice A0_2 l0_2.length c0_2, .slice A0_3 l0_3.length c0_3] 25 (0, 0)) (uB BK204.out) hb); have n3_ := Aside0.mk (below_step (by repeat (first | (with_reducible first | exact HB.out | apply below_alloc | apply pw_below_drewN | apply below_drew1 | refine below_set ?_ GE204.out) | exact HB.out)) hb); clear HO_5; clear BK204; clear HB; have HO_5 := n0_; have HO212 := n1_; have BK204 := n2_; have HB := n3_; clear n0_ n1_ n2_ n3_; clear hb ho23) | ((with_reducible refine gate_dst (N := 30) rfl ?_); refine Kd.R_lit (Kd.int .i64) _ 3 ?hg (N := 30) ?hd (xs := ([(-1)] : List Int)) (inner := [.int .i64 (-1)]) (ok := fun _ => True) (okp := fun _ => True) ?hr ?hp (fun _ hk => hk) trivial (Below.refl _ _) (Nat.le_refl _) (by simp) ?_; (case hd => rfl); (case hg => rfl); (case hr => first | (go_simp; done) | (go_simp; rfl)); (case hp => exact (Reps.one (show Kd.M (Kd.int .i64) _ _ _ (-1) [.int .i64 (-1)] from rfl) (Reps.none _ _))); intro v214 w24 ho25 hb hg_ hnew_; clear hg_ hnew_; (first | rw [← Ny213.out] at ho25 | (simp only [Int.reduceToNat] at ho25; rw [← Ny213.out] at ho25)); have n0_ := Aside0.mk (Kd.R_elder' (uR HO_5.out) (Kd.R_base ho25) hb); have n1_ := Aside0.mk (Kd.R_elder' (uR HO212.out) (Kd.R_base ho25) hb); have n2_ := Aside0.mk (Kd.R_lower (Kd.R_new' (Kd.R_new' ho25 (Kd.R_lt (uR HO_5.out))) (Kd.R_lt (uR HO212.out))) (below_size (by repeat (first | (with_reducible first | exact HB.out | apply below_alloc | apply pw_below_drewN | apply below_drew1 | refine below_set ?_ GE204.out) | exact HB.out)))); have n3_ := Aside0.mk (blk_below (g := gb204) (o := .cells #[.int .i64 a0_0, .int .i64 a0_1, .slice A0_2 l0_2.length c0_2, .slice A0_3 l0_3.length c0_3] 25 (0, 0)) (uB BK204.out) hb); have n4_ := Aside0.mk (below_step (by repeat (first | (with_reducible first | exact HB.out | apply below_alloc | apply pw_below_drewN | apply below_drew1 | refine below_set ?_ GE204.out) | exact HB.out)) hb); clear HO_5; clear HO212; clear BK204; clear HB; have HO_5 := n0_; have HO212 := n1_; have HO215 := n2_; have BK204 := n3_; have HB := n4_; clear n0_ n1_ n2_ n3_ n4_; clear hb ho25) | ((with_reducible refine gate_dst (N := 31) rfl ?_); refine Kd.R_lit (Kd.int .i64) _ 3 ?hg (N := 31) ?hd (xs := ([(-1)] : List Int)) (inner := [.int .i64 (-1)]) (ok := fun _ => True) (okp := fun _ => True) ?hr ?hp (fun _ hk => hk) trivial (Below.refl _ _) (Nat.le_refl _) (by simp) ?_; (case hd => rfl); (case hg => rfl); (case hr => first | (go_simp; done) | (go_simp; rfl)); (case hp => exact (Reps.one (show Kd.M (Kd.int .i64) _ _ _ (-1) [.int .i64 (-1)] from rfl) (Reps.none _ _))); intro v217 w26 ho27 hb hg_ hnew_; clear hg_ hnew_; (first | rw [← Ny216.out] at ho27 | (simp only [Int.reduceToNat] at ho27; rw [← Ny216.out] at ho27)); have n0_ := Aside0.mk (Kd.R_elder' (uR HO_5.out) (Kd.R_base ho27) hb); have n1_ := Aside0.mk (Kd.R_elder' (uR HO212.out) (Kd.R_base ho27) hb); have n2_ := Aside0.mk (Kd.R_elder' (uR HO215.out) (Kd.R_base ho27) hb); have n3_ := Aside0.mk (Kd.R_lower (Kd.R_new' (Kd.R_new' (Kd.R_new' ho27 (Kd.R_lt (uR HO_5.out))) (Kd.R_lt (uR HO212.out))) (Kd.R_lt (uR HO215.out))) (below_size (by repeat (first | (with_reducible first | exact HB.out | apply below_alloc | apply pw_below_drewN | apply below_drew1 | refine below_set ?_ GE204.out) | exact HB.out)))); have n4_ := Aside0.mk (blk_below (g := gb204) (o := .cells #[.int .i64 a0_0, .int .i64 a0_1, .slice A0_2 l0_2.length c0_2, .slice A0_3 l0_3.length c0_3] 25 (0, 0)) (uB BK204.out) hb); have n5_ := Aside0.mk (below_step (by repeat (first | (with_reducible first | exact HB.out | apply below_alloc | apply pw_below_drewN | apply below_drew1 | refine below_set ?_ GE204.out) | exact HB.out)) hb); clear HO_5; clear HO212; clear HO215; clear BK204; clear HB; have HO_5 := n0_; have HO212 := n1_; have HO215 := n2_; have HO218 := n3_; have BK204 := n4_; have HB := n5_; clear n0_ n1_ n2_ n3_ n4_ n5_; clear hb ho27))
   repeat (go_quiet (first | ((with_reducible refine gate_store (t := 3) (p := 26) rfl ?_); (try (rw [drewN_self wr]; generalize hq_ : World.drewN wr _ = wr; have n0_ := Aside0.mk (Kd.R_at hq_ HO_5.out); have n1_ := Aside0.mk (blk_at hq_ BK204.out); have n2_ := Aside0.mk (below_at hq_ HB.out); clear hq_ HO_5 BK204 HB; have HO_5 := n0_; have BK204 := n1_; have HB := n2_; clear n0_ n1_ n2_; (try (have HP19 := Kd.R_putg HO_5.out (a0_1 : Int) 0)))); refine store_event (t := 3) (p := 26) (v := ?vo_w20) (w1 := (wr.setCell ⟨go17, (a0_1 : Int).toNat, none⟩ (.int .i64 0))) ?hg ?ho ?hn ?hr ?_; (case ho => rfl); (case hg => rfl); (case hn => rfl); (case hr => first | (go_simp; done) | (go_simp; rfl)); intro w20 hw; have hg : wr.grownBy w20 (some go17) := (by rw [hw]; exact HP19.2); have hp_ : Kd.R (Kd.int .i64) 3 w20 w.heap.size (fun _ => True) (.slice (some ⟨go17, 0, none⟩) x5_1.length co8) y209 := (by rw [hw, Ny209.out]; exact HP19.1); clear HP19; have n0_ := Aside0.mk (hp_); have n1_ := Aside0.mk (blk_grown (g := gb204) (o := .cells #[.int .i64 a0_0, .int .i64 a0_1, .slice A0_2 l0_2.length c0_2, .slice A0_3 l0_3.length c0_3] 25 (0, 0)) (uB BK204.out) hg (Kd.R_ne HO_5.out BK204.out (by decide))); have n2_ := Aside0.mk ((by rw [hw]; exact below_set (HB.out) GB17.out : Below w.heap.size w w20)); clear HO_5; clear BK204; clear HB; have HO_5 := n0_; have BK204 := n1_; have HB := n2_; clear n0_ n1_ n2_; clear hg hw hp_; have hcz21_0 : w20.cell? ⟨gb204, 0, none⟩ = some (.int .i64 a0_0) := (blk_cell BK204.out 0).trans rfl; have hcz21_1 : w20.cell? ⟨gb204, 1, none⟩ = some (.int .i64 a0_1) := (blk_cell BK204.out 1).trans rfl; have hcz21_2 : w20.cell? ⟨gb204, 2, none⟩ = some (.slice A0_2 l0_2.length c0_2) := (blk_cell BK204.out 2).trans rfl; have hcz21_3 : w20.cell? ⟨gb204, 3, none⟩ = some (.slice A0_3 l0_3.length c0_3) := (blk_cell BK204.out 3).trans rfl; have hfz21_0 := blk_frozen BK204.out 0; have hfz21_1 := blk_frozen BK204.out 1; have hfz21_2 := blk_frozen BK204.out 2; have hfz21_3 := blk_frozen BK204.out 3) | ((with_reducible refine gate_dst (N := 29) rfl ?_); refine Kd.R_lit (Kd.int .i64) _ 3 ?hg (N := 29) ?hd (xs := ([a0_1] : List Int)) (inner := [.int .i64 a0_1]) (ok := fun _ => True) (okp := fun _ => True) ?hr ?hp (fun _ hk => hk) trivial (Below.refl _ _) (Nat.le_refl _) (by simp) ?_; (case hd => rfl); (case hg => rfl); (case hr => first | (go_simp; done) | (go_simp; rfl)); (case hp => exact (Reps.one (show Kd.M (Kd.int .i64) _ _ _ a0_1 [.int .i64 a0_1] from rfl) (Reps.none _ _))); intro v211 w22 ho23 hb hg_ hnew_; clear hg_ hnew_; (first | rw [← Ny210.out] at ho23 | (simp only [Int.reduceToNat] at ho23; rw [← Ny210.out] at ho23)); have n0_ := Aside0.mk (Kd.R_elder' (uR HO_5.out) (Kd.R_base ho23) hb); have n1_ := Aside0.mk (Kd.R_lower (Kd.R_new' ho23 (Kd.R_lt (uR HO_5.out))) (below_size (by repeat (first | (with_reducible first | exact HB.out | apply below_alloc | apply pw_below_drewN | apply below_drew1 | refine below_set ?_ GE204.out) | exact HB.out)))); have n2_ := Aside0.mk (blk_below (g := gb204) (o := .cells #[.int .i64 a0_0, .int .i64 a0_1, .slice A0_2 l0_2.length c0_2, .slice A0_3 l0_3.length c0_3] 25 (0, 0)) (uB BK204.out) hb); have n3_ := Aside0.mk (below_step (by repeat (first | (with_reducible first | exact HB.out | apply below_alloc | apply pw_below_drewN | apply below_drew1 | refine below_set ?_ GE204.out) | exact HB.out)) hb); clear HO_5; clear BK204; clear HB; have HO_5 := n0_; have HO212 := n1_; have BK204 := n2_; have HB := n3_; clear n0_ n1_ n2_ n3_; clear hb ho23) | ((with_reducible refine gate_dst (N := 30) rfl ?_); refine Kd.R_lit (Kd.int .i64) _ 3 ?hg (N := 30) ?hd (xs := ([(-1)] : List Int)) (inner := [.int .i64 (-1)]) (ok := fun _ => True) (okp := fun _ => True) ?hr ?hp (fun _ hk => hk) trivial (Below.refl _ _) (Nat.le_refl _) (by simp) ?_; (case hd => rfl); (case hg => rfl); (case hr => first | (go_simp; done) | (go_simp; rfl)); (case hp => exact (Reps.one (show Kd.M (Kd.int .i64) _ _ _ (-1) [.int .i64 (-1)] from rfl) (Reps.none _ _))); intro v214 w24 ho25 hb hg_ hnew_; clear hg_ hnew_; (first | rw [← Ny213.out] at ho25 | (simp only [Int.reduceToNat] at ho25; rw [← Ny213.out] at ho25)); have n0_ := Aside0.mk (Kd.R_elder' (uR HO_5.out) (Kd.R_base ho25) hb); have n1_ := Aside0.mk (Kd.R_elder' (uR HO212.out) (Kd.R_base ho25) hb); have n2_ := Aside0.mk (Kd.R_lower (Kd.R_new' (Kd.R_new' ho25 (Kd.R_lt (uR HO_5.out))) (Kd.R_lt (uR HO212.out))) (below_size (by repeat (first | (with_reducible first | exact HB.out | apply below_alloc | apply pw_below_drewN | apply below_drew1 | refine below_set ?_ GE204.out) | exact HB.out)))); have n3_ := Aside0.mk (blk_below (g := gb204) (o := .cells #[.int .i64 a0_0, .int .i64 a0_1, .slice A0_2 l0_2.length c0_2, .slice A0_3 l0_3.length c0_3] 25 (0, 0)) (uB BK204.out) hb); have n4_ := Aside0.mk (below_step (by repeat (first | (with_reducible first | exact HB.out | apply below_alloc | apply pw_below_drewN | apply below_drew1 | refine below_set ?_ GE204.out) | exact HB.out)) hb); clear HO_5; clear HO212; clear BK204; clear HB; have HO_5 := n0_; have HO212 := n1_; have HO215 := n2_; have BK204 := n3_; have HB := n4_; clear n0_ n1_ n2_ n3_ n4_; clear hb ho25) | ((with_reducible refine gate_dst (N := 31) rfl ?_); refine Kd.R_lit (Kd.int .i64) _ 3 ?hg (N := 31) ?hd (xs := ([(-1)] : List Int)) (inner := [.int .i64 (-1)]) (ok := fun _ => True) (okp := fun _ => True) ?hr ?hp (fun _ hk => hk) trivial (Below.refl _ _) (Nat.le_refl _) (by simp) ?_; (case hd => rfl); (case hg => rfl); (case hr => first | (go_simp; done) | (go_simp; rfl)); (case hp => exact (Reps.one (show Kd.M (Kd.int .i64) _ _ _ (-1) [.int .i64 (-1)] from rfl) (Reps.none _ _))); intro v217 w26 ho27 hb hg_ hnew_; clear hg_ hnew_; (first | rw [← Ny216.out] at ho27 | (simp only [Int.reduceToNat] at ho27; rw [← Ny216.out] at ho27)); have n0_ := Aside0.mk (Kd.R_elder' (uR HO_5.out) (Kd.R_base ho27) hb); have n1_ := Aside0.mk (Kd.R_elder' (uR HO212.out) (Kd.R_base ho27) hb); have n2_ := Aside0.mk (Kd.R_elder' (uR HO215.out) (Kd.R_base ho27) hb); have n3_ := Aside0.mk (Kd.R_lower (Kd.R_new' (Kd.R_new' (Kd.R_new' ho27 (Kd.R_lt (uR HO_5.out))) (Kd.R_lt (uR HO212.out))) (Kd.R_lt (uR HO215.out))) (below_size (by repeat (first | (with_reducible first | exact HB.out | apply below_alloc | apply pw_below_drewN | apply below_drew1 | refine below_set ?_ GE204.out) | exact HB.out)))); have n4_ := Aside0.mk (blk_below (g := gb204) (o := .cells #[.int .i64 a0_0, .int .i64 a0_1, .slice A0_2 l0_2.length c0_2, .slice A0_3 l0_3.length c0_3] 25 (0, 0)) (uB BK204.out) hb); have n5_ := Aside0.mk (below_step (by repeat (first | (with_reducible first | exact HB.out | apply below_alloc | apply pw_below_drewN | apply below_drew1 | refine below_set ?_ GE204.out) | exact HB.out)) hb); clear HO_5; clear HO212; clear HO215; clear BK204; clear HB; have HO_5 := n0_; have HO212 := n1_; have HO215 := n2_; have HO218 := n3_; have BK204 := n4_; have HB := n5_; clear n0_ n1_ n2_ n3_ n4_ n5_; clear hb ho27)); try go_wp2_with (first | ((with_reducible refine gate_store (t := 3) (p := 26) rfl ?_); (try (rw [drewN_self wr]; generalize hq_ : World.drewN wr _ = wr; have n0_ := Aside0.mk (Kd.R_at hq_ HO_5.out); have n1_ := Aside0.mk (blk_at hq_ BK204.out); have n2_ := Aside0.mk (below_at hq_ HB.out); clear hq_ HO_5 BK204 HB; have HO_5 := n0_; have BK204 := n1_; have HB := n2_; clear n0_ n1_ n2_; (try (have HP19 := Kd.R_putg HO_5.out (a0_1 : Int) 0)))); refine store_event (t := 3) (p := 26) (v := ?vo_w20) (w1 := (wr.setCell ⟨go17, (a0_1 : Int).toNat, none⟩ (.int .i64 0))) ?hg ?ho ?hn ?hr ?_; (case ho => rfl); (case hg => rfl); (case hn => rfl); (case hr => first | (go_simp; done) | (go_simp; rfl)); intro w20 hw; have hg : wr.grownBy w20 (some go17) := (by rw [hw]; exact HP19.2); have hp_ : Kd.R (Kd.int .i64) 3 w20 w.heap.size (fun _ => True) (.slice (some ⟨go17, 0, none⟩) x5_1.length co8) y209 := (by rw [hw, Ny209.out]; exact HP19.1); clear HP19; have n0_ := Aside0.mk (hp_); have n1_ := Aside0.mk (blk_grown (g := gb204) (o := .cells #[.int .i64 a0_0, .int .i64 a0_1, .slice A0_2 l0_2.length c0_2, .slice A0_3 l0_3.length c0_3] 25 (0, 0)) (uB BK204.out) hg (Kd.R_ne HO_5.out BK204.out (by decide))); have n2_ := Aside0.mk ((by rw [hw]; exact below_set (HB.out) GB17.out : Below w.heap.size w w20)); clear HO_5; clear BK204; clear HB; have HO_5 := n0_; have BK204 := n1_; have HB := n2_; clear n0_ n1_ n2_; clear hg hw hp_; have hcz21_0 : w20.cell? ⟨gb204, 0, none⟩ = some (.int .i64 a0_0) := (blk_cell BK204.out 0).trans rfl; have hcz21_1 : w20.cell? ⟨gb204, 1, none⟩ = some (.int .i64 a0_1) := (blk_cell BK204.out 1).trans rfl; have hcz21_2 : w20.cell? ⟨gb204, 2, none⟩ = some (.slice A0_2 l0_2.length c0_2) := (blk_cell BK204.out 2).trans rfl; have hcz21_3 : w20.cell? ⟨gb204, 3, none⟩ = some (.slice A0_3 l0_3.length c0_3) := (blk_cell BK204.out 3).trans rfl; have hfz21_0 := blk_frozen BK204.out 0; have hfz21_1 := blk_frozen BK204.out 1; have hfz21_2 := blk_frozen BK204.out 2; have hfz21_3 := blk_frozen BK204.out 3) | ((with_reducible refine gate_dst (N := 29) rfl ?_); refine Kd.R_lit (Kd.int .i64) _ 3 ?hg (N := 29) ?hd (xs := ([a0_1] : List Int)) (inner := [.int .i64 a0_1]) (ok := fun _ => True) (okp := fun _ => True) ?hr ?hp (fun _ hk => hk) trivial (Below.refl _ _) (Nat.le_refl _) (by simp) ?_; (case hd => rfl); (case hg => rfl); (case hr => first | (go_simp; done) | (go_simp; rfl)); (case hp => exact (Reps.one (show Kd.M (Kd.int .i64) _ _ _ a0_1 [.int .i64 a0_1] from rfl) (Reps.none _ _))); intro v211 w22 ho23 hb hg_ hnew_; clear hg_ hnew_; (first | rw [← Ny210.out] at ho23 | (simp only [Int.reduceToNat] at ho23; rw [← Ny210.out] at ho23)); have n0_ := Aside0.mk (Kd.R_elder' (uR HO_5.out) (Kd.R_base ho23) hb); have n1_ := Aside0.mk (Kd.R_lower (Kd.R_new' ho23 (Kd.R_lt (uR HO_5.out))) (below_size (by repeat (first | (with_reducible first | exact HB.out | apply below_alloc | apply pw_below_drewN | apply below_drew1 | refine below_set ?_ GE204.out) | exact HB.out)))); have n2_ := Aside0.mk (blk_below (g := gb204) (o := .cells #[.int .i64 a0_0, .int .i64 a0_1, .slice A0_2 l0_2.length c0_2, .slice A0_3 l0_3.length c0_3] 25 (0, 0)) (uB BK204.out) hb); have n3_ := Aside0.mk (below_step (by repeat (first | (with_reducible first | exact HB.out | apply below_alloc | apply pw_below_drewN | apply below_drew1 | refine below_set ?_ GE204.out) | exact HB.out)) hb); clear HO_5; clear BK204; clear HB; have HO_5 := n0_; have HO212 := n1_; have BK204 := n2_; have HB := n3_; clear n0_ n1_ n2_ n3_; clear hb ho23) | ((with_reducible refine gate_dst (N := 30) rfl ?_); refine Kd.R_lit (Kd.int .i64) _ 3 ?hg (N := 30) ?hd (xs := ([(-1)] : List Int)) (inner := [.int .i64 (-1)]) (ok := fun _ => True) (okp := fun _ => True) ?hr ?hp (fun _ hk => hk) trivial (Below.refl _ _) (Nat.le_refl _) (by simp) ?_; (case hd => rfl); (case hg => rfl); (case hr => first | (go_simp; done) | (go_simp; rfl)); (case hp => exact (Reps.one (show Kd.M (Kd.int .i64) _ _ _ (-1) [.int .i64 (-1)] from rfl) (Reps.none _ _))); intro v214 w24 ho25 hb hg_ hnew_; clear hg_ hnew_; (first | rw [← Ny213.out] at ho25 | (simp only [Int.reduceToNat] at ho25; rw [← Ny213.out] at ho25)); have n0_ := Aside0.mk (Kd.R_elder' (uR HO_5.out) (Kd.R_base ho25) hb); have n1_ := Aside0.mk (Kd.R_elder' (uR HO212.out) (Kd.R_base ho25) hb); have n2_ := Aside0.mk (Kd.R_lower (Kd.R_new' (Kd.R_new' ho25 (Kd.R_lt (uR HO_5.out))) (Kd.R_lt (uR HO212.out))) (below_size (by repeat (first | (with_reducible first | exact HB.out | apply below_alloc | apply pw_below_drewN | apply below_drew1 | refine below_set ?_ GE204.out) | exact HB.out)))); have n3_ := Aside0.mk (blk_below (g := gb204) (o := .cells #[.int .i64 a0_0, .int .i64 a0_1, .slice A0_2 l0_2.length c0_2, .slice A0_3 l0_3.length c0_3] 25 (0, 0)) (uB BK204.out) hb); have n4_ := Aside0.mk (below_step (by repeat (first | (with_reducible first | exact HB.out | apply below_alloc | apply pw_below_drewN | apply below_drew1 | refine below_set ?_ GE204.out) | exact HB.out)) hb); clear HO_5; clear HO212; clear BK204; clear HB; have HO_5 := n0_; have HO212 := n1_; have HO215 := n2_; have BK204 := n3_; have HB := n4_; clear n0_ n1_ n2_ n3_ n4_; clear hb ho25) | ((with_reducible refine gate_dst (N := 31) rfl ?_); refine Kd.R_lit (Kd.int .i64) _ 3 ?hg (N := 31) ?hd (xs := ([(-1)] : List Int)) (inner := [.int .i64 (-1)]) (ok := fun _ => True) (okp := fun _ => True) ?hr ?hp (fun _ hk => hk) trivial (Below.refl _ _) (Nat.le_refl _) (by simp) ?_; (case hd => rfl); (case hg => rfl); (case hr => first | (go_simp; done) | (go_simp; rfl)); (case hp => exact (Reps.one (show Kd.M (Kd.int .i64) _ _ _ (-1) [.int .i64 (-1)] from rfl) (Reps.none _ _))); intro v217 w26 ho27 hb hg_ hnew_; clear hg_ hnew_; (first | rw [← Ny216.out] at ho27 | (simp only [Int.reduceToNat] at ho27; rw [← Ny216.out] at ho27)); have n0_ := Aside0.mk (Kd.R_elder' (uR HO_5.out) (Kd.R_base ho27) hb); have n1_ := Aside0.mk (Kd.R_elder' (uR HO212.out) (Kd.R_base ho27) hb); have n2_ := Aside0.mk (Kd.R_elder' (uR HO215.out) (Kd.R_base ho27) hb); have n3_ := Aside0.mk (Kd.R_lower (Kd.R_new' (Kd.R_new' (Kd.R_new' ho27 (Kd.R_lt (uR HO_5.out))) (Kd.R_lt (uR HO212.out))) (Kd.R_lt (uR HO215.out))) (below_size (by repeat (first | (with_reducible first | exact HB.out | apply below_alloc | apply pw_below_drewN | apply below_drew1 | refine below_set ?_ GE204.out) | exact HB.out)))); have n4_ := Aside0.mk (blk_below (g := gb204) (o := .cells #[.int .i64 a0_0, .int .i64 a0_1, .slice A0_2 l0_2.length c0_2, .slice A0_3 l0_3.length c0_3] 25 (0, 0)) (uB BK204.out) hb); have n5_ := Aside0.mk (below_step (by repeat (first | (with_reducible first | exact HB.out | apply below_alloc | apply pw_below_drewN | apply below_drew1 | refine below_set ?_ GE204.out) | exact HB.out)) hb); clear HO_5; clear HO212; clear HO215; clear BK204; clear HB; have HO_5 := n0_; have HO212 := n1_; have HO215 := n2_; have HO218 := n3_; have BK204 := n4_; have HB := n5_; clear n0_ n1_ n2_ n3_ n4_ n5_; clear hb ho27)))
   go_loopg [2, 3, 4, 7] k1 (fun kq v2 v3 v4 v7 w' => ∃ (x2_2 : List Int) (x3_2 : List Int) (x4_2 : List Int) (x5_2 : List Int) (x7_2 : Int), v7 = .int .i64 x7_2 ∧ Aside0 (dfa_search.l1 kq x2_2 x3_2 x4_2 x5_2 x7_2 a0_0 a0_1 l0_2 l0_3 = some (r1, r2, r3, r4)) ∧ Aside0 (kq ≤ k1) ∧ Aside0 (Kd.R (Kd.int .i64) 3 w' w.heap.size (fun k_ => some k_ ≠ (v3 : Value).ownBlock ∧ some k_ ≠ (v4 : Value).ownBlock ∧ some k_ ≠ ((.slice (some ⟨go17, 0, none⟩) x5_1.length co8) : Value).ownBlock) v2 x2_2) ∧ Aside0 (Kd.R (Kd.int .i64) 3 w' w.heap.size (fun k_ => some k_ ≠ (v2 : Value).ownBlock ∧ some k_ ≠ (v4 : Value).ownBlock ∧ some k_ ≠ ((.slice (some ⟨go17, 0, none⟩) x5_1.length co8) : Value).ownBlock) v3 x3_2) ∧ Aside0 (Kd.R (Kd.int .i64) 3 w' w.heap.size (fun k_ => some k_ ≠ (v2 : Value).ownBlock ∧ some k_ ≠ (v3 : Value).ownBlock ∧ some k_ ≠ ((.slice (some ⟨go17, 0, none⟩) x5_1.length co8) : Value).ownBlock) v4 x4_2) ∧ Aside0 (Kd.R (Kd.int .i64) 3 w' w.heap.size (fun k_ => some k_ ≠ (v2 : Value).ownBlock ∧ some k_ ≠ (v3 : Value).ownBlock ∧ some k_ ≠ (v4 : Value).ownBlock) (.slice (some ⟨go17, 0, none⟩) x5_1.length co8) x5_2) ∧ Aside0 (w'.heap[gb204]? = some (.cells #[.int .i64 a0_0, .int .i64 a0_1, (.slice A0_2 l0_2.length c0_2), (.slice A0_3 l0_3.length c0_3)] 25 (0, 0))) ∧ Aside0 (Below w.heap.size w w'))
   case atStart => exact ⟨(y210), (y213), (y216), (y209), (0), (by first | rfl | (simp; done) | (simp [*]; done)), H', ⟨Nat.le_refl _⟩, ⟨by (try simp only [hl5_1]); (with_reducible repeat (first | apply Kd.R_alloc | apply Kd.R_drewN | apply Kd.R_drew)); exact Kd.R_mono HO212.out (fun _ hk => ⟨hk.1.2, ⟨hk.2, hk.1.1.2⟩⟩)⟩, ⟨by (try simp only [hl5_1]); (with_reducible repeat (first | apply Kd.R_alloc | apply Kd.R_drewN | apply Kd.R_drew)); exact Kd.R_mono HO215.out (fun _ hk => ⟨hk.1.2, ⟨hk.2, hk.1.1.2⟩⟩)⟩, ⟨by (try simp only [hl5_1]); (with_reducible repeat (first | apply Kd.R_alloc | apply Kd.R_drewN | apply Kd.R_drew)); exact Kd.R_mono HO218.out (fun _ hk => ⟨hk.1.2, ⟨hk.2, hk.1.1.2⟩⟩)⟩, ⟨by (try simp only [hl5_1]); (with_reducible repeat (first | apply Kd.R_alloc | apply Kd.R_drewN | apply Kd.R_drew)); exact Kd.R_mono HO_5.out (fun _ hk => ⟨hk.1.1.2, ⟨hk.1.2, hk.2⟩⟩)⟩, ⟨by (try simp only [hl5_1]); (with_reducible repeat (first | refine blk_drewN ?_ _ | refine blk_drew ?_ | refine blk_alloc ?_ _)); exact BK204.out⟩, ⟨by repeat (first | (with_reducible first | exact HB.out | apply below_alloc | apply pw_below_drewN | apply below_drew1 | refine below_set ?_ GE204.out) | exact HB.out)⟩⟩
   case round =>
    clear H'
    try clear c1
    try clear p1
    try clear q1
    try clear hx1
    try clear hf1
    try clear c2
    try clear c2b0
    try clear c2b1
    try clear p2
    try clear c3
    try clear c3b0
    try clear c3b1
    try clear c4
    try clear p6
    try clear c9
    try clear c9b0
    try clear c10
    try clear c10b0
    try clear c11
    try clear c11b0
    try clear p12
    try clear q12
    try clear hx12
    try clear hf12
    try clear c15
    try clear c15b0
    try clear c16
    try clear c16b0
    try clear p17
    try clear q17
    try clear hx17
    try clear hf17
    try clear hcz18_0
    try clear hcz18_1
    try clear hcz18_2
    try clear hcz18_3
    try clear hcz21_0
    try clear hcz21_1
    try clear hcz21_2
    try clear hcz21_3
    try clear hcz5_0
    try clear hcz5_1
    try clear hcz5_2
    try clear hcz5_3
    try clear hfz18_0
    try clear hfz18_1
    try clear hfz18_2
    try clear hfz18_3
    try clear hfz21_0
    try clear hfz21_1
    try clear hfz21_2
    try clear hfz21_3
    try clear hfz5_0
    try clear hfz5_1
    try clear hfz5_2
    try clear hfz5_3
    try clear hx12_0
    try clear hx17_0
    try clear p12
    try clear p17
    try clear p2
    try clear q12
    try clear q17
    obtain ⟨x2_2, x3_2, x4_2, x5_2, x7_2, rfl, HA, HK2, HO_2, HO_3, HO_4, HO_5, BK204, HB⟩ := hrel
    have hl5_2 := (Kd.R_reads' HO_5.out).1
    rw [hl5_2] at HO_5
    (try simp only [hl5_2])
    (try simp only [hl5_2] at BK204)
    (try simp only [hl5_2] at HO_2)
    (try simp only [hl5_2] at HO_3)
    (try simp only [hl5_2] at HO_4)
    cases gk with
    | zero => exact absurd HA.out (by simp [dfa_search.l1])
    | succ k2 =>
     have H := HA.out
     clear HA
     simp only [dfa_search.l1] at H
     by_cases c28 : x7_2 < (x2_2.length : Int)
     (focus
     rw [if_pos c28] at H
     have c28b0 : decide (x7_2 < (x2_2.length : Int)) = true := decide_eq_true c28
     (try (have c28b0_hl5_1 := c28b0; simp only [hl5_1] at c28b0_hl5_1))
     (try (have c28b0_hl5_2 := c28b0; simp only [hl5_2] at c28b0_hl5_2))
     clear c28
     by_cases c29 : 0 ≤ x7_2
     (focus
     rw [if_pos c29] at H
     have c29b0 : decide (0 ≤ x7_2) = true := decide_eq_true c29
     clear c29
     by_cases c30 : 0 ≤ (rd x2_2 x7_2)
     (focus
     rw [if_pos c30] at H
     have c30b0 : decide (0 ≤ (rd x2_2 x7_2)) = true := decide_eq_true c30
     clear c30
     by_cases c31 : (rd x2_2 x7_2) < (l0_3.length : Int)
     (focus
     rw [if_pos c31] at H
     have c31b0 : decide ((rd x2_2 x7_2) < (l0_3.length : Int)) = true := decide_eq_true c31
     (try (have c31b0_hl5_1 := c31b0; simp only [hl5_1] at c31b0_hl5_1))
     (try (have c31b0_hl5_2 := c31b0; simp only [hl5_2] at c31b0_hl5_2))
     clear c31
     have H' := Aside0.mk H
     clear H
     obtain ⟨Ao32, co32, eo32⟩ := Kd.R_slice HO_2.out
     subst eo32
     have hcz33_0 : wr.cell? ⟨gb204, 0, none⟩ = some (.int .i64 a0_0) := (blk_cell BK204.out 0).trans rfl
     have hcz33_1 : wr.cell? ⟨gb204, 1, none⟩ = some (.int .i64 a0_1) := (blk_cell BK204.out 1).trans rfl
     have hcz33_2 : wr.cell? ⟨gb204, 2, none⟩ = some (.slice A0_2 l0_2.length c0_2) := (blk_cell BK204.out 2).trans rfl
     have hcz33_3 : wr.cell? ⟨gb204, 3, none⟩ = some (.slice A0_3 l0_3.length c0_3) := (blk_cell BK204.out 3).trans rfl
     have hfz33_0 := blk_frozen BK204.out 0
     have hfz33_1 := blk_frozen BK204.out 1
     have hfz33_2 := blk_frozen BK204.out 2
     have hfz33_3 := blk_frozen BK204.out 3
     have p219 : 0 ≤ (x7_2 : Int) := of_decide_eq_true (by first | (with_reducible assumption) | assumption)
     have q219 : x7_2 < (x2_2.length : Int) := of_decide_eq_true (by first | (with_reducible assumption) | assumption)
     obtain ⟨ad219, e219, hx219_0⟩ := Kd.at_int (Kd.R_reads' HO_2.out).2.2 x7_2 p219 q219
     cases e219
     replace p219 := eq_true p219
     replace q219 := eq_true q219
     have p220 : 0 ≤ ((rd x2_2 x7_2) : Int) := of_decide_eq_true (by first | (with_reducible assumption) | assumption)
     have q220 : (rd x2_2 x7_2) < (l0_3.length : Int) := of_decide_eq_true (by first | (with_reducible assumption) | assumption)
     obtain ⟨ad220, A220_0, c220_0, e220, hx220_0, hl220_0, hi220_0⟩ := at_L1 HR0_3.out (rd x2_2 x7_2) p220 q220
     cases e220
     (try replace hx220_0 := (HB.out.cell (World.block_lt_of_cell? w _ hx220_0)).trans hx220_0)
     have HR220_0 := Aside0.mk hi220_0
     have HC220_0 := Aside0.mk hl220_0
     clear hi220_0 hl220_0
     replace p220 := eq_true p220
     replace q220 := eq_true q220
     go_wp2
     repeat (go_quiet (fail); try go_wp2)
     go_loopg [2, 3, 4, 47] k2 (fun kq v2 v3 v4 v47 w' => ∃ (x2_3 : List Int) (x3_3 : List Int) (x4_3 : List Int) (x5_3 : List Int) (x47_3 : Int), v47 = .int .i64 x47_3 ∧ Aside0 (dfa_search.l2 kq x2_3 x3_3 x4_3 x5_3 x7_2 (rd_L1 l0_3 (rd x2_2 x7_2)) ((rd_L1 l0_3 (rd x2_2 x7_2)).length : Int) x47_3 a0_0 a0_1 l0_2 l0_3 = some (r1, r2, r3, r4)) ∧ Aside0 (kq ≤ k2) ∧ Aside0 (Kd.R (Kd.int .i64) 3 w' w.heap.size (fun k_ => some k_ ≠ (v3 : Value).ownBlock ∧ some k_ ≠ (v4 : Value).ownBlock ∧ some k_ ≠ ((.slice (some ⟨go17, 0, none⟩) x5_2.length co8) : Value).ownBlock) v2 x2_3) ∧ Aside0 (Kd.R (Kd.int .i64) 3 w' w.heap.size (fun k_ => some k_ ≠ (v2 : Value).ownBlock ∧ some k_ ≠ (v4 : Value).ownBlock ∧ some k_ ≠ ((.slice (some ⟨go17, 0, none⟩) x5_2.length co8) : Value).ownBlock) v3 x3_3) ∧ Aside0 (Kd.R (Kd.int .i64) 3 w' w.heap.size (fun k_ => some k_ ≠ (v2 : Value).ownBlock ∧ some k_ ≠ (v3 : Value).ownBlock ∧ some k_ ≠ ((.slice (some ⟨go17, 0, none⟩) x5_2.length co8) : Value).ownBlock) v4 x4_3) ∧ Aside0 (Kd.R (Kd.int .i64) 3 w' w.heap.size (fun k_ => some k_ ≠ (v2 : Value).ownBlock ∧ some k_ ≠ (v3 : Value).ownBlock ∧ some k_ ≠ (v4 : Value).ownBlock) (.slice (some ⟨go17, 0, none⟩) x5_2.length co8) x5_3) ∧ Aside0 (w'.heap[gb204]? = some (.cells #[.int .i64 a0_0, .int .i64 a0_1, (.slice A0_2 l0_2.length c0_2), (.slice (some ad220) l0_3.length c0_3)] 25 (0, 0))) ∧ Aside0 (Below w.heap.size w w'))
     case atStart => exact ⟨(x2_2), (x3_2), (x4_2), (x5_2), (0), (by first | rfl | (simp; done) | (simp [*]; done)), H', ⟨Nat.le_refl _⟩, ⟨by (try simp only [hl5_1]); (try simp only [hl5_2]); (with_reducible repeat (first | apply Kd.R_alloc | apply Kd.R_drewN | apply Kd.R_drew)); exact HO_2.out⟩, ⟨by (try simp only [hl5_1]); (try simp only [hl5_2]); (with_reducible repeat (first | apply Kd.R_alloc | apply Kd.R_drewN | apply Kd.R_drew)); exact HO_3.out⟩, ⟨by (try simp only [hl5_1]); (try simp only [hl5_2]); (with_reducible repeat (first | apply Kd.R_alloc | apply Kd.R_drewN | apply Kd.R_drew)); exact HO_4.out⟩, ⟨by (try simp only [hl5_1]); (try simp only [hl5_2]); (with_reducible repeat (first | apply Kd.R_alloc | apply Kd.R_drewN | apply Kd.R_drew)); exact HO_5.out⟩, ⟨by (try simp only [hl5_1]); (try simp only [hl5_2]); (with_reducible repeat (first | refine blk_drewN ?_ _ | refine blk_drew ?_ | refine blk_alloc ?_ _)); exact BK204.out⟩, ⟨by repeat (first | (with_reducible first | exact HB.out | apply below_alloc | apply pw_below_drewN | apply below_drew1 | refine below_set ?_ GE204.out) | exact HB.out)⟩⟩
     case round =>
      clear H'
      try clear c1
      try clear p1
      try clear q1
      try clear hx1
      try clear hf1
      try clear c2
      try clear c2b0
      try clear c2b1
      try clear p2
      try clear q2
      try clear hx2
      try clear c3
      try clear c3b0
      try clear c3b1
      try clear c4
      try clear p6
      try clear c9
      try clear c9b0
      try clear c10
      try clear c10b0
      try clear c11
      try clear c11b0
      try clear p12
      try clear q12
      try clear hx12
      try clear hf12
      try clear c15
      try clear c15b0
      try clear c16
      try clear c16b0
      try clear p17
      try clear q17
      try clear hx17
      try clear hf17
      try clear p21
      try clear q21
      try clear hx21
      try clear c22
      try clear p22
      try clear q22
      try clear hx22
      try clear c28
      try clear c28b0
      try clear c29
      try clear c29b0
      try clear c30
      try clear c30b0
      try clear c31
      try clear c31b0
      try clear hcz18_0
      try clear hcz18_1
      try clear hcz18_2
      try clear hcz18_3
      try clear hcz21_0
      try clear hcz21_1
      try clear hcz21_2
      try clear hcz21_3
      try clear hcz33_0
      try clear hcz33_1
      try clear hcz33_2
      try clear hcz33_3
      try clear hcz5_0
      try clear hcz5_1
      try clear hcz5_2
      try clear hcz5_3
      try clear hfz18_0
      try clear hfz18_1
      try clear hfz18_2
      try clear hfz18_3
      try clear hfz21_0
      try clear hfz21_1
      try clear hfz21_2
      try clear hfz21_3
      try clear hfz33_0
      try clear hfz33_1
      try clear hfz33_2
      try clear hfz33_3
      try clear hfz5_0
      try clear hfz5_1
      try clear hfz5_2
      try clear hfz5_3
      try clear hx12_0
      try clear hx17_0
      try clear hx219_0
      try clear hx220_0
      try clear p1
      try clear p12
      try clear p17
      try clear p2
      try clear p219
      try clear p220
      try clear p6
      try clear q1
      try clear q12
      try clear q17
      try clear q219
      try clear q220
      obtain ⟨x2_3, x3_3, x4_3, x5_3, x47_3, rfl, HA, HK3, HO_2, HO_3, HO_4, HO_5, BK204, HB⟩ := hrel
      have hl5_3 := (Kd.R_reads' HO_5.out).1
      rw [hl5_3] at HO_5
      (try simp only [hl5_3])
      (try simp only [hl5_3] at BK204)
      (try simp only [hl5_3] at HO_2)
      (try simp only [hl5_3] at HO_3)
      (try simp only [hl5_3] at HO_4)
      cases gk with
      | zero => exact absurd HA.out (by simp [dfa_search.l2])
      | succ k3 =>
       have H := HA.out
       clear HA
       simp only [dfa_search.l2] at H
       by_cases c34 : x47_3 < ((rd_L1 l0_3 (rd x2_2 x7_2)).length : Int)
       (focus
       rw [if_pos c34] at H
       have c34b0 : decide (x47_3 < ((rd_L1 l0_3 (rd x2_2 x7_2)).length : Int)) = true := decide_eq_true c34
       (try (have c34b0_hl5_1 := c34b0; simp only [hl5_1] at c34b0_hl5_1))
       (try (have c34b0_hl5_2 := c34b0; simp only [hl5_2] at c34b0_hl5_2))
       (try (have c34b0_hl5_3 := c34b0; simp only [hl5_3] at c34b0_hl5_3))
       clear c34
       by_cases c35 : 0 ≤ x47_3
       (focus
       rw [if_pos c35] at H
       have c35b0 : decide (0 ≤ x47_3) = true := decide_eq_true c35
       clear c35
       by_cases c36 : x47_3 < ((rd_L1 l0_3 (rd x2_2 x7_2)).length : Int)
       (focus
       rw [if_pos c36] at H
       have c36b0 : decide (x47_3 < ((rd_L1 l0_3 (rd x2_2 x7_2)).length : Int)) = true := decide_eq_true c36
       (try (have c36b0_hl5_1 := c36b0; simp only [hl5_1] at c36b0_hl5_1))
       (try (have c36b0_hl5_2 := c36b0; simp only [hl5_2] at c36b0_hl5_2))
       (try (have c36b0_hl5_3 := c36b0; simp only [hl5_3] at c36b0_hl5_3))
       clear c36
       by_cases c37 : 0 ≤ (rd (rd_L1 l0_3 (rd x2_2 x7_2)) x47_3)
       (focus
       rw [if_pos c37] at H
       have c37b0 : decide (0 ≤ (rd (rd_L1 l0_3 (rd x2_2 x7_2)) x47_3)) = true := decide_eq_true c37
       clear c37
       by_cases c38 : (rd (rd_L1 l0_3 (rd x2_2 x7_2)) x47_3) < (x5_3.length : Int)
       (focus
       rw [if_pos c38] at H
       have c38b0 : decide ((rd (rd_L1 l0_3 (rd x2_2 x7_2)) x47_3) < (x5_3.length : Int)) = true := decide_eq_true c38
       (try (have c38b0_hl5_1 := c38b0; simp only [hl5_1] at c38b0_hl5_1))
       (try (have c38b0_hl5_2 := c38b0; simp only [hl5_2] at c38b0_hl5_2))
       (try (have c38b0_hl5_3 := c38b0; simp only [hl5_3] at c38b0_hl5_3))
       clear c38
       by_cases c39 : (rd x5_3 (rd (rd_L1 l0_3 (rd x2_2 x7_2)) x47_3)) < 0
       (focus
       rw [if_pos c39] at H
       have c39b0 : decide ((rd x5_3 (rd (rd_L1 l0_3 (rd x2_2 x7_2)) x47_3)) < 0) = true := decide_eq_true c39
       clear c39
       obtain ⟨y223, hy223⟩ : ∃ y_ : List Int, y_ = (x5_3.set ((rd (rd_L1 l0_3 (rd x2_2 x7_2)) x47_3) : Int).toNat (x2_3.length : Int)) := ⟨_, rfl⟩
       replace H : (if x2_3.length < 17592186044416 then (if x3_3.length < 17592186044416 then (if x4_3.length < 17592186044416 then (dfa_search.l2 k3 (x2_3 ++ [rd (rd_L1 l0_3 (rd x2_2 x7_2)) x47_3]) (x3_3 ++ [x7_2]) (x4_3 ++ [x47_3]) y223 x7_2 (rd_L1 l0_3 (rd x2_2 x7_2)) ((rd_L1 l0_3 (rd x2_2 x7_2)).length : Int) (wrap64 (x47_3 + 1)) a0_0 a0_1 l0_2 l0_3) else (none)) else (none)) else (none)) = some (r1, r2, r3, r4) := by first | (rw [hy223]; with_reducible exact H) | (have H2_ := (Option.bind_some _ _).symm.trans H; rw [hy223]; with_reducible exact H2_) | (have H2_ := (Option.bind_some _ _).symm.trans H; with_reducible exact H2_) | with_reducible exact H | (rw [hy223]; exact H) | exact H
       have Ny223 := Aside0.mk hy223
       clear hy223
       by_cases c41 : x2_3.length < 17592186044416
       (focus
       rw [if_pos c41] at H
       have LMc41 := Aside0.mk c41
       clear c41
       obtain ⟨y224, hy224⟩ : ∃ y_ : List Int, y_ = (x2_3 ++ [rd (rd_L1 l0_3 (rd x2_2 x7_2)) x47_3]) := ⟨_, rfl⟩
       replace H : (if x3_3.length < 17592186044416 then (if x4_3.length < 17592186044416 then (dfa_search.l2 k3 y224 (x3_3 ++ [x7_2]) (x4_3 ++ [x47_3]) y223 x7_2 (rd_L1 l0_3 (rd x2_2 x7_2)) ((rd_L1 l0_3 (rd x2_2 x7_2)).length : Int) (wrap64 (x47_3 + 1)) a0_0 a0_1 l0_2 l0_3) else (none)) else (none)) = some (r1, r2, r3, r4) := by first | (rw [hy224]; with_reducible exact H) | (have H2_ := (Option.bind_some _ _).symm.trans H; rw [hy224]; with_reducible exact H2_) | (have H2_ := (Option.bind_some _ _).symm.trans H; with_reducible exact H2_) | with_reducible exact H | (rw [hy224]; exact H) | exact H
       have Ny224 := Aside0.mk hy224
       clear hy224
       by_cases c42 : x3_3.length < 17592186044416
       (focus
       rw [if_pos c42] at H
       have LMc42 := Aside0.mk c42
       clear c42
       obtain ⟨y227, hy227⟩ : ∃ y_ : List Int, y_ = (x3_3 ++ [x7_2]) := ⟨_, rfl⟩
       replace H : (if x4_3.length < 17592186044416 then (dfa_search.l2 k3 y224 y227 (x4_3 ++ [x47_3]) y223 x7_2 (rd_L1 l0_3 (rd x2_2 x7_2)) ((rd_L1 l0_3 (rd x2_2 x7_2)).length : Int) (wrap64 (x47_3 + 1)) a0_0 a0_1 l0_2 l0_3) else (none)) = some (r1, r2, r3, r4) := by first | (rw [hy227]; with_reducible exact H) | (have H2_ := (Option.bind_some _ _).symm.trans H; rw [hy227]; with_reducible exact H2_) | (have H2_ := (Option.bind_some _ _).symm.trans H; with_reducible exact H2_) | with_reducible exact H | (rw [hy227]; exact H) | exact H
       have Ny227 := Aside0.mk hy227
       clear hy227
       by_cases c43 : x4_3.length < 17592186044416
       (focus
       rw [if_pos c43] at H
       have LMc43 := Aside0.mk c43
       clear c43
       obtain ⟨y230, hy230⟩ : ∃ y_ : List Int, y_ = (x4_3 ++ [x47_3]) := ⟨_, rfl⟩
       replace H : (dfa_search.l2 k3 y224 y227 y230 y223 x7_2 (rd_L1 l0_3 (rd x2_2 x7_2)) ((rd_L1 l0_3 (rd x2_2 x7_2)).length : Int) (wrap64 (x47_3 + 1)) a0_0 a0_1 l0_2 l0_3) = some (r1, r2, r3, r4) := by first | (rw [hy230]; with_reducible exact H) | (have H2_ := (Option.bind_some _ _).symm.trans H; rw [hy230]; with_reducible exact H2_) | (have H2_ := (Option.bind_some _ _).symm.trans H; with_reducible exact H2_) | with_reducible exact H | (rw [hy230]; exact H) | exact H
       have Ny230 := Aside0.mk hy230
       clear hy230
       have H' := Aside0.mk H
       clear H
       have p221 : 0 ≤ (x47_3 : Int) := of_decide_eq_true (by first | (with_reducible assumption) | assumption)
       have q221 : x47_3 < ((rd_L1 l0_3 (rd x2_2 x7_2)).length : Int) := of_decide_eq_true (by first | (with_reducible assumption) | assumption)
       obtain ⟨ad221, e221, hx221_0⟩ := Kd.at_int HR220_0.out x47_3 p221 q221
       cases e221
       (try replace hx221_0 := (HB.out.cell (World.block_lt_of_cell? w _ hx221_0)).trans hx221_0)
       replace p221 := eq_true p221
       replace q221 := eq_true q221
       have p222 : 0 ≤ ((rd (rd_L1 l0_3 (rd x2_2 x7_2)) x47_3) : Int) := of_decide_eq_true (by first | (with_reducible assumption) | assumption)
       have q222 : (rd (rd_L1 l0_3 (rd x2_2 x7_2)) x47_3) < (x5_3.length : Int) := of_decide_eq_true (by first | (with_reducible assumption) | assumption)
       obtain ⟨ad222, e222, hx222_0⟩ := Kd.at_int (Kd.R_reads' HO_5.out).2.2 (rd (rd_L1 l0_3 (rd x2_2 x7_2)) x47_3) p222 q222
       obtain rfl : (⟨go17, 0, none⟩ : Addr) = ad222 := (by injection e222)
       (first | simp only [add_plain] at hx222_0 | simp only [add_at] at hx222_0 | simp only [Addr.add, Nat.zero_add] at hx222_0 | skip)
       replace p222 := eq_true p222
       replace q222 := eq_true q222
       obtain ⟨Ao44, co44, eo44⟩ := Kd.R_slice HO_2.out
       subst eo44
       have p40 : 0 ≤ ((rd (rd_L1 l0_3 (rd x2_2 x7_2)) x47_3) : Int) := of_decide_eq_true (by first | (with_reducible assumption) | assumption)
       have q40 : ((rd (rd_L1 l0_3 (rd x2_2 x7_2)) x47_3) : Int) < ((x5_3.length : Int) : Int) := of_decide_eq_true (by first | (with_reducible assumption) | assumption)
       obtain ⟨hx40_0, hf40_0⟩ := Kd.R_celln 0 HO_5.out ((rd (rd_L1 l0_3 (rd x2_2 x7_2)) x47_3) : Int) p40 q40
       replace p40 := eq_true p40
       replace q40 := eq_true q40
       have HP45 := Kd.R_putg HO_5.out ((rd (rd_L1 l0_3 (rd x2_2 x7_2)) x47_3) : Int) (x2_3.length : Int)
       go_wp2_with (first | ((with_reducible refine gate_store (t := 3) (p := 61) rfl ?_); (try (rw [drewN_self wr]; generalize hq_ : World.drewN wr _ = wr; have n0_ := Aside0.mk (Kd.R_at hq_ HO_2.out); have n1_ := Aside0.mk (Kd.R_at hq_ HO_3.out); have n2_ := Aside0.mk (Kd.R_at hq_ HO_4.out); have n3_ := Aside0.mk (Kd.R_at hq_ HO_5.out); have n4_ := Aside0.mk (blk_at hq_ BK204.out); have n5_ := Aside0.mk (below_at hq_ HB.out); clear hq_ HO_2 HO_3 HO_4 HO_5 BK204 HB; have HO_2 := n0_; have HO_3 := n1_; have HO_4 := n2_; have HO_5 := n3_; have BK204 := n4_; have HB := n5_; clear n0_ n1_ n2_ n3_ n4_ n5_; (try (have HP45 := Kd.R_putg HO_5.out ((rd (rd_L1 l0_3 (rd x2_2 x7_2)) x47_3) : Int) (x2_3.length : Int))))); refine store_event (t := 3) (p := 61) (v := ?vo_w46) (w1 := (wr.setCell ⟨go17, ((rd (rd_L1 l0_3 (rd x2_2 x7_2)) x47_3) : Int).toNat, none⟩ (.int .i64 (x2_3.length : Int)))) ?hg ?ho ?hn ?hr ?_; (case ho => rfl); (case hg => rfl); (case hn => rfl); (case hr => first | (go_simp; done) | (go_simp; rfl)); intro w46 hw; have hg : wr.grownBy w46 (some go17) := (by rw [hw]; exact HP45.2); have hp_ : Kd.R (Kd.int .i64) 3 w46 w.heap.size (fun k_ => some k_ ≠ (.slice Ao44 x2_3.length co44 : Value).ownBlock ∧ some k_ ≠ (u3 : Value).ownBlock ∧ some k_ ≠ (u4 : Value).ownBlock) (.slice (some ⟨go17, 0, none⟩) x5_3.length co8) y223 := (by rw [hw, Ny223.out]; exact HP45.1); clear HP45; have n0_ := Aside0.mk (Kd.R_after (v := (.slice (some ⟨go17, 0, none⟩) x5_3.length co8)) (v1 := (.slice (some ⟨go17, 0, none⟩) x5_3.length co8)) (ok := (fun k_ => some k_ ≠ (u3 : Value).ownBlock ∧ some k_ ≠ (u4 : Value).ownBlock)) (uR (Kd.R_mono HO_2.out (fun _ hk => ⟨⟨hk.1, hk.2.1⟩, hk.2.2⟩))) hg (.inl rfl)); have n1_ := Aside0.mk (Kd.R_after (v := (.slice (some ⟨go17, 0, none⟩) x5_3.length co8)) (v1 := (.slice (some ⟨go17, 0, none⟩) x5_3.length co8)) (ok := (fun k_ => some k_ ≠ (.slice Ao44 x2_3.length co44 : Value).ownBlock ∧ some k_ ≠ (u4 : Value).ownBlock)) (uR (Kd.R_mono HO_3.out (fun _ hk => ⟨⟨hk.1, hk.2.1⟩, hk.2.2⟩))) hg (.inl rfl)); have n2_ := Aside0.mk (Kd.R_after (v := (.slice (some ⟨go17, 0, none⟩) x5_3.length co8)) (v1 := (.slice (some ⟨go17, 0, none⟩) x5_3.length co8)) (ok := (fun k_ => some k_ ≠ (.slice Ao44 x2_3.length co44 : Value).ownBlock ∧ some k_ ≠ (u3 : Value).ownBlock)) (uR (Kd.R_mono HO_4.out (fun _ hk => ⟨⟨hk.1, hk.2.1⟩, hk.2.2⟩))) hg (.inl rfl)); have n3_ := Aside0.mk (hp_); have n4_ := Aside0.mk (blk_grown (g := gb204) (o := .cells #[.int .i64 a0_0, .int .i64 a0_1, .slice A0_2 l0_2.length c0_2, .slice (some ad220) l0_3.length c0_3] 25 (0, 0)) (uB BK204.out) hg (Kd.R_ne HO_5.out BK204.out (by decide))); have n5_ := Aside0.mk ((by rw [hw]; exact below_set (HB.out) GB17.out : Below w.heap.size w w46)); clear HO_2; clear HO_3; clear HO_4; clear HO_5; clear BK204; clear HB; have HO_2 := n0_; have HO_3 := n1_; have HO_4 := n2_; have HO_5 := n3_; have BK204 := n4_; have HB := n5_; clear n0_ n1_ n2_ n3_ n4_ n5_; clear hg hw hp_) | ((with_reducible refine gate_builtin (b := .append) (xs := #[.tmp 62, .tmp 64]) rfl ?_); at_builtin; refine Kd.R_append (Kd.int .i64) (w0 := w) w.heap.size rfl (.tmp 62) (.tmp 64) 38 3 (.int .i64 0) 8 rfl Try.underlying38 info3 rfl (by decide) (by omega) (.slice Ao44 x2_3.length co44) x2_3 (rd (rd_L1 l0_3 (rd x2_2 x7_2)) x47_3) [.int .i64 (rd (rd_L1 l0_3 (rd x2_2 x7_2)) x47_3)] (fun k_ => some k_ ≠ (u3 : Value).ownBlock ∧ some k_ ≠ (u4 : Value).ownBlock ∧ some k_ ≠ (.slice (some ⟨go17, 0, none⟩) x5_3.length co8 : Value).ownBlock) (fun _ => False) rfl rfl ?aP (fun _ hk => hk.elim) ?aF ?aO ?aB ?aS ?aL ?_; (case aP => exact rfl); (case aB => exact (by repeat (first | (with_reducible first | exact HB.out | apply below_alloc | apply pw_below_drewN | apply below_drew1 | refine below_set ?_ GE204.out) | exact HB.out))); (case aF => exact (fun k_ hk => ⟨Kd.fresh' (Kd.R_lt (uR HO_3.out)) k_ hk, Kd.fresh' (Kd.R_lt (uR HO_4.out)) k_ hk, Kd.fresh' (Kd.R_lt (uR HO_5.out)) k_ hk⟩)); (case aO => exact (uR (Kd.R_mono HO_2.out (fun _ hk => ⟨hk.1.1, ⟨hk.1.2, hk.2⟩⟩)))); (case aS => exact (below_size (by repeat (first | (with_reducible first | exact HB.out | apply below_alloc | apply pw_below_drewN | apply below_drew1 | refine below_set ?_ GE204.out) | exact HB.out)))); (case aL => have := LMc41.out; omega); intro v225 w47 ho hb hg hat; rw [← Ny224.out] at ho; have n0_ := Aside0.mk (Kd.R_after (ok := (fun k_ => some k_ ≠ (u4 : Value).ownBlock ∧ some k_ ≠ (.slice (some ⟨go17, 0, none⟩) x5_3.length co8 : Value).ownBlock)) (uR (Kd.R_mono HO_3.out (fun _ hk => ⟨⟨hk.1.2, hk.2⟩, hk.1.1⟩))) hg hat); have n1_ := Aside0.mk (Kd.R_after (ok := (fun k_ => some k_ ≠ (u3 : Value).ownBlock ∧ some k_ ≠ (.slice (some ⟨go17, 0, none⟩) x5_3.length co8 : Value).ownBlock)) (uR (Kd.R_mono HO_4.out (fun _ hk => ⟨⟨hk.1.2, hk.2⟩, hk.1.1⟩))) hg hat); have n2_ := Aside0.mk (Kd.R_after (ok := (fun k_ => some k_ ≠ (u3 : Value).ownBlock ∧ some k_ ≠ (u4 : Value).ownBlock)) (uR (Kd.R_mono HO_5.out (fun _ hk => ⟨⟨hk.2.1, hk.2.2⟩, hk.1⟩))) hg hat); have n3_ := Aside0.mk (blk_grown (g := gb204) (o := .cells #[.int .i64 a0_0, .int .i64 a0_1, .slice A0_2 l0_2.length c0_2, .slice (some ad220) l0_3.length c0_3] 25 (0, 0)) (uB BK204.out) hg (Kd.R_ne HO_2.out BK204.out (by decide))); have n4_ := Aside0.mk (hb); have n5_ := Aside0.mk (ho); clear HO_3; clear HO_4; clear HO_5; clear BK204; clear HB; clear HO_2; have HO_3 := n0_; have HO_4 := n1_; have HO_5 := n2_; have BK204 := n3_; have HB := n4_; have HO226 := n5_; clear n0_ n1_ n2_ n3_ n4_ n5_; clear ho hb hg hat) | ((with_reducible refine gate_builtin (b := .append) (xs := #[.tmp 66, .tmp 68]) rfl ?_); at_builtin; refine Kd.R_append (Kd.int .i64) (w0 := w) w.heap.size rfl (.tmp 66) (.tmp 68) 38 3 (.int .i64 0) 8 rfl Try.underlying38 info3 rfl (by decide) (by omega) u3 x3_3 x7_2 [.int .i64 x7_2] (fun k_ => some k_ ≠ (u4 : Value).ownBlock ∧ some k_ ≠ (.slice (some ⟨go17, 0, none⟩) x5_3.length co8 : Value).ownBlock ∧ some k_ ≠ (v225 : Value).ownBlock) (fun _ => False) rfl rfl ?aP (fun _ hk => hk.elim) ?aF ?aO ?aB ?aS ?aL ?_; (case aP => exact rfl); (case aB => exact (by repeat (first | (with_reducible first | exact HB.out | apply below_alloc | apply pw_below_drewN | apply below_drew1 | refine below_set ?_ GE204.out) | exact HB.out))); (case aF => exact (fun k_ hk => ⟨Kd.fresh' (Kd.R_lt (uR HO_4.out)) k_ hk, Kd.fresh' (Kd.R_lt (uR HO_5.out)) k_ hk, Kd.fresh' (Kd.R_lt (uR HO226.out)) k_ hk⟩)); (case aO => exact (uR (Kd.R_mono HO_3.out (fun _ hk => ⟨hk.1.1, ⟨hk.1.2, hk.2⟩⟩)))); (case aS => exact (below_size (by repeat (first | (with_reducible first | exact HB.out | apply below_alloc | apply pw_below_drewN | apply below_drew1 | refine below_set ?_ GE204.out) | exact HB.out)))); (case aL => have := LMc42.out; omega); intro v228 w48 ho hb hg hat; rw [← Ny227.out] at ho; have n0_ := Aside0.mk (Kd.R_after (ok := (fun k_ => some k_ ≠ (.slice (some ⟨go17, 0, none⟩) x5_3.length co8 : Value).ownBlock ∧ some k_ ≠ (v225 : Value).ownBlock)) (uR (Kd.R_mono HO_4.out (fun _ hk => ⟨⟨hk.1.2, hk.2⟩, hk.1.1⟩))) hg hat); have n1_ := Aside0.mk (Kd.R_after (ok := (fun k_ => some k_ ≠ (u4 : Value).ownBlock ∧ some k_ ≠ (v225 : Value).ownBlock)) (uR (Kd.R_mono HO_5.out (fun _ hk => ⟨⟨hk.1.2, hk.2⟩, hk.1.1⟩))) hg hat); have n2_ := Aside0.mk (blk_grown (g := gb204) (o := .cells #[.int .i64 a0_0, .int .i64 a0_1, .slice A0_2 l0_2.length c0_2, .slice (some ad220) l0_3.length c0_3] 25 (0, 0)) (uB BK204.out) hg (Kd.R_ne HO_3.out BK204.out (by decide))); have n3_ := Aside0.mk (Kd.R_after (ok := (fun k_ => some k_ ≠ (u4 : Value).ownBlock ∧ some k_ ≠ (.slice (some ⟨go17, 0, none⟩) x5_3.length co8 : Value).ownBlock)) (uR (Kd.R_mono HO226.out (fun _ hk => ⟨⟨hk.2.1, hk.2.2⟩, hk.1⟩))) hg hat); have n4_ := Aside0.mk (hb); have n5_ := Aside0.mk (ho); clear HO_4; clear HO_5; clear BK204; clear HO226; clear HB; clear HO_3; have HO_4 := n0_; have HO_5 := n1_; have BK204 := n2_; have HO226 := n3_; have HB := n4_; have HO229 := n5_; clear n0_ n1_ n2_ n3_ n4_ n5_; clear ho hb hg hat) | ((with_reducible refine gate_builtin (b := .append) (xs := #[.tmp 70, .tmp 72]) rfl ?_); at_builtin; refine Kd.R_append (Kd.int .i64) (w0 := w) w.heap.size rfl (.tmp 70) (.tmp 72) 38 3 (.int .i64 0) 8 rfl Try.underlying38 info3 rfl (by decide) (by omega) u4 x4_3 x47_3 [.int .i64 x47_3] (fun k_ => some k_ ≠ (.slice (some ⟨go17, 0, none⟩) x5_3.length co8 : Value).ownBlock ∧ some k_ ≠ (v225 : Value).ownBlock ∧ some k_ ≠ (v228 : Value).ownBlock) (fun _ => False) rfl rfl ?aP (fun _ hk => hk.elim) ?aF ?aO ?aB ?aS ?aL ?_; (case aP => exact rfl); (case aB => exact (by repeat (first | (with_reducible first | exact HB.out | apply below_alloc | apply pw_below_drewN | apply below_drew1 | refine below_set ?_ GE204.out) | exact HB.out))); (case aF => exact (fun k_ hk => ⟨Kd.fresh' (Kd.R_lt (uR HO_5.out)) k_ hk, Kd.fresh' (Kd.R_lt (uR HO226.out)) k_ hk, Kd.fresh' (Kd.R_lt (uR HO229.out)) k_ hk⟩)); (case aO => exact (uR (Kd.R_mono HO_4.out (fun _ hk => ⟨hk.1.1, ⟨hk.1.2, hk.2⟩⟩)))); (case aS => exact (below_size (by repeat (first | (with_reducible first | exact HB.out | apply below_alloc | apply pw_below_drewN | apply below_drew1 | refine below_set ?_ GE204.out) | exact HB.out)))); (case aL => have := LMc43.out; omega); intro v231 w49 ho hb hg hat; rw [← Ny230.out] at ho; have n0_ := Aside0.mk (Kd.R_after (ok := (fun k_ => some k_ ≠ (v225 : Value).ownBlock ∧ some k_ ≠ (v228 : Value).ownBlock)) (uR (Kd.R_mono HO_5.out (fun _ hk => ⟨⟨hk.1.2, hk.2⟩, hk.1.1⟩))) hg hat); have n1_ := Aside0.mk (blk_grown (g := gb204) (o := .cells #[.int .i64 a0_0, .int .i64 a0_1, .slice A0_2 l0_2.length c0_2, .slice (some ad220) l0_3.length c0_3] 25 (0, 0)) (uB BK204.out) hg (Kd.R_ne HO_4.out BK204.out (by decide))); have n2_ := Aside0.mk (Kd.R_after (ok := (fun k_ => some k_ ≠ (.slice (some ⟨go17, 0, none⟩) x5_3.length co8 : Value).ownBlock ∧ some k_ ≠ (v228 : Value).ownBlock)) (uR (Kd.R_mono HO226.out (fun _ hk => ⟨⟨hk.1.2, hk.2⟩, hk.1.1⟩))) hg hat); have n3_ := Aside0.mk (Kd.R_after (ok := (fun k_ => some k_ ≠ (.slice (some ⟨go17, 0, none⟩) x5_3.length co8 : Value).ownBlock ∧ some k_ ≠ (v225 : Value).ownBlock)) (uR (Kd.R_mono HO229.out (fun _ hk => ⟨⟨hk.2.1, hk.2.2⟩, hk.1⟩))) hg hat); have n4_ := Aside0.mk (hb); have n5_ := Aside0.mk (ho); clear HO_5; clear BK204; clear HO226; clear HO229; clear HB; clear HO_4; have HO_5 := n0_; have BK204 := n1_; have HO226 := n2_; have HO229 := n3_; have HB := n4_; have HO232 := n5_; clear n0_ n1_ n2_ n3_ n4_ n5_; clear ho hb hg hat))
       repeat (go_quiet (first | ((with_reducible refine gate_store (t := 3) (p := 61) rfl ?_); (try (rw [drewN_self wr]; generalize hq_ : World.drewN wr _ = wr; have n0_ := Aside0.mk (Kd.R_at hq_ HO_2.out); have n1_ := Aside0.mk (Kd.R_at hq_ HO_3.out); have n2_ := Aside0.mk (Kd.R_at hq_ HO_4.out); have n3_ := Aside0.mk (Kd.R_at hq_ HO_5.out); have n4_ := Aside0.mk (blk_at hq_ BK204.out); have n5_ := Aside0.mk (below_at hq_ HB.out); clear hq_ HO_2 HO_3 HO_4 HO_5 BK204 HB; have HO_2 := n0_; have HO_3 := n1_; have HO_4 := n2_; have HO_5 := n3_; have BK204 := n4_; have HB := n5_; clear n0_ n1_ n2_ n3_ n4_ n5_; (try (have HP45 := Kd.R_putg HO_5.out ((rd (rd_L1 l0_3 (rd x2_2 x7_2)) x47_3) : Int) (x2_3.length : Int))))); refine store_event (t := 3) (p := 61) (v := ?vo_w46) (w1 := (wr.setCell ⟨go17, ((rd (rd_L1 l0_3 (rd x2_2 x7_2)) x47_3) : Int).toNat, none⟩ (.int .i64 (x2_3.length : Int)))) ?hg ?ho ?hn ?hr ?_; (case ho => rfl); (case hg => rfl); (case hn => rfl); (case hr => first | (go_simp; done) | (go_simp; rfl)); intro w46 hw; have hg : wr.grownBy w46 (some go17) := (by rw [hw]; exact HP45.2); have hp_ : Kd.R (Kd.int .i64) 3 w46 w.heap.size (fun k_ => some k_ ≠ (.slice Ao44 x2_3.length co44 : Value).ownBlock ∧ some k_ ≠ (u3 : Value).ownBlock ∧ some k_ ≠ (u4 : Value).ownBlock) (.slice (some ⟨go17, 0, none⟩) x5_3.length co8) y223 := (by rw [hw, Ny223.out]; exact HP45.1); clear HP45; have n0_ := Aside0.mk (Kd.R_after (v := (.slice (some ⟨go17, 0, none⟩) x5_3.length co8)) (v1 := (.slice (some ⟨go17, 0, none⟩) x5_3.length co8)) (ok := (fun k_ => some k_ ≠ (u3 : Value).ownBlock ∧ some k_ ≠ (u4 : Value).ownBlock)) (uR (Kd.R_mono HO_2.out (fun _ hk => ⟨⟨hk.1, hk.2.1⟩, hk.2.2⟩))) hg (.inl rfl)); have n1_ := Aside0.mk (Kd.R_after (v := (.slice (some ⟨go17, 0, none⟩) x5_3.length co8)) (v1 := (.slice (some ⟨go17, 0, none⟩) x5_3.length co8)) (ok := (fun k_ => some k_ ≠ (.slice Ao44 x2_3.length co44 : Value).ownBlock ∧ some k_ ≠ (u4 : Value).ownBlock)) (uR (Kd.R_mono HO_3.out (fun _ hk => ⟨⟨hk.1, hk.2.1⟩, hk.2.2⟩))) hg (.inl rfl)); have n2_ := Aside0.mk (Kd.R_after (v := (.slice (some ⟨go17, 0, none⟩) x5_3.length co8)) (v1 := (.slice (some ⟨go17, 0, none⟩) x5_3.length co8)) (ok := (fun k_ => some k_ ≠ (.slice Ao44 x2_3.length co44 : Value).ownBlock ∧ some k_ ≠ (u3 : Value).ownBlock)) (uR (Kd.R_mono HO_4.out (fun _ hk => ⟨⟨hk.1, hk.2.1⟩, hk.2.2⟩))) hg (.inl rfl)); have n3_ := Aside0.mk (hp_); have n4_ := Aside0.mk (blk_grown (g := gb204) (o := .cells #[.int .i64 a0_0, .int .i64 a0_1, .slice A0_2 l0_2.length c0_2, .slice (some ad220) l0_3.length c0_3] 25 (0, 0)) (uB BK204.out) hg (Kd.R_ne HO_5.out BK204.out (by decide))); have n5_ := Aside0.mk ((by rw [hw]; exact below_set (HB.out) GB17.out : Below w.heap.size w w46)); clear HO_2; clear HO_3; clear HO_4; clear HO_5; clear BK204; clear HB; have HO_2 := n0_; have HO_3 := n1_; have HO_4 := n2_; have HO_5 := n3_; have BK204 := n4_; have HB := n5_; clear n0_ n1_ n2_ n3_ n4_ n5_; clear hg hw hp_) | ((with_reducible refine gate_builtin (b := .append) (xs := #[.tmp 62, .tmp 64]) rfl ?_); at_builtin; refine Kd.R_append (Kd.int .i64) (w0 := w) w.heap.size rfl (.tmp 62) (.tmp 64) 38 3 (.int .i64 0) 8 rfl Try.underlying38 info3 rfl (by decide) (by omega) (.slice Ao44 x2_3.length co44) x2_3 (rd (rd_L1 l0_3 (rd x2_2 x7_2)) x47_3) [.int .i64 (rd (rd_L1 l0_3 (rd x2_2 x7_2)) x47_3)] (fun k_ => some k_ ≠ (u3 : Value).ownBlock ∧ some k_ ≠ (u4 : Value).ownBlock ∧ some k_ ≠ (.slice (some ⟨go17, 0, none⟩) x5_3.length co8 : Value).ownBlock) (fun _ => False) rfl rfl ?aP (fun _ hk => hk.elim) ?aF ?aO ?aB ?aS ?aL ?_; (case aP => exact rfl); (case aB => exact (by repeat (first | (with_reducible first | exact HB.out | apply below_alloc | apply pw_below_drewN | apply below_drew1 | refine below_set ?_ GE204.out) | exact HB.out))); (case aF => exact (fun k_ hk => ⟨Kd.fresh' (Kd.R_lt (uR HO_3.out)) k_ hk, Kd.fresh' (Kd.R_lt (uR HO_4.out)) k_ hk, Kd.fresh' (Kd.R_lt (uR HO_5.out)) k_ hk⟩)); (case aO => exact (uR (Kd.R_mono HO_2.out (fun _ hk => ⟨hk.1.1, ⟨hk.1.2, hk.2⟩⟩)))); (case aS => exact (below_size (by repeat (first | (with_reducible first | exact HB.out | apply below_alloc | apply pw_below_drewN | apply below_drew1 | refine below_set ?_ GE204.out) | exact HB.out)))); (case aL => have := LMc41.out; omega); intro v225 w47 ho hb hg hat; rw [← Ny224.out] at ho; have n0_ := Aside0.mk (Kd.R_after (ok := (fun k_ => some k_ ≠ (u4 : Value).ownBlock ∧ some k_ ≠ (.slice (some ⟨go17, 0, none⟩) x5_3.length co8 : Value).ownBlock)) (uR (Kd.R_mono HO_3.out (fun _ hk => ⟨⟨hk.1.2, hk.2⟩, hk.1.1⟩))) hg hat); have n1_ := Aside0.mk (Kd.R_after (ok := (fun k_ => some k_ ≠ (u3 : Value).ownBlock ∧ some k_ ≠ (.slice (some ⟨go17, 0, none⟩) x5_3.length co8 : Value).ownBlock)) (uR (Kd.R_mono HO_4.out (fun _ hk => ⟨⟨hk.1.2, hk.2⟩, hk.1.1⟩))) hg hat); have n2_ := Aside0.mk (Kd.R_after (ok := (fun k_ => some k_ ≠ (u3 : Value).ownBlock ∧ some k_ ≠ (u4 : Value).ownBlock)) (uR (Kd.R_mono HO_5.out (fun _ hk => ⟨⟨hk.2.1, hk.2.2⟩, hk.1⟩))) hg hat); have n3_ := Aside0.mk (blk_grown (g := gb204) (o := .cells #[.int .i64 a0_0, .int .i64 a0_1, .slice A0_2 l0_2.length c0_2, .slice (some ad220) l0_3.length c0_3] 25 (0, 0)) (uB BK204.out) hg (Kd.R_ne HO_2.out BK204.out (by decide))); have n4_ := Aside0.mk (hb); have n5_ := Aside0.mk (ho); clear HO_3; clear HO_4; clear HO_5; clear BK204; clear HB; clear HO_2; have HO_3 := n0_; have HO_4 := n1_; have HO_5 := n2_; have BK204 := n3_; have HB := n4_; have HO226 := n5_; clear n0_ n1_ n2_ n3_ n4_ n5_; clear ho hb hg hat) | ((with_reducible refine gate_builtin (b := .append) (xs := #[.tmp 66, .tmp 68]) rfl ?_); at_builtin; refine Kd.R_append (Kd.int .i64) (w0 := w) w.heap.size rfl (.tmp 66) (.tmp 68) 38 3 (.int .i64 0) 8 rfl Try.underlying38 info3 rfl (by decide) (by omega) u3 x3_3 x7_2 [.int .i64 x7_2] (fun k_ => some k_ ≠ (u4 : Value).ownBlock ∧ some k_ ≠ (.slice (some ⟨go17, 0, none⟩) x5_3.length co8 : Value).ownBlock ∧ some k_ ≠ (v225 : Value).ownBlock) (fun _ => False) rfl rfl ?aP (fun _ hk => hk.elim) ?aF ?aO ?aB ?aS ?aL ?_; (case aP => exact rfl); (case aB => exact (by repeat (first | (with_reducible first | exact HB.out | apply below_alloc | apply pw_below_drewN | apply below_drew1 | refine below_set ?_ GE204.out) | exact HB.out))); (case aF => exact (fun k_ hk => ⟨Kd.fresh' (Kd.R_lt (uR HO_4.out)) k_ hk, Kd.fresh' (Kd.R_lt (uR HO_5.out)) k_ hk, Kd.fresh' (Kd.R_lt (uR HO226.out)) k_ hk⟩)); (case aO => exact (uR (Kd.R_mono HO_3.out (fun _ hk => ⟨hk.1.1, ⟨hk.1.2, hk.2⟩⟩)))); (case aS => exact (below_size (by repeat (first | (with_reducible first | exact HB.out | apply below_alloc | apply pw_below_drewN | apply below_drew1 | refine below_set ?_ GE204.out) | exact HB.out)))); (case aL => have := LMc42.out; omega); intro v228 w48 ho hb hg hat; rw [← Ny227.out] at ho; have n0_ := Aside0.mk (Kd.R_after (ok := (fun k_ => some k_ ≠ (.slice (some ⟨go17, 0, none⟩) x5_3.length co8 : Value).ownBlock ∧ some k_ ≠ (v225 : Value).ownBlock)) (uR (Kd.R_mono HO_4.out (fun _ hk => ⟨⟨hk.1.2, hk.2⟩, hk.1.1⟩))) hg hat); have n1_ := Aside0.mk (Kd.R_after (ok := (fun k_ => some k_ ≠ (u4 : Value).ownBlock ∧ some k_ ≠ (v225 : Value).ownBlock)) (uR (Kd.R_mono HO_5.out (fun _ hk => ⟨⟨hk.1.2, hk.2⟩, hk.1.1⟩))) hg hat); have n2_ := Aside0.mk (blk_grown (g := gb204) (o := .cells #[.int .i64 a0_0, .int .i64 a0_1, .slice A0_2 l0_2.length c0_2, .slice (some ad220) l0_3.length c0_3] 25 (0, 0)) (uB BK204.out) hg (Kd.R_ne HO_3.out BK204.out (by decide))); have n3_ := Aside0.mk (Kd.R_after (ok := (fun k_ => some k_ ≠ (u4 : Value).ownBlock ∧ some k_ ≠ (.slice (some ⟨go17, 0, none⟩) x5_3.length co8 : Value).ownBlock)) (uR (Kd.R_mono HO226.out (fun _ hk => ⟨⟨hk.2.1, hk.2.2⟩, hk.1⟩))) hg hat); have n4_ := Aside0.mk (hb); have n5_ := Aside0.mk (ho); clear HO_4; clear HO_5; clear BK204; clear HO226; clear HB; clear HO_3; have HO_4 := n0_; have HO_5 := n1_; have BK204 := n2_; have HO226 := n3_; have HB := n4_; have HO229 := n5_; clear n0_ n1_ n2_ n3_ n4_ n5_; clear ho hb hg hat) | ((with_reducible refine gate_builtin (b := .append) (xs := #[.tmp 70, .tmp 72]) rfl ?_); at_builtin; refine Kd.R_append (Kd.int .i64) (w0 := w) w.heap.size rfl (.tmp 70) (.tmp 72) 38 3 (.int .i64 0) 8 rfl Try.underlying38 info3 rfl (by decide) (by omega) u4 x4_3 x47_3 [.int .i64 x47_3] (fun k_ => some k_ ≠ (.slice (some ⟨go17, 0, none⟩) x5_3.length co8 : Value).ownBlock ∧ some k_ ≠ (v225 : Value).ownBlock ∧ some k_ ≠ (v228 : Value).ownBlock) (fun _ => False) rfl rfl ?aP (fun _ hk => hk.elim) ?aF ?aO ?aB ?aS ?aL ?_; (case aP => exact rfl); (case aB => exact (by repeat (first | (with_reducible first | exact HB.out | apply below_alloc | apply pw_below_drewN | apply below_drew1 | refine below_set ?_ GE204.out) | exact HB.out))); (case aF => exact (fun k_ hk => ⟨Kd.fresh' (Kd.R_lt (uR HO_5.out)) k_ hk, Kd.fresh' (Kd.R_lt (uR HO226.out)) k_ hk, Kd.fresh' (Kd.R_lt (uR HO229.out)) k_ hk⟩)); (case aO => exact (uR (Kd.R_mono HO_4.out (fun _ hk => ⟨hk.1.1, ⟨hk.1.2, hk.2⟩⟩)))); (case aS => exact (below_size (by repeat (first | (with_reducible first | exact HB.out | apply below_alloc | apply pw_below_drewN | apply below_drew1 | refine below_set ?_ GE204.out) | exact HB.out)))); (case aL => have := LMc43.out; omega); intro v231 w49 ho hb hg hat; rw [← Ny230.out] at ho; have n0_ := Aside0.mk (Kd.R_after (ok := (fun k_ => some k_ ≠ (v225 : Value).ownBlock ∧ some k_ ≠ (v228 : Value).ownBlock)) (uR (Kd.R_mono HO_5.out (fun _ hk => ⟨⟨hk.1.2, hk.2⟩, hk.1.1⟩))) hg hat); have n1_ := Aside0.mk (blk_grown (g := gb204) (o := .cells #[.int .i64 a0_0, .int .i64 a0_1, .slice A0_2 l0_2.length c0_2, .slice (some ad220) l0_3.length c0_3] 25 (0, 0)) (uB BK204.out) hg (Kd.R_ne HO_4.out BK204.out (by decide))); have n2_ := Aside0.mk (Kd.R_after (ok := (fun k_ => some k_ ≠ (.slice (some ⟨go17, 0, none⟩) x5_3.length co8 : Value).ownBlock ∧ some k_ ≠ (v228 : Value).ownBlock)) (uR (Kd.R_mono HO226.out (fun _ hk => ⟨⟨hk.1.2, hk.2⟩, hk.1.1⟩))) hg hat); have n3_ := Aside0.mk (Kd.R_after (ok := (fun k_ => some k_ ≠ (.slice (some ⟨go17, 0, none⟩) x5_3.length co8 : Value).ownBlock ∧ some k_ ≠ (v225 : Value).ownBlock)) (uR (Kd.R_mono HO229.out (fun _ hk => ⟨⟨hk.2.1, hk.2.2⟩, hk.1⟩))) hg hat); have n4_ := Aside0.mk (hb); have n5_ := Aside0.mk (ho); clear HO_5; clear BK204; clear HO226; clear HO229; clear HB; clear HO_4; have HO_5 := n0_; have BK204 := n1_; have HO226 := n2_; have HO229 := n3_; have HB := n4_; have HO232 := n5_; clear n0_ n1_ n2_ n3_ n4_ n5_; clear ho hb hg hat)); try go_wp2_with (first | ((with_reducible refine gate_store (t := 3) (p := 61) rfl ?_); (try (rw [drewN_self wr]; generalize hq_ : World.drewN wr _ = wr; have n0_ := Aside0.mk (Kd.R_at hq_ HO_2.out); have n1_ := Aside0.mk (Kd.R_at hq_ HO_3.out); have n2_ := Aside0.mk (Kd.R_at hq_ HO_4.out); have n3_ := Aside0.mk (Kd.R_at hq_ HO_5.out); have n4_ := Aside0.mk (blk_at hq_ BK204.out); have n5_ := Aside0.mk (below_at hq_ HB.out); clear hq_ HO_2 HO_3 HO_4 HO_5 BK204 HB; have HO_2 := n0_; have HO_3 := n1_; have HO_4 := n2_; have HO_5 := n3_; have BK204 := n4_; have HB := n5_; clear n0_ n1_ n2_ n3_ n4_ n5_; (try (have HP45 := Kd.R_putg HO_5.out ((rd (rd_L1 l0_3 (rd x2_2 x7_2)) x47_3) : Int) (x2_3.length : Int))))); refine store_event (t := 3) (p := 61) (v := ?vo_w46) (w1 := (wr.setCell ⟨go17, ((rd (rd_L1 l0_3 (rd x2_2 x7_2)) x47_3) : Int).toNat, none⟩ (.int .i64 (x2_3.length : Int)))) ?hg ?ho ?hn ?hr ?_; (case ho => rfl); (case hg => rfl); (case hn => rfl); (case hr => first | (go_simp; done) | (go_simp; rfl)); intro w46 hw; have hg : wr.grownBy w46 (some go17) := (by rw [hw]; exact HP45.2); have hp_ : Kd.R (Kd.int .i64) 3 w46 w.heap.size (fun k_ => some k_ ≠ (.slice Ao44 x2_3.length co44 : Value).ownBlock ∧ some k_ ≠ (u3 : Value).ownBlock ∧ some k_ ≠ (u4 : Value).ownBlock) (.slice (some ⟨go17, 0, none⟩) x5_3.length co8) y223 := (by rw [hw, Ny223.out]; exact HP45.1); clear HP45; have n0_ := Aside0.mk (Kd.R_after (v := (.slice (some ⟨go17, 0, none⟩) x5_3.length co8)) (v1 := (.slice (some ⟨go17, 0, none⟩) x5_3.length co8)) (ok := (fun k_ => some k_ ≠ (u3 : Value).ownBlock ∧ some k_ ≠ (u4 : Value).ownBlock)) (uR (Kd.R_mono HO_2.out (fun _ hk => ⟨⟨hk.1, hk.2.1⟩, hk.2.2⟩))) hg (.inl rfl)); have n1_ := Aside0.mk (Kd.R_after (v := (.slice (some ⟨go17, 0, none⟩) x5_3.length co8)) (v1 := (.slice (some ⟨go17, 0, none⟩) x5_3.length co8)) (ok := (fun k_ => some k_ ≠ (.slice Ao44 x2_3.length co44 : Value).ownBlock ∧ some k_ ≠ (u4 : Value).ownBlock)) (uR (Kd.R_mono HO_3.out (fun _ hk => ⟨⟨hk.1, hk.2.1⟩, hk.2.2⟩))) hg (.inl rfl)); have n2_ := Aside0.mk (Kd.R_after (v := (.slice (some ⟨go17, 0, none⟩) x5_3.length co8)) (v1 := (.slice (some ⟨go17, 0, none⟩) x5_3.length co8)) (ok := (fun k_ => some k_ ≠ (.slice Ao44 x2_3.length co44 : Value).ownBlock ∧ some k_ ≠ (u3 : Value).ownBlock)) (uR (Kd.R_mono HO_4.out (fun _ hk => ⟨⟨hk.1, hk.2.1⟩, hk.2.2⟩))) hg (.inl rfl)); have n3_ := Aside0.mk (hp_); have n4_ := Aside0.mk (blk_grown (g := gb204) (o := .cells #[.int .i64 a0_0, .int .i64 a0_1, .slice A0_2 l0_2.length c0_2, .slice (some ad220) l0_3.length c0_3] 25 (0, 0)) (uB BK204.out) hg (Kd.R_ne HO_5.out BK204.out (by decide))); have n5_ := Aside0.mk ((by rw [hw]; exact below_set (HB.out) GB17.out : Below w.heap.size w w46)); clear HO_2; clear HO_3; clear HO_4; clear HO_5; clear BK204; clear HB; have HO_2 := n0_; have HO_3 := n1_; have HO_4 := n2_; have HO_5 := n3_; have BK204 := n4_; have HB := n5_; clear n0_ n1_ n2_ n3_ n4_ n5_; clear hg hw hp_) | ((with_reducible refine gate_builtin (b := .append) (xs := #[.tmp 62, .tmp 64]) rfl ?_); at_builtin; refine Kd.R_append (Kd.int .i64) (w0 := w) w.heap.size rfl (.tmp 62) (.tmp 64) 38 3 (.int .i64 0) 8 rfl Try.underlying38 info3 rfl (by decide) (by omega) (.slice Ao44 x2_3.length co44) x2_3 (rd (rd_L1 l0_3 (rd x2_2 x7_2)) x47_3) [.int .i64 (rd (rd_L1 l0_3 (rd x2_2 x7_2)) x47_3)] (fun k_ => some k_ ≠ (u3 : Value).ownBlock ∧ some k_ ≠ (u4 : Value).ownBlock ∧ some k_ ≠ (.slice (some ⟨go17, 0, none⟩) x5_3.length co8 : Value).ownBlock) (fun _ => False) rfl rfl ?aP (fun _ hk => hk.elim) ?aF ?aO ?aB ?aS ?aL ?_; (case aP => exact rfl); (case aB => exact (by repeat (first | (with_reducible first | exact HB.out | apply below_alloc | apply pw_below_drewN | apply below_drew1 | refine below_set ?_ GE204.out) | exact HB.out))); (case aF => exact (fun k_ hk => ⟨Kd.fresh' (Kd.R_lt (uR HO_3.out)) k_ hk, Kd.fresh' (Kd.R_lt (uR HO_4.out)) k_ hk, Kd.fresh' (Kd.R_lt (uR HO_5.out)) k_ hk⟩)); (case aO => exact (uR (Kd.R_mono HO_2.out (fun _ hk => ⟨hk.1.1, ⟨hk.1.2, hk.2⟩⟩)))); (case aS => exact (below_size (by repeat (first | (with_reducible first | exact HB.out | apply below_alloc | apply pw_below_drewN | apply below_drew1 | refine below_set ?_ GE204.out) | exact HB.out)))); (case aL => have := LMc41.out; omega); intro v225 w47 ho hb hg hat; rw [← Ny224.out] at ho; have n0_ := Aside0.mk (Kd.R_after (ok := (fun k_ => some k_ ≠ (u4 : Value).ownBlock ∧ some k_ ≠ (.slice (some ⟨go17, 0, none⟩) x5_3.length co8 : Value).ownBlock)) (uR (Kd.R_mono HO_3.out (fun _ hk => ⟨⟨hk.1.2, hk.2⟩, hk.1.1⟩))) hg hat); have n1_ := Aside0.mk (Kd.R_after (ok := (fun k_ => some k_ ≠ (u3 : Value).ownBlock ∧ some k_ ≠ (.slice (some ⟨go17, 0, none⟩) x5_3.length co8 : Value).ownBlock)) (uR (Kd.R_mono HO_4.out (fun _ hk => ⟨⟨hk.1.2, hk.2⟩, hk.1.1⟩))) hg hat); have n2_ := Aside0.mk (Kd.R_after (ok := (fun k_ => some k_ ≠ (u3 : Value).ownBlock ∧ some k_ ≠ (u4 : Value).ownBlock)) (uR (Kd.R_mono HO_5.out (fun _ hk => ⟨⟨hk.2.1, hk.2.2⟩, hk.1⟩))) hg hat); have n3_ := Aside0.mk (blk_grown (g := gb204) (o := .cells #[.int .i64 a0_0, .int .i64 a0_1, .slice A0_2 l0_2.length c0_2, .slice (some ad220) l0_3.length c0_3] 25 (0, 0)) (uB BK204.out) hg (Kd.R_ne HO_2.out BK204.out (by decide))); have n4_ := Aside0.mk (hb); have n5_ := Aside0.mk (ho); clear HO_3; clear HO_4; clear HO_5; clear BK204; clear HB; clear HO_2; have HO_3 := n0_; have HO_4 := n1_; have HO_5 := n2_; have BK204 := n3_; have HB := n4_; have HO226 := n5_; clear n0_ n1_ n2_ n3_ n4_ n5_; clear ho hb hg hat) | ((with_reducible refine gate_builtin (b := .append) (xs := #[.tmp 66, .tmp 68]) rfl ?_); at_builtin; refine Kd.R_append (Kd.int .i64) (w0 := w) w.heap.size rfl (.tmp 66) (.tmp 68) 38 3 (.int .i64 0) 8 rfl Try.underlying38 info3 rfl (by decide) (by omega) u3 x3_3 x7_2 [.int .i64 x7_2] (fun k_ => some k_ ≠ (u4 : Value).ownBlock ∧ some k_ ≠ (.slice (some ⟨go17, 0, none⟩) x5_3.length co8 : Value).ownBlock ∧ some k_ ≠ (v225 : Value).ownBlock) (fun _ => False) rfl rfl ?aP (fun _ hk => hk.elim) ?aF ?aO ?aB ?aS ?aL ?_; (case aP => exact rfl); (case aB => exact (by repeat (first | (with_reducible first | exact HB.out | apply below_alloc | apply pw_below_drewN | apply below_drew1 | refine below_set ?_ GE204.out) | exact HB.out))); (case aF => exact (fun k_ hk => ⟨Kd.fresh' (Kd.R_lt (uR HO_4.out)) k_ hk, Kd.fresh' (Kd.R_lt (uR HO_5.out)) k_ hk, Kd.fresh' (Kd.R_lt (uR HO226.out)) k_ hk⟩)); (case aO => exact (uR (Kd.R_mono HO_3.out (fun _ hk => ⟨hk.1.1, ⟨hk.1.2, hk.2⟩⟩)))); (case aS => exact (below_size (by repeat (first | (with_reducible first | exact HB.out | apply below_alloc | apply pw_below_drewN | apply below_drew1 | refine below_set ?_ GE204.out) | exact HB.out)))); (case aL => have := LMc42.out; omega); intro v228 w48 ho hb hg hat; rw [← Ny227.out] at ho; have n0_ := Aside0.mk (Kd.R_after (ok := (fun k_ => some k_ ≠ (.slice (some ⟨go17, 0, none⟩) x5_3.length co8 : Value).ownBlock ∧ some k_ ≠ (v225 : Value).ownBlock)) (uR (Kd.R_mono HO_4.out (fun _ hk => ⟨⟨hk.1.2, hk.2⟩, hk.1.1⟩))) hg hat); have n1_ := Aside0.mk (Kd.R_after (ok := (fun k_ => some k_ ≠ (u4 : Value).ownBlock ∧ some k_ ≠ (v225 : Value).ownBlock)) (uR (Kd.R_mono HO_5.out (fun _ hk => ⟨⟨hk.1.2, hk.2⟩, hk.1.1⟩))) hg hat); have n2_ := Aside0.mk (blk_grown (g := gb204) (o := .cells #[.int .i64 a0_0, .int .i64 a0_1, .slice A0_2 l0_2.length c0_2, .slice (some ad220) l0_3.length c0_3] 25 (0, 0)) (uB BK204.out) hg (Kd.R_ne HO_3.out BK204.out (by decide))); have n3_ := Aside0.mk (Kd.R_after (ok := (fun k_ => some k_ ≠ (u4 : Value).ownBlock ∧ some k_ ≠ (.slice (some ⟨go17, 0, none⟩) x5_3.length co8 : Value).ownBlock)) (uR (Kd.R_mono HO226.out (fun _ hk => ⟨⟨hk.2.1, hk.2.2⟩, hk.1⟩))) hg hat); have n4_ := Aside0.mk (hb); have n5_ := Aside0.mk (ho); clear HO_4; clear HO_5; clear BK204; clear HO226; clear HB; clear HO_3; have HO_4 := n0_; have HO_5 := n1_; have BK204 := n2_; have HO226 := n3_; have HB := n4_; have HO229 := n5_; clear n0_ n1_ n2_ n3_ n4_ n5_; clear ho hb hg hat) | ((with_reducible refine gate_builtin (b := .append) (xs := #[.tmp 70, .tmp 72]) rfl ?_); at_builtin; refine Kd.R_append (Kd.int .i64) (w0 := w) w.heap.size rfl (.tmp 70) (.tmp 72) 38 3 (.int .i64 0) 8 rfl Try.underlying38 info3 rfl (by decide) (by omega) u4 x4_3 x47_3 [.int .i64 x47_3] (fun k_ => some k_ ≠ (.slice (some ⟨go17, 0, none⟩) x5_3.length co8 : Value).ownBlock ∧ some k_ ≠ (v225 : Value).ownBlock ∧ some k_ ≠ (v228 : Value).ownBlock) (fun _ => False) rfl rfl ?aP (fun _ hk => hk.elim) ?aF ?aO ?aB ?aS ?aL ?_; (case aP => exact rfl); (case aB => exact (by repeat (first | (with_reducible first | exact HB.out | apply below_alloc | apply pw_below_drewN | apply below_drew1 | refine below_set ?_ GE204.out) | exact HB.out))); (case aF => exact (fun k_ hk => ⟨Kd.fresh' (Kd.R_lt (uR HO_5.out)) k_ hk, Kd.fresh' (Kd.R_lt (uR HO226.out)) k_ hk, Kd.fresh' (Kd.R_lt (uR HO229.out)) k_ hk⟩)); (case aO => exact (uR (Kd.R_mono HO_4.out (fun _ hk => ⟨hk.1.1, ⟨hk.1.2, hk.2⟩⟩)))); (case aS => exact (below_size (by repeat (first | (with_reducible first | exact HB.out | apply below_alloc | apply pw_below_drewN | apply below_drew1 | refine below_set ?_ GE204.out) | exact HB.out)))); (case aL => have := LMc43.out; omega); intro v231 w49 ho hb hg hat; rw [← Ny230.out] at ho; have n0_ := Aside0.mk (Kd.R_after (ok := (fun k_ => some k_ ≠ (v225 : Value).ownBlock ∧ some k_ ≠ (v228 : Value).ownBlock)) (uR (Kd.R_mono HO_5.out (fun _ hk => ⟨⟨hk.1.2, hk.2⟩, hk.1.1⟩))) hg hat); have n1_ := Aside0.mk (blk_grown (g := gb204) (o := .cells #[.int .i64 a0_0, .int .i64 a0_1, .slice A0_2 l0_2.length c0_2, .slice (some ad220) l0_3.length c0_3] 25 (0, 0)) (uB BK204.out) hg (Kd.R_ne HO_4.out BK204.out (by decide))); have n2_ := Aside0.mk (Kd.R_after (ok := (fun k_ => some k_ ≠ (.slice (some ⟨go17, 0, none⟩) x5_3.length co8 : Value).ownBlock ∧ some k_ ≠ (v228 : Value).ownBlock)) (uR (Kd.R_mono HO226.out (fun _ hk => ⟨⟨hk.1.2, hk.2⟩, hk.1.1⟩))) hg hat); have n3_ := Aside0.mk (Kd.R_after (ok := (fun k_ => some k_ ≠ (.slice (some ⟨go17, 0, none⟩) x5_3.length co8 : Value).ownBlock ∧ some k_ ≠ (v225 : Value).ownBlock)) (uR (Kd.R_mono HO229.out (fun _ hk => ⟨⟨hk.2.1, hk.2.2⟩, hk.1⟩))) hg hat); have n4_ := Aside0.mk (hb); have n5_ := Aside0.mk (ho); clear HO_5; clear BK204; clear HO226; clear HO229; clear HB; clear HO_4; have HO_5 := n0_; have BK204 := n1_; have HO226 := n2_; have HO229 := n3_; have HB := n4_; have HO232 := n5_; clear n0_ n1_ n2_ n3_ n4_ n5_; clear ho hb hg hat)))
       (try simp only [← hl5_3])
       go_roundg k3
       case measure => have := HK1.out; have := HK2.out; have := HK3.out; omega
       case rel => exact ⟨(y224), (y227), (y230), (y223), (wrap64 (x47_3 + 1)), (by first | rfl | (simp; done) | (simp [*]; done)), H', ⟨by have := HK1.out; have := HK2.out; have := HK3.out; omega⟩, ⟨by (try simp only [hl5_1]); (try simp only [hl5_2]); (try simp only [hl5_3]); (with_reducible repeat (first | apply Kd.R_alloc | apply Kd.R_drewN | apply Kd.R_drew)); exact Kd.R_mono HO226.out (fun _ hk => ⟨hk.1.2, ⟨hk.2, hk.1.1⟩⟩)⟩, ⟨by (try simp only [hl5_1]); (try simp only [hl5_2]); (try simp only [hl5_3]); (with_reducible repeat (first | apply Kd.R_alloc | apply Kd.R_drewN | apply Kd.R_drew)); exact Kd.R_mono HO229.out (fun _ hk => ⟨hk.1.2, ⟨hk.2, hk.1.1⟩⟩)⟩, ⟨by (try simp only [hl5_1]); (try simp only [hl5_2]); (try simp only [hl5_3]); (with_reducible repeat (first | apply Kd.R_alloc | apply Kd.R_drewN | apply Kd.R_drew)); exact Kd.R_mono HO232.out (fun _ hk => ⟨hk.2.1, ⟨hk.2.2, hk.1⟩⟩)⟩, ⟨by (try simp only [hl5_1]); (try simp only [hl5_2]); (try simp only [hl5_3]); (with_reducible repeat (first | apply Kd.R_alloc | apply Kd.R_drewN | apply Kd.R_drew)); exact Kd.R_mono HO_5.out (fun _ hk => ⟨hk.1.1, ⟨hk.1.2, hk.2⟩⟩)⟩, ⟨by (try simp only [hl5_1]); (try simp only [hl5_2]); (try simp only [hl5_3]); (with_reducible repeat (first | refine blk_drewN ?_ _ | refine blk_drew ?_ | refine blk_alloc ?_ _)); exact BK204.out⟩, ⟨by repeat (first | (with_reducible first | exact HB.out | apply below_alloc | apply pw_below_drewN | apply below_drew1 | refine below_set ?_ GE204.out) | exact HB.out)⟩⟩
       )
       (focus
       rw [if_neg c43] at H
       exact absurd H (by simp)
       )
       )
       (focus
       rw [if_neg c42] at H
       exact absurd H (by simp)
       )
       )
       (focus
       rw [if_neg c41] at H
       exact absurd H (by simp)
       )
       )
       (focus
       rw [if_neg c39] at H
       have c39b0 : decide ((rd x5_3 (rd (rd_L1 l0_3 (rd x2_2 x7_2)) x47_3)) < 0) = false := decide_eq_false c39
       clear c39
       have H' := Aside0.mk H
       clear H
       have p221 : 0 ≤ (x47_3 : Int) := of_decide_eq_true (by first | (with_reducible assumption) | assumption)
       have q221 : x47_3 < ((rd_L1 l0_3 (rd x2_2 x7_2)).length : Int) := of_decide_eq_true (by first | (with_reducible assumption) | assumption)
       obtain ⟨ad221, e221, hx221_0⟩ := Kd.at_int HR220_0.out x47_3 p221 q221
       cases e221
       (try replace hx221_0 := (HB.out.cell (World.block_lt_of_cell? w _ hx221_0)).trans hx221_0)
       replace p221 := eq_true p221
       replace q221 := eq_true q221
       have p222 : 0 ≤ ((rd (rd_L1 l0_3 (rd x2_2 x7_2)) x47_3) : Int) := of_decide_eq_true (by first | (with_reducible assumption) | assumption)
       have q222 : (rd (rd_L1 l0_3 (rd x2_2 x7_2)) x47_3) < (x5_3.length : Int) := of_decide_eq_true (by first | (with_reducible assumption) | assumption)
       obtain ⟨ad222, e222, hx222_0⟩ := Kd.at_int (Kd.R_reads' HO_5.out).2.2 (rd (rd_L1 l0_3 (rd x2_2 x7_2)) x47_3) p222 q222
       obtain rfl : (⟨go17, 0, none⟩ : Addr) = ad222 := (by injection e222)
       (first | simp only [add_plain] at hx222_0 | simp only [add_at] at hx222_0 | simp only [Addr.add, Nat.zero_add] at hx222_0 | skip)
       replace p222 := eq_true p222
       replace q222 := eq_true q222
       go_wp2
       repeat (go_quiet (fail); try go_wp2)
       (try simp only [← hl5_3])
       go_roundg k3
       case measure => have := HK1.out; have := HK2.out; have := HK3.out; omega
       case rel => exact ⟨(x2_3), (x3_3), (x4_3), (x5_3), (wrap64 (x47_3 + 1)), (by first | rfl | (simp; done) | (simp [*]; done)), H', ⟨by have := HK1.out; have := HK2.out; have := HK3.out; omega⟩, ⟨by (try simp only [hl5_1]); (try simp only [hl5_2]); (try simp only [hl5_3]); (with_reducible repeat (first | apply Kd.R_alloc | apply Kd.R_drewN | apply Kd.R_drew)); exact HO_2.out⟩, ⟨by (try simp only [hl5_1]); (try simp only [hl5_2]); (try simp only [hl5_3]); (with_reducible repeat (first | apply Kd.R_alloc | apply Kd.R_drewN | apply Kd.R_drew)); exact HO_3.out⟩, ⟨by (try simp only [hl5_1]); (try simp only [hl5_2]); (try simp only [hl5_3]); (with_reducible repeat (first | apply Kd.R_alloc | apply Kd.R_drewN | apply Kd.R_drew)); exact HO_4.out⟩, ⟨by (try simp only [hl5_1]); (try simp only [hl5_2]); (try simp only [hl5_3]); (with_reducible repeat (first | apply Kd.R_alloc | apply Kd.R_drewN | apply Kd.R_drew)); exact HO_5.out⟩, ⟨by (try simp only [hl5_1]); (try simp only [hl5_2]); (try simp only [hl5_3]); (with_reducible repeat (first | refine blk_drewN ?_ _ | refine blk_drew ?_ | refine blk_alloc ?_ _)); exact BK204.out⟩, ⟨by repeat (first | (with_reducible first | exact HB.out | apply below_alloc | apply pw_below_drewN | apply below_drew1 | refine below_set ?_ GE204.out) | exact HB.out)⟩⟩
       )
       )
       (focus
       rw [if_neg c38] at H
       exact absurd H (by simp)
       )
       )
       (focus
       rw [if_neg c37] at H
       exact absurd H (by simp)
       )
       )
       (focus
       rw [if_neg c36] at H
       exact absurd H (by simp)
       )
       )
       (focus
       rw [if_neg c35] at H
       exact absurd H (by simp)
       )
       )
       (focus
       rw [if_neg c34] at H
       have c34b0 : decide (x47_3 < ((rd_L1 l0_3 (rd x2_2 x7_2)).length : Int)) = false := decide_eq_false c34
       (try (have c34b0_hl5_1 := c34b0; simp only [hl5_1] at c34b0_hl5_1))
       (try (have c34b0_hl5_2 := c34b0; simp only [hl5_2] at c34b0_hl5_2))
       (try (have c34b0_hl5_3 := c34b0; simp only [hl5_3] at c34b0_hl5_3))
       clear c34
       have H' := Aside0.mk H
       clear H
       go_wp2
       repeat (go_quiet (fail); try go_wp2)
       (try simp only [← hl5_2, ← hl5_3])
       go_roundg k3
       case measure => have := HK1.out; have := HK2.out; have := HK3.out; omega
       case rel => exact ⟨(x2_3), (x3_3), (x4_3), (x5_3), (wrap64 (x7_2 + 1)), (by first | rfl | (simp; done) | (simp [*]; done)), H', ⟨by have := HK1.out; have := HK2.out; have := HK3.out; omega⟩, ⟨by (try simp only [hl5_1]); (try simp only [hl5_2]); (try simp only [hl5_3]); (with_reducible repeat (first | apply Kd.R_alloc | apply Kd.R_drewN | apply Kd.R_drew)); exact HO_2.out⟩, ⟨by (try simp only [hl5_1]); (try simp only [hl5_2]); (try simp only [hl5_3]); (with_reducible repeat (first | apply Kd.R_alloc | apply Kd.R_drewN | apply Kd.R_drew)); exact HO_3.out⟩, ⟨by (try simp only [hl5_1]); (try simp only [hl5_2]); (try simp only [hl5_3]); (with_reducible repeat (first | apply Kd.R_alloc | apply Kd.R_drewN | apply Kd.R_drew)); exact HO_4.out⟩, ⟨by (try simp only [hl5_1]); (try simp only [hl5_2]); (try simp only [hl5_3]); (with_reducible repeat (first | apply Kd.R_alloc | apply Kd.R_drewN | apply Kd.R_drew)); exact HO_5.out⟩, ⟨by (try simp only [hl5_1]); (try simp only [hl5_2]); (try simp only [hl5_3]); (with_reducible repeat (first | refine blk_drewN ?_ _ | refine blk_drew ?_ | refine blk_alloc ?_ _)); exact BK204.out⟩, ⟨by repeat (first | (with_reducible first | exact HB.out | apply below_alloc | apply pw_below_drewN | apply below_drew1 | refine below_set ?_ GE204.out) | exact HB.out)⟩⟩
       )
     )
     (focus
     rw [if_neg c31] at H
     exact absurd H (by simp)
     )
     )
     (focus
     rw [if_neg c30] at H
     exact absurd H (by simp)
     )
     )
     (focus
     rw [if_neg c29] at H
     exact absurd H (by simp)
     )
     )
     (focus
     rw [if_neg c28] at H
     have c28b0 : decide (x7_2 < (x2_2.length : Int)) = false := decide_eq_false c28
     (try (have c28b0_hl5_1 := c28b0; simp only [hl5_1] at c28b0_hl5_1))
     (try (have c28b0_hl5_2 := c28b0; simp only [hl5_2] at c28b0_hl5_2))
     clear c28
     simp only [Option.some.injEq, Prod.mk.injEq] at H
     obtain ⟨rfl, rfl, rfl, rfl⟩ := H
     obtain ⟨Ao50, co50, eo50⟩ := Kd.R_slice HO_2.out
     subst eo50
     go_wp2
     repeat (go_quiet (fail); try go_wp2)
     refine bodyPost_ret (results_list (rs := [.tmp 2, .tmp 3, .tmp 4, .tmp 5]) rfl (by simp) (.tmp (.tmp (.tmp (.tmp .nil))))) rfl ?_
     exact ⟨_, _, _, _, by first | rfl | (simp [errW_none, errW_some] <;> rfl) | (simp [*, errW_none, errW_some] <;> rfl), (by first | exact (uR HO_2.out) | (simp only [hl5_1, hl5_2]; exact (uR HO_2.out))), (by first | exact (uR HO_3.out) | (simp only [hl5_1, hl5_2]; exact (uR HO_3.out))), (by first | exact (uR HO_4.out) | (simp only [hl5_1, hl5_2]; exact (uR HO_4.out))), (by first | exact (uR HO_5.out) | (simp only [hl5_1, hl5_2]; exact (uR HO_5.out))), by repeat (first | (with_reducible first | exact HB.out | apply below_alloc | apply pw_below_drewN | apply below_drew1 | refine below_set ?_ GE204.out) | exact HB.out)⟩
     )
   )
   (focus
   rw [if_neg c16] at H
   exact absurd H (by simp)
   )
   )
   (focus
   rw [if_neg c15] at H
   exact absurd H (by simp)
   )
   )
 )
 (focus
 rw [if_neg c3] at H
 exact absurd H (by simp)
 )
 )
 (focus
 rw [if_neg c2] at H
 exact absurd H (by simp)
 )
end Go.Proofs.Ytpjbmgoagehjkaa.PDfaInfinite
