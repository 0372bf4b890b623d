-- by hp.py of this repo, over the kit's print: Lean checks it
import Derived.Test.YtjpghckijecdcaaPPartitionBoundsx0
import Derived.Test.YtjpghckijecdcaaPPartitionBoundsx1
import Derived.Test.YtjpghckijecdcaaPPartitionBoundsx2
namespace Go.Proofs.Ytjpghckijecdcaa.PPartitionBounds
open Go.RowKit Go.Proofs.YtjpghckijecdcaaH Go.Proofs.YtjpghckijecdcaaW.PrintWords Go.Proofs.YtjpghckijecdcaaW.PrintLast Go.Proofs.YtjpghckijecdcaaW.PrintMore
attribute [local go_sem] max2_int min2_int max_two min_two max_three min_three max_four min_four   -- for this text's walks alone
set_option linter.unusedVariables false
set_option linter.unusedSimpArgs false

/-! ### partition_Join: function 39 -/
mutual
def partition_Join.l0 : Nat → List Int → List (List Int) → Int → Int → Option (List Int)
  | 0, _, _, _, _ => none
  | k + 1, x5, x22, x23, x24 => if x24 < x23 then (if 0 ≤ x24 then (if x24 < (x22.length : Int) then (partition_Join.l1 k x5 x22 x23 x24 (rd_L1 x22 x24) ((rd_L1 x22 x24).length : Int) 0 (AM.nil : AM Int Int)) else (none)) else (none)) else ((partition_forest_partition.f k x5).bind fun bt160 => (some bt160.1))
def partition_Join.l1 : Nat → List Int → List (List Int) → Int → Int → List Int → Int → Int → AM Int Int → Option (List Int)
  | 0, _, _, _, _, _, _, _, _ => none
  | k + 1, x5, x22, x23, x24, x29, x30, x31, x166000 => if x31 < x30 then (if 0 ≤ x31 then (if x31 < (x29.length : Int) then (if (AM.has x166000 (rd x29 x31)) = true then ((partition_forest_union.f k x5 x31 (AM.get x166000 (rd x29 x31) 0)).bind fun t167 => (partition_Join.l1 k t167 x22 x23 x24 x29 x30 (wrap64 (x31 + 1)) x166000)) else (partition_Join.l1 k x5 x22 x23 x24 x29 x30 (wrap64 (x31 + 1)) (AM.put x166000 (rd x29 x31) x31))) else (none)) else (none)) else (partition_Join.l0 k x5 x22 x23 (wrap64 (x24 + 1)))
end
def partition_Join.f (k : Nat) (l0 : List Int) (l1 : List Int) : Option (List Int) := (partition_both.f k l0 l1).bind fun t153 => (if t153 = true then ((partition_newForest.f k (l0.length : Int)).bind fun t154 => ((some (([l0, l1] : List (List Int)) : List (List Int))).bind fun y157 => (partition_Join.l0 k t154 y157 (y157.length : Int) 0))) else (some ([] : List Int)))
theorem partition_Join.mono_l : ∀ k, (∀ y0 y1 y2 y3, LeO (partition_Join.l0 k y0 y1 y2 y3) (partition_Join.l0 (k + 1) y0 y1 y2 y3)) ∧ (∀ y0 y1 y2 y3 y4 y5 y6 y7, LeO (partition_Join.l1 k y0 y1 y2 y3 y4 y5 y6 y7) (partition_Join.l1 (k + 1) y0 y1 y2 y3 y4 y5 y6 y7))
  | 0 => ⟨fun _ _ _ _ r h => by simp [partition_Join.l0] at h, fun _ _ _ _ _ _ _ _ r h => by simp [partition_Join.l1] at h⟩
  | k + 1 => by
    obtain ⟨ih0, ih1⟩ := partition_Join.mono_l k
    refine ⟨?_, ?_⟩
    · intro y0 y1 y2 y3
      unfold partition_Join.l0
      repeat' first
      | (with_reducible exact ih0 _ _ _ _)
      | (with_reducible exact ih1 _ _ _ _ _ _ _ _)
      | (with_reducible exact partition_both.mono _ _ _)
      | (with_reducible exact partition_forest_partition.mono _ _)
      | (with_reducible exact partition_forest_union.mono _ _ _ _)
      | (with_reducible exact partition_newForest.mono _ _)
      | (with_reducible exact LeO.refl _)
      | (with_reducible exact LeO.none _)
      | (with_reducible refine LeO.ite ?_ ?_)
      | (with_reducible refine LeO.bind ?_ (fun _ => ?_))
      | exact ih0 _ _ _ _
      | exact ih1 _ _ _ _ _ _ _ _
      | exact partition_both.mono _ _ _
      | exact partition_forest_partition.mono _ _
      | exact partition_forest_union.mono _ _ _ _
      | exact partition_newForest.mono _ _
      | exact LeO.none _
      | refine LeO.ite ?_ ?_
      | refine LeO.bind ?_ (fun _ => ?_)
    · intro y0 y1 y2 y3 y4 y5 y6 y7
      unfold partition_Join.l1
      repeat' first
      | (with_reducible exact ih0 _ _ _ _)
      | (with_reducible exact ih1 _ _ _ _ _ _ _ _)
      | (with_reducible exact partition_both.mono _ _ _)
      | (with_reducible exact partition_forest_partition.mono _ _)
      | (with_reducible exact partition_forest_union.mono _ _ _ _)
      | (with_reducible exact partition_newForest.mono _ _)
      | (with_reducible exact LeO.refl _)
      | (with_reducible exact LeO.none _)
      | (with_reducible refine LeO.ite ?_ ?_)
      | (with_reducible refine LeO.bind ?_ (fun _ => ?_))
      | exact ih0 _ _ _ _
      | exact ih1 _ _ _ _ _ _ _ _
      | exact partition_both.mono _ _ _
      | exact partition_forest_partition.mono _ _
      | exact partition_forest_union.mono _ _ _ _
      | exact partition_newForest.mono _ _
      | exact LeO.none _
      | refine LeO.ite ?_ ?_
      | refine LeO.bind ?_ (fun _ => ?_)
theorem partition_Join.mono : ∀ a0 a1 k, LeO (partition_Join.f k a0 a1) (partition_Join.f (k + 1) a0 a1) := by
  intro a0 a1 k
  obtain ⟨ih0, ih1⟩ := partition_Join.mono_l k
  unfold partition_Join.f
  repeat' first
      | (with_reducible exact ih0 _ _ _ _)
      | (with_reducible exact ih1 _ _ _ _ _ _ _ _)
      | (with_reducible exact partition_both.mono _ _ _)
      | (with_reducible exact partition_forest_partition.mono _ _)
      | (with_reducible exact partition_forest_union.mono _ _ _ _)
      | (with_reducible exact partition_newForest.mono _ _)
      | (with_reducible exact LeO.refl _)
      | (with_reducible exact LeO.none _)
      | (with_reducible refine LeO.ite ?_ ?_)
      | (with_reducible refine LeO.bind ?_ (fun _ => ?_))
      | exact ih0 _ _ _ _
      | exact ih1 _ _ _ _ _ _ _ _
      | exact partition_both.mono _ _ _
      | exact partition_forest_partition.mono _ _
      | exact partition_forest_union.mono _ _ _ _
      | exact partition_newForest.mono _ _
      | exact LeO.none _
      | refine LeO.ite ?_ ?_
      | refine LeO.bind ?_ (fun _ => ?_)
set_option maxHeartbeats 8000000 in
set_option maxRecDepth 100000 in
theorem partition_Join.calls (k : Nat) (P0_ : Nat → Prop) (A0 : Option Addr) (c0 : Nat) (l0 : List Int) (P1_ : Nat → Prop) (A1 : Option Addr) (c1 : Nat) (l1 : List Int) (r : List Int) (w : World) (hs0 : Kd.V (Kd.int .i64) 3 w w.heap.size (fun k_ => P0_ k_) (.slice A0 l0.length c0) l0) (hs1 : Kd.V (Kd.int .i64) 3 w w.heap.size (fun k_ => P1_ k_) (.slice A1 l1.length c1) l1) (h : partition_Join.f k l0 l1 = some r) :
    Calls Try.prog 39 #[.slice A0 l0.length c0, .slice A1 l1.length c1] w fun e w' => ∃ v0_ : Value, e = .returned (v0_) ∧ Kd.R (Kd.int .i64) 3 w' w.heap.size (fun k_ => (w.heap.size ≤ k_)) v0_ r ∧ Below w.heap.size w w' := by
  have HO0 := Aside0.mk (show Kd.V (Kd.int .i64) 3 w w.heap.size (fun k_ => ((P0_ k_ ∨ P1_ k_) ∨ w.heap.size ≤ k_)) (.slice A0 l0.length c0) l0 from Kd.V_mono hs0 (fun k_ hk => .inl (.inl hk)))
  have HO1 := Aside0.mk (show Kd.V (Kd.int .i64) 3 w w.heap.size (fun k_ => ((P0_ k_ ∨ P1_ k_) ∨ w.heap.size ≤ k_)) (.slice A1 l1.length c1) l1 from Kd.V_mono hs1 (fun k_ hk => .inl (.inr hk)))
  have HB := Aside0.mk (Below.refl w.heap.size w)
  have H : ((partition_both.f k l0 l1).bind fun t153 => (if t153 = true then ((partition_newForest.f k (l0.length : Int)).bind fun t154 => ((some (([l0, l1] : List (List Int)) : List (List Int))).bind fun y157 => (partition_Join.l0 k t154 y157 (y157.length : Int) 0))) else (some ([] : List Int)))) = some r := h
  clear h
  replace H := Option.bind_eq_some_iff.mp H
  obtain ⟨t153, A30, H⟩ := H
  replace H : (if t153 = true then ((partition_newForest.f k (l0.length : Int)).bind fun t154 => ((some (([l0, l1] : List (List Int)) : List (List Int))).bind fun y157 => (partition_Join.l0 k t154 y157 (y157.length : Int) 0))) else (some ([] : List Int))) = some r := H
  have A3 := Aside0.mk A30
  clear A30
  by_cases c4 : t153 = true
  · subst c4
    have H1 : ((partition_newForest.f k (l0.length : Int)).bind fun t154 => ((some (([l0, l1] : List (List Int)) : List (List Int))).bind fun y157 => (partition_Join.l0 k t154 y157 (y157.length : Int) 0))) = some r := by rw [if_pos rfl] at H; exact H
    clear H
    have H := H1
    clear H1
    replace H := Option.bind_eq_some_iff.mp H
    obtain ⟨t154, A50, H⟩ := H
    replace H : ((some (([l0, l1] : List (List Int)) : List (List Int))).bind fun y157 => (partition_Join.l0 k t154 y157 (y157.length : Int) 0)) = some r := H
    have A5 := Aside0.mk A50
    clear A50
    obtain ⟨y157, hy157⟩ : ∃ y_ : List (List Int), y_ = (([l0, l1] : List (List Int))) := ⟨_, rfl⟩
    replace H : (partition_Join.l0 k t154 y157 (y157.length : Int) 0) = some r := by first | (rw [hy157]; with_reducible exact H) | (have H2_ := (Option.bind_some _ _).symm.trans H; rw [hy157]; with_reducible exact H2_) | (have H2_ := (Option.bind_some _ _).symm.trans H; with_reducible exact H2_) | with_reducible exact H | (rw [hy157]; exact H) | exact H
    have Ny157 := Aside0.mk hy157
    clear hy157
    have H' := Aside0.mk H
    clear H
    go_enter Try.func39, Try.ntmps39
    go_wp2_with (first | ((with_reducible refine gate_callee (f := 47) rfl ?_); refine goesL_ (some 15) rfl rfl Try.func47 (by kernel_rfl) rfl #[.slice A0 l0.length c0, .slice A1 l1.length c1] rfl (by (try simp only [List.map_toArray, List.map_cons, List.map_nil]); first | done | rfl | (simp only [List.length_drop, List.length_take]; rfl)) ?_; (with_reducible refine (partition_both.calls k _ _ l0 _ _ l1 true _ ?side1 ?side2 ?side3 ?side4 A3.out).mono ?_); (case side1 => repeat (first | exact (Kd.V_reads' HO0.out).2.2 | (with_reducible refine Kd.C_alloc ?_ _) | (with_reducible refine Kd.C_drewN ?_ _) | (with_reducible refine Kd.C_drew ?_))); (case side2 => exact (Kd.V_reads' HO0.out).2.1); (case side3 => repeat (first | exact (Kd.V_reads' HO1.out).2.2 | (with_reducible refine Kd.C_alloc ?_ _) | (with_reducible refine Kd.C_drewN ?_ _) | (with_reducible refine Kd.C_drew ?_))); (case side4 => exact (Kd.V_reads' HO1.out).2.1); rintro e w' ⟨rfl, ⟨nd, rfl⟩⟩; refine ⟨_, rfl, ?_⟩) | ((with_reducible refine gate_callee (f := 43) rfl ?_); refine goesL_ (some 19) rfl rfl Try.func43 (by kernel_rfl) rfl #[.int .i64 (l0.length : Int)] rfl (by (try simp only [List.map_toArray, List.map_cons, List.map_nil]); first | done | rfl | (simp only [List.length_drop, List.length_take]; rfl)) ?_; (with_reducible refine (partition_newForest.calls k (l0.length : Int) t154 _ A5.out).mono ?_); rintro e w6 ⟨v155, rfl, ho0, hb⟩; refine ⟨_, rfl, ?_⟩; have n0_ := Aside0.mk (Kd.V_elder' (by (with_reducible repeat (first | apply Kd.V_alloc | apply Kd.V_drewN | apply Kd.V_drew)); exact HO0.out) (Kd.R_base ho0) hb); have n1_ := Aside0.mk (Kd.V_elder' (by (with_reducible repeat (first | apply Kd.V_alloc | apply Kd.V_drewN | apply Kd.V_drew)); exact HO1.out) (Kd.R_base ho0) hb); have n2_ := Aside0.mk (Kd.R_lower (Kd.R_newM (M := fun k_ => (w.heap.size ≤ k_)) ho0 (below_size (by repeat (first | (with_reducible first | exact HB.out | apply below_alloc | apply pw_below_drewN | apply below_drew1) | exact HB.out))) (fun k_ h_ => h_)) (below_size (by repeat (first | (with_reducible first | exact HB.out | apply below_alloc | apply pw_below_drewN | apply below_drew1) | exact HB.out)))); have n3_ := Aside0.mk (below_step (by repeat (first | (with_reducible first | exact HB.out | apply below_alloc | apply pw_below_drewN | apply below_drew1) | exact HB.out)) hb); clear HO0; clear HO1; clear HB; have HO0 := n0_; have HO1 := n1_; have HO156 := n2_; have HB := n3_; clear n0_ n1_ n2_ n3_; (try clear hb); (try clear hb2); (try clear hk); (try clear hi); (try clear ho0)) | ((with_reducible refine gate_dst (N := 22) rfl ?_); refine Kd.N_lit (Kd.slice 3 (Kd.int .i64)) _ 22 ?hg (N' := 22) ?hd (xs := ([l0, l1] : List (List Int))) (inner := [.slice A0 l0.length c0, .slice A1 l1.length c1]) (ok := (fun k_ => ((P0_ k_ ∨ P1_ k_) ∨ w.heap.size ≤ k_) ∧ some k_ ≠ (v155 : Value).ownBlock)) (okp := (fun k_ => ((P0_ k_ ∨ P1_ k_) ∨ w.heap.size ≤ k_) ∧ some k_ ≠ (v155 : Value).ownBlock)) ?hr ?hp (fun _ hk => hk) ((show ∀ k_, w6.heap.size ≤ k_ → (fun k_ => ((P0_ k_ ∨ P1_ k_) ∨ w.heap.size ≤ k_) ∧ some k_ ≠ (v155 : Value).ownBlock) k_ from fun k_ hk => ⟨(.inr (Nat.le_trans (below_size (by repeat (first | (with_reducible first | exact HB.out | apply below_alloc | apply pw_below_drewN | apply below_drew1) | exact HB.out))) hk)), Kd.fresh' (Kd.R_lt (by (with_reducible repeat (first | apply Kd.R_alloc | apply Kd.R_drewN | apply Kd.R_drew)); exact HO156.out)) k_ hk⟩) _ (Nat.le_refl _)) (Below.refl _ _) (Nat.le_refl _) (by simp) ?_; (case hd => rfl); (case hg => rfl); (case hr => first | (go_simp; done) | (go_simp; rfl)); (case hp => exact (Reps.one (show Kd.FK (Kd.slice 3 (Kd.int .i64)) _ _ l0 [.slice A0 l0.length c0] from (Kd.FK_slice_mk (Kd.V_reads' (Kd.V_mono (ok' := (fun k_ => ((P0_ k_ ∨ P1_ k_) ∨ w.heap.size ≤ k_) ∧ some k_ ≠ (v155 : Value).ownBlock)) (HO0.out) (fun k_ hk => ⟨hk.1, hk.2⟩))).2.1 (Kd.V_F (Kd.V_mono (ok' := (fun k_ => ((P0_ k_ ∨ P1_ k_) ∨ w.heap.size ≤ k_) ∧ some k_ ≠ (v155 : Value).ownBlock)) (HO0.out) (fun k_ hk => ⟨hk.1, hk.2⟩))))) (Reps.one (show Kd.FK (Kd.slice 3 (Kd.int .i64)) _ _ l1 [.slice A1 l1.length c1] from (Kd.FK_slice_mk (Kd.V_reads' (Kd.V_mono (ok' := (fun k_ => ((P0_ k_ ∨ P1_ k_) ∨ w.heap.size ≤ k_) ∧ some k_ ≠ (v155 : Value).ownBlock)) (HO1.out) (fun k_ hk => ⟨hk.1, hk.2⟩))).2.1 (Kd.V_F (Kd.V_mono (ok' := (fun k_ => ((P0_ k_ ∨ P1_ k_) ∨ w.heap.size ≤ k_) ∧ some k_ ≠ (v155 : Value).ownBlock)) (HO1.out) (fun k_ hk => ⟨hk.1, hk.2⟩))))) (Reps.none _ _)))); intro v158 w7 ho8 hb hg_ hnew_; clear hg_ hnew_; (first | rw [← Ny157.out] at ho8 | (simp only [Int.reduceToNat] at ho8; rw [← Ny157.out] at ho8)); have n0_ := Aside0.mk (Kd.V_elder' (by (with_reducible repeat (first | apply Kd.V_alloc | apply Kd.V_drewN | apply Kd.V_drew)); exact HO0.out) (Kd.N_base ho8) hb); have n1_ := Aside0.mk (Kd.V_elder' (by (with_reducible repeat (first | apply Kd.V_alloc | apply Kd.V_drewN | apply Kd.V_drew)); exact HO1.out) (Kd.N_base ho8) hb); have n2_ := Aside0.mk (Kd.R_below (by (with_reducible repeat (first | apply Kd.R_alloc | apply Kd.R_drewN | apply Kd.R_drew)); exact HO156.out) hb); have n3_ := Aside0.mk (Kd.N_lower ho8 (below_size (by repeat (first | (with_reducible first | exact HB.out | apply below_alloc | apply pw_below_drewN | apply below_drew1) | exact HB.out)))); have n4_ := Aside0.mk (below_step (by repeat (first | (with_reducible first | exact HB.out | apply below_alloc | apply pw_below_drewN | apply below_drew1) | exact HB.out)) hb); clear HO0; clear HO1; clear HO156; clear HB; have HO0 := n0_; have HO1 := n1_; have HO156 := n2_; have HO159 := n3_; have HB := n4_; clear n0_ n1_ n2_ n3_ n4_; clear hb ho8; obtain ⟨Ao9, co9, eo9⟩ := Kd.N_slice HO159.out; subst eo9))
    go_loopg [24] k (fun kq v24 w' => ∃ (x5_1 : List Int) (x24_1 : Int), v24 = .int .i64 x24_1 ∧ Aside0 (partition_Join.l0 kq x5_1 y157 (y157.length : Int) x24_1 = some r) ∧ Aside0 (kq ≤ k) ∧ Aside0 (Kd.R (Kd.int .i64) 3 w' w.heap.size (fun k_ => (w.heap.size ≤ k_)) v155 x5_1) ∧ Aside0 (Kd.N (Kd.slice 3 (Kd.int .i64)) 22 w' w.heap.size (fun k_ => ((P0_ k_ ∨ P1_ k_) ∨ w.heap.size ≤ k_) ∧ some k_ ≠ (v155 : Value).ownBlock) (.slice Ao9 y157.length co9) y157) ∧ Aside0 (Below w.heap.size w w'))
    case atStart => exact ⟨(t154), (0), (by first | rfl | (simp; done) | (simp [*]; done)), H', ⟨Nat.le_refl _⟩, ⟨by (with_reducible repeat (first | apply Kd.R_alloc | apply Kd.R_drewN | apply Kd.R_drew)); exact Kd.R_mono HO156.out (fun _ hk => hk.1)⟩, ⟨by (with_reducible repeat (first | apply Kd.N_alloc | apply Kd.N_drewN | apply Kd.N_drew)); exact HO159.out⟩, ⟨by repeat (first | (with_reducible first | exact HB.out | apply below_alloc | apply pw_below_drewN | apply below_drew1) | exact HB.out)⟩⟩
    case round =>
      clear H'
      try clear c1
      try clear p2
      try clear c3
      try clear c4
      obtain ⟨x5_1, x24_1, rfl, HA, HK1, HO_5, HO_22, HB⟩ := hrel
      cases gk with
      | zero => exact absurd HA.out (by simp [partition_Join.l0])
      | succ k1 =>
        have H := HA.out
        clear HA
        simp only [partition_Join.l0] at H
        by_cases c10 : x24_1 < (y157.length : Int)
        · rw [if_pos c10] at H
          have c10b0 : decide (x24_1 < (y157.length : Int)) = true := decide_eq_true c10
          clear c10
          by_cases c11 : 0 ≤ x24_1
          · rw [if_pos c11] at H
            have c11b0 : decide (0 ≤ x24_1) = true := decide_eq_true c11
            clear c11
            by_cases c12 : x24_1 < (y157.length : Int)
            · rw [if_pos c12] at H
              have c12b0 : decide (x24_1 < (y157.length : Int)) = true := decide_eq_true c12
              clear c12
              have H' := Aside0.mk H
              clear H
              have p164 : 0 ≤ (x24_1 : Int) := of_decide_eq_true (by first | (with_reducible assumption) | assumption)
              have q164 : x24_1 < (y157.length : Int) := of_decide_eq_true (by first | (with_reducible assumption) | assumption)
              obtain ⟨ad164, A164_0, c164_0, e164, hx164_0, hl164_0, hi164_0⟩ := at_L1 (Kd.N_reads' HO_22.out).2.2 x24_1 p164 q164
              cases e164
              obtain ⟨ce164, hce164, hMe164, hcc164⟩ := Kd.N_get HO_22.out [] x24_1 p164 (by first | exact q164 | exact of_decide_eq_true (by first | (with_reducible assumption) | assumption) | (have e_ := (Kd.N_reads' HO_22.out).1; omega))
              obtain ⟨ua164_0, uc164_0, rfl, ul164_0, ge164_0⟩ := Kd.FK_slice_open hMe164
              have hv164_0 := hcc164 0 _ rfl
              rw [Nat.add_zero, show ((Kd.slice 3 (Kd.int .i64))).sz = 1 from rfl, Nat.mul_one] at hv164_0
              replace hv164_0 := Option.some.inj (hv164_0.symm.trans hx164_0)
              injection hv164_0 with hva_ hvn_ hvc_
              rw [hva_] at ge164_0
              rw [hvc_] at ul164_0
              have HL164_0 := Aside0.mk (show Kd.V (Kd.int .i64) 3 _ w.heap.size _ _ (rd_L1 y157 x24_1) from Kd.V_mk ul164_0 ge164_0)
              clear hva_ hvn_ hvc_ ge164_0 ul164_0
              clear hcc164 hce164
              have HR164_0 := Aside0.mk hi164_0
              have HC164_0 := Aside0.mk hl164_0
              clear hi164_0 hl164_0
              replace p164 := eq_true p164
              replace q164 := eq_true q164
              go_wp2_with (first | ((with_reducible refine gate_dst (N := 28) rfl ?_); refine map_event (Value.int .i64) (Value.int .i64) ?hg (N := 28) ?hd ?hr ?_; (case hd => rfl); (case hg => rfl); (case hr => first | rfl | (go_simp; done) | (go_simp; rfl)); intro gb165 hg w13 hbox hb; have n0_ := Aside0.mk (Kd.R_below (by (with_reducible repeat (first | apply Kd.R_alloc | apply Kd.R_drewN | apply Kd.R_drew)); exact HO_5.out) hb); have n1_ := Aside0.mk (Kd.N_below (Kd.N_elderB (by (with_reducible repeat (first | apply Kd.N_alloc | apply Kd.N_drewN | apply Kd.N_drew)); exact HO_22.out) gb165 (Nat.le_of_eq hg.symm)) hb); have n2_ := Aside0.mk (Kd.V_below (Kd.V_elderB (by (with_reducible repeat (first | apply Kd.V_alloc | apply Kd.V_drewN | apply Kd.V_drew)); exact HL164_0.out) gb165 (Nat.le_of_eq hg.symm)) hb); have n3_ := Aside0.mk (Kd.C_below (by repeat (first | (with_reducible exact HR164_0.out) | (with_reducible refine Kd.C_alloc ?_ _) | (with_reducible refine Kd.C_drewN ?_ _) | (with_reducible refine Kd.C_drew ?_) | exact HR164_0.out)) hb); have n4_ := Aside0.mk (below_step (by repeat (first | (with_reducible first | exact HB.out | apply below_alloc | apply pw_below_drewN | apply below_drew1) | exact HB.out)) hb); have n5_ := Aside0.mk (hbox); have n6_ := Aside0.mk ((by rw [hg]; exact (below_size (by repeat (first | (with_reducible first | exact HB.out | apply below_alloc | apply pw_below_drewN | apply below_drew1) | exact HB.out))) : w.heap.size ≤ gb165)); have n7_ := Aside0.mk ((by rw [hg]; exact (below_size (by repeat (first | (with_reducible first | exact HB.out | apply below_alloc | apply pw_below_drewN | apply below_drew1) | exact HB.out))) : w.heap.size ≤ gb165)); clear HO_5; clear HO_22; clear HL164_0; clear HR164_0; clear HB; have HO_5 := n0_; have HO_22 := n1_; have HL164_0 := n2_; have HR164_0 := n3_; have HB := n4_; have BK165 := n5_; have GW165 := n6_; have GE165 := n7_; clear n0_ n1_ n2_ n3_ n4_ n5_ n6_ n7_; clear hb hbox hg))
              go_loopg [31] k1 (fun kq v31 w' => ∃ (x5_2 : List Int) (x31_2 : Int) (x166000_2 : AM Int Int), v31 = .int .i64 x31_2 ∧ Aside0 (partition_Join.l1 kq x5_2 y157 (y157.length : Int) x24_1 (rd_L1 y157 x24_1) ((rd_L1 y157 x24_1).length : Int) x31_2 x166000_2 = some r) ∧ Aside0 (kq ≤ k1) ∧ Aside0 (Kd.R (Kd.int .i64) 3 w' w.heap.size (fun k_ => (w.heap.size ≤ k_)) v155 x5_2) ∧ Aside0 (Kd.N (Kd.slice 3 (Kd.int .i64)) 22 w' w.heap.size (fun k_ => ((P0_ k_ ∨ P1_ k_) ∨ w.heap.size ≤ k_) ∧ some k_ ≠ (v155 : Value).ownBlock ∧ k_ ≠ gb165) (.slice (some ad164) y157.length co9) y157) ∧ Aside0 (w'.heap[gb165]? = some (mapO (Value.int .i64) (Value.int .i64) x166000_2)) ∧ Aside0 (Kd.V (Kd.int .i64) 3 w' w.heap.size (fun k_ => ((P0_ k_ ∨ P1_ k_) ∨ w.heap.size ≤ k_) ∧ some k_ ≠ (v155 : Value).ownBlock ∧ some k_ ≠ ((.slice (some ad164) y157.length co9) : Value).ownBlock ∧ k_ ≠ gb165) (.slice A164_0 (rd_L1 y157 x24_1).length c164_0) (rd_L1 y157 x24_1)) ∧ Aside0 (Kd.C (Kd.int .i64) w' A164_0 (rd_L1 y157 x24_1).length (rd_L1 y157 x24_1)) ∧ Aside0 (Below w.heap.size w w'))
              case atStart => exact ⟨(x5_1), (0), ((AM.nil : AM Int Int)), (by first | rfl | (simp; done) | (simp [*]; done)), H', ⟨Nat.le_refl _⟩, ⟨by (with_reducible repeat (first | apply Kd.R_alloc | apply Kd.R_drewN | apply Kd.R_drew)); exact HO_5.out⟩, ⟨by (with_reducible repeat (first | apply Kd.N_alloc | apply Kd.N_drewN | apply Kd.N_drew)); exact Kd.N_mono HO_22.out (fun _ hk => ⟨hk.1.1, ⟨hk.1.2, hk.2⟩⟩)⟩, ⟨by (with_reducible repeat (first | refine blk_drewN ?_ _ | refine blk_drew ?_ | refine blk_alloc ?_ _)); exact BK165.out⟩, ⟨by (with_reducible repeat (first | apply Kd.V_alloc | apply Kd.V_drewN | apply Kd.V_drew)); exact Kd.V_mono HL164_0.out (fun _ hk => ⟨hk.1.1.1, ⟨hk.1.1.2, ⟨hk.1.2, hk.2⟩⟩⟩)⟩, ⟨by repeat (first | (with_reducible exact HR164_0.out) | (with_reducible refine Kd.C_alloc ?_ _) | (with_reducible refine Kd.C_drewN ?_ _) | (with_reducible refine Kd.C_drew ?_) | exact HR164_0.out)⟩, ⟨by repeat (first | (with_reducible first | exact HB.out | apply below_alloc | apply pw_below_drewN | apply below_drew1 | refine below_set ?_ GE165.out) | exact HB.out)⟩⟩
              case round =>
                clear H'
                try clear c1
                try clear p1
                try clear q1
                try clear hx1
                try clear p2
                try clear c3
                try clear c4
                try clear c10
                try clear c10b0
                try clear c11
                try clear c11b0
                try clear c12
                try clear c12b0
                try clear hx164_0
                try clear p164
                try clear p2
                try clear q164
                obtain ⟨x5_2, x31_2, x166000_2, rfl, HA, HK2, HO_5, HO_22, BK165, HL164_0, HR164_0, HB⟩ := hrel
                cases gk with
                | zero => exact absurd HA.out (by simp [partition_Join.l1])
                | succ k2 =>
                  have H := HA.out
                  clear HA
                  simp only [partition_Join.l1] at H
                  by_cases c14 : x31_2 < ((rd_L1 y157 x24_1).length : Int)
                  · rw [if_pos c14] at H
                    have c14b0 : decide (x31_2 < ((rd_L1 y157 x24_1).length : Int)) = true := decide_eq_true c14
                    clear c14
                    by_cases c15 : 0 ≤ x31_2
                    · rw [if_pos c15] at H
                      have c15b0 : decide (0 ≤ x31_2) = true := decide_eq_true c15
                      clear c15
                      by_cases c16 : x31_2 < ((rd_L1 y157 x24_1).length : Int)
                      · rw [if_pos c16] at H
                        have c16b0 : decide (x31_2 < ((rd_L1 y157 x24_1).length : Int)) = true := decide_eq_true c16
                        clear c16
                        by_cases c17 : (AM.has x166000_2 (rd (rd_L1 y157 x24_1) x31_2)) = true
                        · rw [if_pos c17] at H
                          have c17b0 : (AM.has x166000_2 (rd (rd_L1 y157 x24_1) x31_2)) = true := c17
                          clear c17
                          replace H := Option.bind_eq_some_iff.mp H
                          obtain ⟨t167, A180, H⟩ := H
                          replace H : (partition_Join.l1 k2 t167 y157 (y157.length : Int) x24_1 (rd_L1 y157 x24_1) ((rd_L1 y157 x24_1).length : Int) (wrap64 (x31_2 + 1)) x166000_2) = some r := H
                          have A18 := Aside0.mk A180
                          clear A180
                          have H' := Aside0.mk H
                          clear H
                          have p166 : 0 ≤ (x31_2 : Int) := of_decide_eq_true (by first | (with_reducible assumption) | assumption)
                          have q166 : x31_2 < ((rd_L1 y157 x24_1).length : Int) := of_decide_eq_true (by first | (with_reducible assumption) | assumption)
                          obtain ⟨ad166, e166, hx166_0⟩ := Kd.at_int (by repeat (first | (with_reducible exact HR164_0.out) | (with_reducible refine Kd.C_alloc ?_ _) | (with_reducible refine Kd.C_drewN ?_ _) | (with_reducible refine Kd.C_drew ?_) | exact HR164_0.out)) x31_2 p166 q166
                          cases e166
                          replace p166 := eq_true p166
                          replace q166 := eq_true q166
                          obtain ⟨Ao19, co19, eo19⟩ := Kd.R_slice HO_5.out
                          subst eo19
                          go_wp2_with (first | ((with_reducible refine gate_dst (N := 39) rfl ?_); at_lookup; refine wp_lookOk rfl _ _ _ rfl 3 3 (keyOk_int Try.underlying3) Try.underlying44 gb165 x166000_2 (show _ = some (mapO (Value.int .i64) (Value.int .i64) x166000_2) from by (with_reducible repeat (first | refine blk_drewN ?_ _ | refine blk_drew ?_ | refine blk_alloc ?_ _)); exact BK165.out) rfl (rd (rd_L1 y157 x24_1) x31_2) rfl 0 (zv3 _) ?_) | ((with_reducible refine gate_callee (f := 44) rfl ?_); refine goesL_ (some 46) rfl rfl Try.func44 (by kernel_rfl) rfl #[.slice Ao19 x5_2.length co19, .int .i64 x31_2, .int .i64 (AM.get x166000_2 (rd (rd_L1 y157 x24_1) x31_2) 0)] rfl (by (try simp only [List.map_toArray, List.map_cons, List.map_nil]); first | done | rfl | (simp only [List.length_drop, List.length_take]; rfl)) ?_; (with_reducible refine (partition_forest_union.calls k2 (fun k_ => some k_ = (.slice Ao19 x5_2.length co19 : Value).ownBlock) (.slice Ao19 x5_2.length co19) x5_2 x31_2 (AM.get x166000_2 (rd (rd_L1 y157 x24_1) x31_2) 0) t167 w _ ?side1 ?side2 A18.out).mono ?_); (case side1 => repeat (first | (with_reducible first | exact HB.out | apply below_alloc | apply pw_below_drewN | apply below_drew1 | refine below_set ?_ GE165.out) | exact HB.out)); (case side2 => exact Kd.R_tight rfl HO_5.out); rintro e w20 ⟨rfl, hy0, hb, hkp⟩; refine ⟨_, rfl, ?_⟩; have n0_ := Aside0.mk (Kd.R_reok rfl hy0 (fun k_ e_ => HO_5.out.1 k_ e_)); have n1_ := Aside0.mk (Kd.N_mono (ok' := fun k_ => ((P0_ k_ ∨ P1_ k_) ∨ w.heap.size ≤ k_) ∧ some k_ ≠ (.slice Ao19 x5_2.length co19 : Value).ownBlock ∧ k_ ≠ gb165) (Kd.N_keptB (HO_22.out) hkp (fun k_ hk_ hs_ => (hk_.2.1) hs_)) (fun k_ hk_ => ⟨hk_.1.1, hk_.1.2.1, hk_.1.2.2⟩)); have n2_ := Aside0.mk (blk_kept (by (with_reducible repeat (first | refine blk_drewN ?_ _ | refine blk_drew ?_ | refine blk_alloc ?_ _)); exact BK165.out) hkp (fun hs_ => (fun e_ => (R_neM HO_5.out BK165.out) e_) hs_)); have n3_ := Aside0.mk (Kd.V_mono (ok' := fun k_ => ((P0_ k_ ∨ P1_ k_) ∨ w.heap.size ≤ k_) ∧ some k_ ≠ (.slice Ao19 x5_2.length co19 : Value).ownBlock ∧ some k_ ≠ (.slice (some ad164) y157.length co9 : Value).ownBlock ∧ k_ ≠ gb165) (Kd.V_keptB (HL164_0.out) hkp (fun k_ hk_ hs_ => (hk_.2.1) hs_)) (fun k_ hk_ => ⟨hk_.1.1, hk_.1.2.1, hk_.1.2.2.1, hk_.1.2.2.2⟩)); have n4_ := Aside0.mk (hb); have n5_ := Aside0.mk ((Kd.V_reads' (Kd.V_mono (ok' := fun k_ => ((P0_ k_ ∨ P1_ k_) ∨ w.heap.size ≤ k_) ∧ some k_ ≠ (.slice Ao19 x5_2.length co19 : Value).ownBlock ∧ some k_ ≠ (.slice (some ad164) y157.length co9 : Value).ownBlock ∧ k_ ≠ gb165) (Kd.V_keptB (HL164_0.out) hkp (fun k_ hk_ hs_ => (hk_.2.1) hs_)) (fun k_ hk_ => ⟨hk_.1.1, hk_.1.2.1, hk_.1.2.2.1, hk_.1.2.2.2⟩))).2.2); clear HO_5; clear HO_22; clear BK165; clear HL164_0; clear HB; clear HR164_0; have HO_5 := n0_; have HO_22 := n1_; have BK165 := n2_; have HL164_0 := n3_; have HB := n4_; have HR164_0 := n5_; clear n0_ n1_ n2_ n3_ n4_ n5_; (try clear hb); (try clear hkp); (try clear hy0)))
                          go_roundg k2
                          case measure => have := HK1.out; have := HK2.out; omega
                          case rel => exact ⟨(t167), (wrap64 (x31_2 + 1)), (x166000_2), (by first | rfl | (simp; done) | (simp [*]; done)), H', ⟨by have := HK1.out; have := HK2.out; omega⟩, ⟨by (with_reducible repeat (first | apply Kd.R_alloc | apply Kd.R_drewN | apply Kd.R_drew)); exact HO_5.out⟩, ⟨by (with_reducible repeat (first | apply Kd.N_alloc | apply Kd.N_drewN | apply Kd.N_drew)); exact HO_22.out⟩, ⟨by (with_reducible repeat (first | refine blk_drewN ?_ _ | refine blk_drew ?_ | refine blk_alloc ?_ _)); exact BK165.out⟩, ⟨by (with_reducible repeat (first | apply Kd.V_alloc | apply Kd.V_drewN | apply Kd.V_drew)); exact HL164_0.out⟩, ⟨by repeat (first | (with_reducible exact HR164_0.out) | (with_reducible refine Kd.C_alloc ?_ _) | (with_reducible refine Kd.C_drewN ?_ _) | (with_reducible refine Kd.C_drew ?_) | exact HR164_0.out)⟩, ⟨by repeat (first | (with_reducible first | exact HB.out | apply below_alloc | apply pw_below_drewN | apply below_drew1 | refine below_set ?_ GE165.out) | exact HB.out)⟩⟩
                        · rw [if_neg c17] at H
                          have c17b0 : (AM.has x166000_2 (rd (rd_L1 y157 x24_1) x31_2)) = false := by simpa using c17
                          clear c17
                          obtain ⟨y168, hy168⟩ : ∃ y_ : AM Int Int, y_ = (AM.put x166000_2 (rd (rd_L1 y157 x24_1) x31_2) x31_2) := ⟨_, rfl⟩
                          replace H : (partition_Join.l1 k2 x5_2 y157 (y157.length : Int) x24_1 (rd_L1 y157 x24_1) ((rd_L1 y157 x24_1).length : Int) (wrap64 (x31_2 + 1)) y168) = some r := by first | (rw [hy168]; with_reducible exact H) | (have H2_ := (Option.bind_some _ _).symm.trans H; rw [hy168]; with_reducible exact H2_) | (have H2_ := (Option.bind_some _ _).symm.trans H; with_reducible exact H2_) | with_reducible exact H | (rw [hy168]; exact H) | exact H
                          have Ny168 := Aside0.mk hy168
                          clear hy168
                          have H' := Aside0.mk H
                          clear H
                          have p166 : 0 ≤ (x31_2 : Int) := of_decide_eq_true (by first | (with_reducible assumption) | assumption)
                          have q166 : x31_2 < ((rd_L1 y157 x24_1).length : Int) := of_decide_eq_true (by first | (with_reducible assumption) | assumption)
                          obtain ⟨ad166, e166, hx166_0⟩ := Kd.at_int (by repeat (first | (with_reducible exact HR164_0.out) | (with_reducible refine Kd.C_alloc ?_ _) | (with_reducible refine Kd.C_drewN ?_ _) | (with_reducible refine Kd.C_drew ?_) | exact HR164_0.out)) x31_2 p166 q166
                          cases e166
                          replace p166 := eq_true p166
                          replace q166 := eq_true q166
                          go_wp2_with (first | ((with_reducible refine gate_dst (N := 39) rfl ?_); at_lookup; refine wp_lookOk rfl _ _ _ rfl 3 3 (keyOk_int Try.underlying3) Try.underlying44 gb165 x166000_2 (show _ = some (mapO (Value.int .i64) (Value.int .i64) x166000_2) from by (with_reducible repeat (first | refine blk_drewN ?_ _ | refine blk_drew ?_ | refine blk_alloc ?_ _)); exact BK165.out) rfl (rd (rd_L1 y157 x24_1) x31_2) rfl 0 (zv3 _) ?_) | (at_mapUpdate; refine wp_putM rfl _ _ _ 44 (.inl rfl) 3 3 (keyOk_int Try.underlying3) Try.underlying44 gb165 x166000_2 (show _ = some (mapO (Value.int .i64) (Value.int .i64) x166000_2) from by (with_reducible repeat (first | refine blk_drewN ?_ _ | refine blk_drew ?_ | refine blk_alloc ?_ _)); exact BK165.out) rfl (rd (rd_L1 y157 x24_1) x31_2) rfl x31_2 rfl ?_; intro w21 hbox hg; rw [← Ny168.out] at hbox; have n0_ := Aside0.mk (R_overM (by (with_reducible repeat (first | apply Kd.R_alloc | apply Kd.R_drewN | apply Kd.R_drew)); exact HO_5.out) (show _ = some (mapO (Value.int .i64) (Value.int .i64) x166000_2) from by (with_reducible repeat (first | refine blk_drewN ?_ _ | refine blk_drew ?_ | refine blk_alloc ?_ _)); exact BK165.out) hg); have n1_ := Aside0.mk (Kd.N_grown (ok := fun k_ => (((P0_ k_ ∨ P1_ k_) ∨ w.heap.size ≤ k_) ∧ (some k_ ≠ (v155 : Value).ownBlock ∧ k_ ≠ gb165))) (by (with_reducible repeat (first | apply Kd.N_alloc | apply Kd.N_drewN | apply Kd.N_drew)); exact HO_22.out) hg (fun k_ hk e_ => (hk.2.2) (Option.some.inj e_))); have n2_ := Aside0.mk (hbox); have n3_ := Aside0.mk (Kd.V_grown (ok := fun k_ => (((P0_ k_ ∨ P1_ k_) ∨ w.heap.size ≤ k_) ∧ (some k_ ≠ (v155 : Value).ownBlock ∧ (some k_ ≠ (.slice (some ad164) y157.length co9 : Value).ownBlock ∧ k_ ≠ gb165)))) (by (with_reducible repeat (first | apply Kd.V_alloc | apply Kd.V_drewN | apply Kd.V_drew)); exact HL164_0.out) hg (fun k_ hk e_ => (hk.2.2.2) (Option.some.inj e_))); have n4_ := Aside0.mk (below_mapO (by repeat (first | (with_reducible first | exact HB.out | apply below_alloc | apply pw_below_drewN | apply below_drew1 | refine below_set ?_ GE165.out) | exact HB.out)) (below_size (by repeat (first | (with_reducible first | exact HB.out | apply below_alloc | apply pw_below_drewN | apply below_drew1 | refine below_set ?_ GE165.out) | exact HB.out))) GE165.out hg); have n5_ := Aside0.mk ((Kd.V_reads' (Kd.V_grown (ok := fun k_ => (((P0_ k_ ∨ P1_ k_) ∨ w.heap.size ≤ k_) ∧ (some k_ ≠ (v155 : Value).ownBlock ∧ (some k_ ≠ (.slice (some ad164) y157.length co9 : Value).ownBlock ∧ k_ ≠ gb165)))) (by (with_reducible repeat (first | apply Kd.V_alloc | apply Kd.V_drewN | apply Kd.V_drew)); exact HL164_0.out) hg (fun k_ hk e_ => (hk.2.2.2) (Option.some.inj e_)))).2.2); clear HO_5; clear HO_22; clear BK165; clear HL164_0; clear HB; clear HR164_0; have HO_5 := n0_; have HO_22 := n1_; have BK165 := n2_; have HL164_0 := n3_; have HB := n4_; have HR164_0 := n5_; clear n0_ n1_ n2_ n3_ n4_ n5_; clear hbox hg))
                          go_roundg k2
                          case measure => have := HK1.out; have := HK2.out; omega
                          case rel => exact ⟨(x5_2), (wrap64 (x31_2 + 1)), (y168), (by first | rfl | (simp; done) | (simp [*]; done)), H', ⟨by have := HK1.out; have := HK2.out; omega⟩, ⟨by (with_reducible repeat (first | apply Kd.R_alloc | apply Kd.R_drewN | apply Kd.R_drew)); exact HO_5.out⟩, ⟨by (with_reducible repeat (first | apply Kd.N_alloc | apply Kd.N_drewN | apply Kd.N_drew)); exact HO_22.out⟩, ⟨by (with_reducible repeat (first | refine blk_drewN ?_ _ | refine blk_drew ?_ | refine blk_alloc ?_ _)); exact BK165.out⟩, ⟨by (with_reducible repeat (first | apply Kd.V_alloc | apply Kd.V_drewN | apply Kd.V_drew)); exact HL164_0.out⟩, ⟨by repeat (first | (with_reducible exact HR164_0.out) | (with_reducible refine Kd.C_alloc ?_ _) | (with_reducible refine Kd.C_drewN ?_ _) | (with_reducible refine Kd.C_drew ?_) | exact HR164_0.out)⟩, ⟨by repeat (first | (with_reducible first | exact HB.out | apply below_alloc | apply pw_below_drewN | apply below_drew1 | refine below_set ?_ GE165.out) | exact HB.out)⟩⟩
                      · rw [if_neg c16] at H
                        exact absurd H (by simp)
                    · rw [if_neg c15] at H
                      exact absurd H (by simp)
                  · rw [if_neg c14] at H
                    have c14b0 : decide (x31_2 < ((rd_L1 y157 x24_1).length : Int)) = false := decide_eq_false c14
                    clear c14
                    have H' := Aside0.mk H
                    clear H
                    go_wp2
                    go_roundg k2
                    case measure => have := HK1.out; have := HK2.out; omega
                    case rel => exact ⟨(x5_2), (wrap64 (x24_1 + 1)), (by first | rfl | (simp; done) | (simp [*]; done)), H', ⟨by have := HK1.out; have := HK2.out; omega⟩, ⟨by (with_reducible repeat (first | apply Kd.R_alloc | apply Kd.R_drewN | apply Kd.R_drew)); exact HO_5.out⟩, ⟨by (with_reducible repeat (first | apply Kd.N_alloc | apply Kd.N_drewN | apply Kd.N_drew)); exact Kd.N_mono HO_22.out (fun _ hk => ⟨hk.1, hk.2.1⟩)⟩, ⟨by repeat (first | (with_reducible first | exact HB.out | apply below_alloc | apply pw_below_drewN | apply below_drew1 | refine below_set ?_ GE165.out) | exact HB.out)⟩⟩
            · rw [if_neg c12] at H
              exact absurd H (by simp)
          · rw [if_neg c11] at H
            exact absurd H (by simp)
        · rw [if_neg c10] at H
          have c10b0 : decide (x24_1 < (y157.length : Int)) = false := decide_eq_false c10
          clear c10
          replace H := Option.bind_eq_some_iff.mp H
          obtain ⟨⟨t160, t163⟩, A220, H⟩ := H
          replace H : (some t160) = some r := H
          have A22 := Aside0.mk A220
          clear A220
          obtain rfl := Option.some.inj H
          obtain ⟨Ao23, co23, eo23⟩ := Kd.R_slice HO_5.out
          subst eo23
          go_wp2_with (first | ((with_reducible refine gate_callee (f := 45) rfl ?_); refine goesL_ (some 53) rfl rfl Try.func45 (by kernel_rfl) rfl #[.slice Ao23 x5_1.length co23] rfl (by (try simp only [List.map_toArray, List.map_cons, List.map_nil]); first | done | rfl | (simp only [List.length_drop, List.length_take]; rfl)) ?_; (with_reducible refine (partition_forest_partition.calls k1 (fun k_ => some k_ = (.slice Ao23 x5_1.length co23 : Value).ownBlock) (.slice Ao23 x5_1.length co23) x5_1 t160 t163 w _ ?side1 ?side2 A22.out).mono ?_); (case side1 => repeat (first | (with_reducible first | exact HB.out | apply below_alloc | apply pw_below_drewN | apply below_drew1) | exact HB.out)); (case side2 => exact Kd.R_tight rfl HO_5.out); rintro e w24 ⟨v161, rfl, ho0, hy0, hb, hkp⟩; refine ⟨_, rfl, ?_⟩; have n0_ := Aside0.mk (Kd.R_reok rfl hy0 (fun k_ e_ => HO_5.out.1 k_ e_)); have n1_ := Aside0.mk (Kd.N_mono (ok' := fun k_ => ((P0_ k_ ∨ P1_ k_) ∨ w.heap.size ≤ k_) ∧ some k_ ≠ (.slice Ao23 x5_1.length co23 : Value).ownBlock ∧ some k_ ≠ (v161 : Value).ownBlock) (Kd.N_keptB (HO_22.out) hkp (fun k_ hk_ hs_ => (hk_.2) hs_)) (fun k_ hk_ => ⟨hk_.1.1, hk_.1.2, fun e_ => Or.elim (ho0.1 k_ e_.symm).1 (fun hs_ => hk_.2.1 hs_) (fun hn_ => Nat.not_le.2 hk_.2.2 hn_)⟩)); have n2_ := Aside0.mk (Kd.R_mono (ok' := fun k_ => (w.heap.size ≤ k_) ∧ some k_ ≠ (.slice Ao23 x5_1.length co23 : Value).ownBlock) ho0 (fun k_ hk_ => ⟨Or.elim hk_.1 (fun hs_ => (HO_5.out.1 k_ (hs_).symm)) (fun hn_ => (Nat.le_trans (below_size (by repeat (first | (with_reducible first | exact HB.out | apply below_alloc | apply pw_below_drewN | apply below_drew1) | exact HB.out))) hn_)), hk_.2⟩)); have n3_ := Aside0.mk (hb); clear HO_5; clear HO_22; clear HB; have HO_5 := n0_; have HO_22 := n1_; have HO162 := n2_; have HB := n3_; clear n0_ n1_ n2_ n3_; (try clear hb); (try clear hkp); (try clear ho0); (try clear hy0)))
          go_ret
          exact ⟨_, by first | rfl | (simp [errW_none, errW_some] <;> rfl) | (simp [*, errW_none, errW_some] <;> rfl), by (with_reducible repeat (first | apply Kd.R_alloc | apply Kd.R_drewN | apply Kd.R_drew)); exact Kd.R_mono HO162.out (fun _ hk => hk.1), by repeat (first | (with_reducible first | exact HB.out | apply below_alloc | apply pw_below_drewN | apply below_drew1) | exact HB.out)⟩
  · replace c4 := Bool.eq_false_iff.mpr c4
    subst c4
    have H1 : (some ([] : List Int)) = some r := by rw [if_neg (show ¬ (false = true) by decide)] at H; exact H
    clear H
    have H := H1
    clear H1
    obtain rfl := Option.some.inj H
    go_enter Try.func39, Try.ntmps39
    go_wp2_with (first | ((with_reducible refine gate_callee (f := 47) rfl ?_); refine goesL_ (some 15) rfl rfl Try.func47 (by kernel_rfl) rfl #[.slice A0 l0.length c0, .slice A1 l1.length c1] rfl (by (try simp only [List.map_toArray, List.map_cons, List.map_nil]); first | done | rfl | (simp only [List.length_drop, List.length_take]; rfl)) ?_; (with_reducible refine (partition_both.calls k _ _ l0 _ _ l1 false _ ?side1 ?side2 ?side3 ?side4 A3.out).mono ?_); (case side1 => repeat (first | exact (Kd.V_reads' HO0.out).2.2 | (with_reducible refine Kd.C_alloc ?_ _) | (with_reducible refine Kd.C_drewN ?_ _) | (with_reducible refine Kd.C_drew ?_))); (case side2 => exact (Kd.V_reads' HO0.out).2.1); (case side3 => repeat (first | exact (Kd.V_reads' HO1.out).2.2 | (with_reducible refine Kd.C_alloc ?_ _) | (with_reducible refine Kd.C_drewN ?_ _) | (with_reducible refine Kd.C_drew ?_))); (case side4 => exact (Kd.V_reads' HO1.out).2.1); rintro e w' ⟨rfl, ⟨nd, rfl⟩⟩; refine ⟨_, rfl, ?_⟩))
    go_ret
    exact ⟨_, by first | rfl | (simp [errW_none, errW_some] <;> rfl) | (simp [*, errW_none, errW_some] <;> rfl), by first | exact Kd.R_nil _ _ _ _ _ | exact Kd.N_nil _ _ _ _ _ | exact Kd.V_nil _ _ _ _ _ | exact Kd.Q_nil _ _ _ _ _ | exact Kd.S_nil _ _ _ _ _, by repeat (first | (with_reducible first | exact HB.out | apply below_alloc | apply pw_below_drewN | apply below_drew1) | exact HB.out)⟩

/-! ### semigroupref03_Meet: function 40 -/
def semigroupref03_Meet.l0 : Nat → List Int → List Int → List Int → Int → Int → Option (List Int)
  | 0, _, _, _, _, _ => none
  | k + 1, x0, x1, x5, x11, x12 => if x12 < x11 then (if 0 ≤ x12 then (if x12 < (x0.length : Int) then (if x12 < (x1.length : Int) then (if x12 < (x5.length : Int) then (semigroupref03_Meet.l0 k x0 x1 (x5.set (x12 : Int).toNat (wrap64 ((wrap64 ((rd x0 x12) * 4096)) + (rd x1 x12)))) x11 (wrap64 (x12 + 1))) else (none)) else (none)) else (none)) else (none)) else ((semigroupref03_Canonical.f x5).bind fun t175 => (some t175))
def semigroupref03_Meet.f (k : Nat) (l0 : List Int) (l1 : List Int) : Option (List Int) := if 0 ≤ (l0.length : Int) then (if ((l0.length : Int) : Int).toNat ≤ 35184372088832 then (semigroupref03_Meet.l0 k l0 l1 (List.replicate ((l0.length : Int) : Int).toNat 0) (l0.length : Int) 0) else (none)) else (none)
theorem semigroupref03_Meet.mono_l : ∀ k, (∀ y0 y1 y2 y3 y4, LeO (semigroupref03_Meet.l0 k y0 y1 y2 y3 y4) (semigroupref03_Meet.l0 (k + 1) y0 y1 y2 y3 y4))
  | 0 => fun _ _ _ _ _ r h => by simp [semigroupref03_Meet.l0] at h
  | k + 1 => by
    have ih0 := semigroupref03_Meet.mono_l k
    · intro y0 y1 y2 y3 y4
      unfold semigroupref03_Meet.l0
      repeat' first
      | (with_reducible exact ih0 _ _ _ _ _)
      | (with_reducible exact LeO.refl _)
      | (with_reducible exact LeO.none _)
      | (with_reducible refine LeO.ite ?_ ?_)
      | (with_reducible refine LeO.bind ?_ (fun _ => ?_))
      | exact ih0 _ _ _ _ _
      | exact LeO.none _
      | refine LeO.ite ?_ ?_
      | refine LeO.bind ?_ (fun _ => ?_)
theorem semigroupref03_Meet.mono : ∀ a0 a1 k, LeO (semigroupref03_Meet.f k a0 a1) (semigroupref03_Meet.f (k + 1) a0 a1) := by
  intro a0 a1 k
  have ih0 := semigroupref03_Meet.mono_l k
  unfold semigroupref03_Meet.f
  repeat' first
      | (with_reducible exact ih0 _ _ _ _ _)
      | (with_reducible exact LeO.refl _)
      | (with_reducible exact LeO.none _)
      | (with_reducible refine LeO.ite ?_ ?_)
      | (with_reducible refine LeO.bind ?_ (fun _ => ?_))
      | exact ih0 _ _ _ _ _
      | exact LeO.none _
      | refine LeO.ite ?_ ?_
      | refine LeO.bind ?_ (fun _ => ?_)
def semigroupref03_Meet.T5 : Bool × List (List Nat × List Nat) := (true, [([], []), ([], []), ([], []), ([], []), ([2, 3], [2, 3]), ([4], [4]), ([5], [5]), ([], []), ([], []), ([7, 8], [7, 8]), ([9], [9]), ([6, 10], [6, 10]), ([0, 1, 0, 1, 2, 3, 4, 5, 6, 7, 8, 9, 10, 11], [0, 1]), ([12, 11, 0, 1, 2, 3, 4, 5, 6, 7, 8, 9, 10, 11], [11, 12])])
def semigroupref03_Meet.B5 : List Nat := [0, 0, 0, 0, 12, 28, 60, 0, 0, 384, 896, 2044, 4095, 8191]
theorem semigroupref03_Meet.tab5 : rtab .any (opsOf Try.f40 5) = semigroupref03_Meet.T5 := by kernel_rfl
theorem semigroupref03_Meet.bits5 : waitsOk semigroupref03_Meet.T5.2 semigroupref03_Meet.B5 = true := by kernel_rfl
set_option maxHeartbeats 8000000 in
set_option maxRecDepth 100000 in
theorem semigroupref03_Meet.calls (k : Nat) (A0 : Option Addr) (c0 : Nat) (l0 : List Int) (A1 : Option Addr) (c1 : Nat) (l1 : List Int) (r : List Int) (w : World) (hr0 : Kd.C (Kd.int .i64) w A0 l0.length l0) (hc0 : l0.length ≤ c0) (hr1 : Kd.C (Kd.int .i64) w A1 l1.length l1) (hc1 : l1.length ≤ c1) (h : semigroupref03_Meet.f k l0 l1 = some r) :
    Calls Try.prog 40 #[.slice A0 l0.length c0, .slice A1 l1.length c1] w fun e w' => ∃ v0_ : Value, e = .returned (v0_) ∧ Kd.R (Kd.int .i64) 3 w' w.heap.size (fun _ => True) v0_ r ∧ Below w.heap.size w w' := by
  have HR0 := Aside0.mk hr0
  have HC0 := Aside0.mk hc0
  clear hr0 hc0
  have HR1 := Aside0.mk hr1
  have HC1 := Aside0.mk hc1
  clear hr1 hc1
  have HB := Aside0.mk (Below.refl w.heap.size w)
  have H : (if 0 ≤ (l0.length : Int) then (if ((l0.length : Int) : Int).toNat ≤ 35184372088832 then (semigroupref03_Meet.l0 k l0 l1 (List.replicate ((l0.length : Int) : Int).toNat 0) (l0.length : Int) 0) else (none)) else (none)) = some r := h
  clear h
  by_cases c3 : 0 ≤ (l0.length : Int)
  · rw [if_pos c3] at H
    have c3b0 := eq_true c3
    have c3b1 : decide (0 ≤ (l0.length : Int)) = true := decide_eq_true c3
    clear c3
    by_cases c4 : ((l0.length : Int) : Int).toNat ≤ 35184372088832
    · rw [if_pos c4] at H
      have c4b0 := eq_true c4
      have c4b1 : decide (((l0.length : Int) : Int).toNat ≤ 35184372088832) = true := decide_eq_true c4
      clear c4
      obtain ⟨y169, hy169⟩ : ∃ y_ : List Int, y_ = (List.replicate ((l0.length : Int) : Int).toNat 0) := ⟨_, rfl⟩
      replace H : (semigroupref03_Meet.l0 k l0 l1 y169 (l0.length : Int) 0) = some r := by first | (rw [hy169]; with_reducible exact H) | (have H2_ := (Option.bind_some _ _).symm.trans H; rw [hy169]; with_reducible exact H2_) | (have H2_ := (Option.bind_some _ _).symm.trans H; with_reducible exact H2_) | with_reducible exact H | (rw [hy169]; exact H) | exact H
      have Ny169 := Aside0.mk hy169
      clear hy169
      have H' := Aside0.mk H
      clear H
      go_enter Try.func40, Try.ntmps40
      go_wp2_with (first | ((with_reducible refine gate_dst (N := 9) rfl ?_); refine Kd.R_make (Kd.int .i64) _ 3 rfl (N := 9) rfl 22 _ _ rfl (l0.length : Int) rfl rfl Try.underlying22 (.int .i64 0) 8 info3 rfl (by decide) (by omega) 0 (ok := fun _ => True) (okp := fun _ => True) rfl (fun _ hk => hk) trivial (of_decide_eq_true (by first | (with_reducible assumption) | assumption)) (Nat.le_trans (Nat.mul_le_mul_right _ (of_decide_eq_true (by first | (with_reducible assumption) | assumption) : (l0.length : Int).toNat ≤ 35184372088832)) (by omega)) (Below.refl _ _) (Nat.le_refl _) ?_; intro v170 w5 ho6 hb hg_ hnew_; clear hg_ hnew_; (first | rw [← Ny169.out] at ho6 | (simp only [Int.reduceToNat] at ho6; rw [← Ny169.out] at ho6)); have n0_ := Aside0.mk (Kd.R_lower ho6 (below_size (by repeat (first | (with_reducible first | exact HB.out | apply below_alloc | apply pw_below_drewN | apply below_drew1) | exact HB.out)))); have n1_ := Aside0.mk (below_step (by repeat (first | (with_reducible first | exact HB.out | apply below_alloc | apply pw_below_drewN | apply below_drew1) | exact HB.out)) hb); clear HB; have HO171 := n0_; have HB := n1_; clear n0_ n1_; clear hb ho6))
      go_loopg [12] k (fun kq v12 w' => ∃ (x5_1 : List Int) (x12_1 : Int), v12 = .int .i64 x12_1 ∧ Aside0 (semigroupref03_Meet.l0 kq l0 l1 x5_1 (l0.length : Int) x12_1 = some r) ∧ Aside0 (kq ≤ k) ∧ Aside0 (Kd.R (Kd.int .i64) 3 w' w.heap.size (fun _ => True) v170 x5_1) ∧ Aside0 (Below w.heap.size w w'))
      case atStart => exact ⟨(y169), (0), (by first | rfl | (simp; done) | (simp [*]; done)), H', ⟨Nat.le_refl _⟩, ⟨by (with_reducible repeat (first | apply Kd.R_alloc | apply Kd.R_drewN | apply Kd.R_drew)); exact HO171.out⟩, ⟨by repeat (first | (with_reducible first | exact HB.out | apply below_alloc | apply pw_below_drewN | apply below_drew1) | exact HB.out)⟩⟩
      case round =>
        clear H'
        try clear c1
        try clear p2
        try clear c3
        try clear c3b0
        try clear c3b1
        try clear c4
        try clear c4b0
        try clear c4b1
        obtain ⟨x5_1, x12_1, rfl, HA, HK1, HO_5, HB⟩ := hrel
        cases gk with
        | zero => exact absurd HA.out (by simp [semigroupref03_Meet.l0])
        | succ k1 =>
          have H := HA.out
          clear HA
          simp only [semigroupref03_Meet.l0] at H
          by_cases c7 : x12_1 < (l0.length : Int)
          · rw [if_pos c7] at H
            have c7b0 : decide (x12_1 < (l0.length : Int)) = true := decide_eq_true c7
            clear c7
            by_cases c8 : 0 ≤ x12_1
            · rw [if_pos c8] at H
              have c8b0 : decide (0 ≤ x12_1) = true := decide_eq_true c8
              clear c8
              by_cases c9 : x12_1 < (l0.length : Int)
              · rw [if_pos c9] at H
                have c9b0 : decide (x12_1 < (l0.length : Int)) = true := decide_eq_true c9
                clear c9
                by_cases c10 : x12_1 < (l1.length : Int)
                · rw [if_pos c10] at H
                  have c10b0 : decide (x12_1 < (l1.length : Int)) = true := decide_eq_true c10
                  clear c10
                  by_cases c11 : x12_1 < (x5_1.length : Int)
                  · rw [if_pos c11] at H
                    have c11b0 : decide (x12_1 < (x5_1.length : Int)) = true := decide_eq_true c11
                    clear c11
                    obtain ⟨y174, hy174⟩ : ∃ y_ : List Int, y_ = (x5_1.set (x12_1 : Int).toNat (wrap64 ((wrap64 ((rd l0 x12_1) * 4096)) + (rd l1 x12_1)))) := ⟨_, rfl⟩
                    replace H : (semigroupref03_Meet.l0 k1 l0 l1 y174 (l0.length : Int) (wrap64 (x12_1 + 1))) = some r := by first | (rw [hy174]; with_reducible exact H) | (have H2_ := (Option.bind_some _ _).symm.trans H; rw [hy174]; with_reducible exact H2_) | (have H2_ := (Option.bind_some _ _).symm.trans H; with_reducible exact H2_) | with_reducible exact H | (rw [hy174]; exact H) | exact H
                    have Ny174 := Aside0.mk hy174
                    clear hy174
                    have H' := Aside0.mk H
                    clear H
                    try go_wp2
                    have n0_ := Aside0.mk (Kd.R_drew HO_5.out)
                    have n1_ := Aside0.mk (below_drew1 HB.out)
                    clear HO_5
                    clear HB
                    have HO_5 := n0_
                    have HB := n1_
                    clear n0_ n1_
                    have p172 : 0 ≤ (x12_1 : Int) := of_decide_eq_true (by first | (with_reducible assumption) | assumption)
                    have q172 : x12_1 < (l0.length : Int) := of_decide_eq_true (by first | (with_reducible assumption) | assumption)
                    obtain ⟨ad172, e172, hx172_0⟩ := Kd.at_int HR0.out x12_1 p172 q172
                    have hw172_0 := hx172_0
                    cases e172
                    (try replace hx172_0 := (HB.out.cell (World.block_lt_of_cell? w _ hx172_0)).trans hx172_0)
                    replace p172 := eq_true p172
                    replace q172 := eq_true q172
                    have p173 : 0 ≤ (x12_1 : Int) := of_decide_eq_true (by first | (with_reducible assumption) | assumption)
                    have q173 : x12_1 < (l1.length : Int) := of_decide_eq_true (by first | (with_reducible assumption) | assumption)
                    obtain ⟨ad173, e173, hx173_0⟩ := Kd.at_int HR1.out x12_1 p173 q173
                    have hw173_0 := hx173_0
                    cases e173
                    (try replace hx173_0 := (HB.out.cell (World.block_lt_of_cell? w _ hx173_0)).trans hx173_0)
                    replace p173 := eq_true p173
                    replace q173 := eq_true q173
                    have p12 : 0 ≤ (x12_1 : Int) := of_decide_eq_true (by first | (with_reducible assumption) | assumption)
                    have q12 : (x12_1 : Int) < ((x5_1.length : Int) : Int) := of_decide_eq_true (by first | (with_reducible assumption) | assumption)
                    obtain ⟨go12, co12, eo12, gb12, gl12, cl12, HG12⟩ := Kd.R_form HO_5.out (by first | omega | (have e_ := (Kd.R_reads' HO_5.out).1; omega))
                    (first | cases eo12 | (injection eo12 with ea_ en_ ec_; (first | subst ea_ | (injection ea_ with ea_; subst ea_)); subst ec_; clear en_))
                    have GB12 := Aside0.mk gb12
                    have GG12 := Aside0.mk HG12
                    clear gb12 gl12 HG12
                    obtain ⟨hx12_0, hf12_0⟩ := Kd.R_celln 0 HO_5.out (x12_1 : Int) p12 q12
                    replace p12 := eq_true p12
                    replace q12 := eq_true q12
                    have HP14 := Kd.R_putn HO_5.out (x12_1 : Int) (wrap64 ((wrap64 ((rd l0 x12_1) * 4096)) + (rd l1 x12_1)))
                    rw [← Ny174.out] at HP14
                    have HQ14 := Aside0.mk HP14
                    clear HP14
                    refine start_ (n := 14) (S := fun w' => w'.cell? (ad172.add (x12_1).toNat) = some (.int .i64 (rd l0 x12_1)) ∧ w'.cell? (ad173.add (x12_1).toNat) = some (.int .i64 (rd l1 x12_1))) (ds := [13]) #[false, false, false, false, false, false, false, false, false, false, false, false, false, false] (by kernel_rfl) rfl rfl ⟨((HB.out.cell (World.block_lt_of_cell? w _ hw172_0)).trans hw172_0), ((HB.out.cell (World.block_lt_of_cell? w _ hw173_0)).trans hw173_0)⟩ (fun hHeld => ?_); refine with_tabW semigroupref03_Meet.tab5 semigroupref03_Meet.bits5 (fun HT_ HW_ => ?_)
                    generalize wr.drew = w13 at HO_5 HB GG12 HQ14 hf12_0 hx12_0 hx172_0 hx173_0 hHeld ⊢
                    refine pure_ (i := 0) (N := some 15) (v := ?_) (a' := ?_) #[true, false, false, false, false, false, false, false, false, false, false, false, false, false] rfl rfl (any_of HT_.out (by kernel_rfl)) (fun _ _ _ h => h) (Or.inl ⟨by rfl, ?_⟩) ?_ ?_
                    rotate_left
                    · intro w'
                      go_simp
                      with_reducible rfl
                    rotate_left
                    · simp only [Act.put, List.setIfInBounds_toArray, List.set_cons_zero, List.set_cons_succ, i64_w, i32_w]
                      rfl
                    refine pure_ (i := 1) (N := some 16) (v := ?_) (a' := ?_) #[true, true, false, false, false, false, false, false, false, false, false, false, false, false] rfl rfl (any_of HT_.out (by kernel_rfl)) (fun _ _ _ h => h) (Or.inl ⟨by rfl, ?_⟩) ?_ ?_
                    rotate_left
                    · intro w'
                      go_simp
                      with_reducible rfl
                    rotate_left
                    · simp only [Act.put, List.setIfInBounds_toArray, List.set_cons_zero, List.set_cons_succ, i64_w, i32_w]
                      rfl
                    refine pure_ (i := 2) (N := some 17) (v := ?_) (a' := ?_) #[true, true, true, false, false, false, false, false, false, false, false, false, false, false] rfl rfl (any_of HT_.out (by kernel_rfl)) (fun _ _ _ h => h) (Or.inl ⟨by rfl, ?_⟩) ?_ ?_
                    rotate_left
                    · intro w'
                      go_simp
                      with_reducible rfl
                    rotate_left
                    · simp only [Act.put, List.setIfInBounds_toArray, List.set_cons_zero, List.set_cons_succ, i64_w, i32_w]
                      rfl
                    refine pure_ (i := 3) (N := some 18) (v := ?_) (a' := ?_) #[true, true, true, true, false, false, false, false, false, false, false, false, false, false] rfl rfl (any_of HT_.out (by kernel_rfl)) (fun _ _ _ h => h) (Or.inl ⟨by rfl, ?_⟩) ?_ ?_
                    rotate_left
                    · intro w'
                      go_simp
                      with_reducible rfl
                    rotate_left
                    · simp only [Act.put, List.setIfInBounds_toArray, List.set_cons_zero, List.set_cons_succ, i64_w, i32_w]
                      rfl
                    refine pure_ (i := 4) (N := some 19) (v := ?_) (a' := ?_) #[true, true, true, true, true, false, false, false, false, false, false, false, false, false] rfl rfl (any_of HT_.out (by kernel_rfl)) (fun _ _ _ h => h) (Or.inl ⟨by rfl, ?_⟩) ?_ ?_
                    rotate_left
                    · intro w'
                      go_simp
                      with_reducible rfl
                    rotate_left
                    · simp only [Act.put, List.setIfInBounds_toArray, List.set_cons_zero, List.set_cons_succ, i64_w, i32_w]
                      rfl
                    refine pure_ (i := 7) (N := some 22) (v := ?_) (a' := ?_) #[true, true, true, true, true, false, false, true, false, false, false, false, false, false] rfl rfl (any_of HT_.out (by kernel_rfl)) (fun _ _ _ h => h) (Or.inl ⟨by rfl, ?_⟩) ?_ ?_
                    rotate_left
                    · intro w'
                      go_simp
                      with_reducible rfl
                    rotate_left
                    · simp only [Act.put, List.setIfInBounds_toArray, List.set_cons_zero, List.set_cons_succ, i64_w, i32_w]
                      rfl
                    refine pure_ (i := 8) (N := some 23) (v := ?_) (a' := ?_) #[true, true, true, true, true, false, false, true, true, false, false, false, false, false] rfl rfl (any_of HT_.out (by kernel_rfl)) (fun _ _ _ h => h) (Or.inl ⟨by rfl, ?_⟩) ?_ ?_
                    rotate_left
                    · intro w'
                      go_simp
                      with_reducible rfl
                    rotate_left
                    · simp only [Act.put, List.setIfInBounds_toArray, List.set_cons_zero, List.set_cons_succ, i64_w, i32_w]
                      rfl
                    refine pure_ (i := 9) (N := some 24) (v := ?_) (a' := ?_) #[true, true, true, true, true, false, false, true, true, true, false, false, false, false] rfl rfl (any_of HT_.out (by kernel_rfl)) (fun _ _ _ h => h) (Or.inl ⟨by rfl, ?_⟩) ?_ ?_
                    rotate_left
                    · intro w'
                      go_simp
                      with_reducible rfl
                    rotate_left
                    · simp only [Act.put, List.setIfInBounds_toArray, List.set_cons_zero, List.set_cons_succ, i64_w, i32_w]
                      rfl
                    refine take_ (i := 5) (N := some 20) (v := ?_) (a' := ?_) #[true, true, true, true, true, true, false, true, true, true, false, false, false, false] rfl rfl (take_ofW HT_.out HW_.out (by kernel_rfl)) (fun _ _ _ h => h) (Or.inl ⟨by rfl, ?_⟩) hHeld ?_ ?_
                    rotate_left
                    · rintro w' ⟨s0, s1⟩
                      go_simp
                      with_reducible rfl
                    rotate_left
                    · simp only [Act.put, List.setIfInBounds_toArray, List.set_cons_zero, List.set_cons_succ, i64_w, i32_w]
                      rfl
                    refine pure_ (i := 6) (N := some 21) (v := ?_) (a' := ?_) #[true, true, true, true, true, true, true, true, true, true, false, false, false, false] rfl rfl (any_of HT_.out (by kernel_rfl)) (fun _ _ _ h => h) (Or.inl ⟨by rfl, ?_⟩) ?_ ?_
                    rotate_left
                    · intro w'
                      go_simp
                      with_reducible rfl
                    rotate_left
                    · simp only [Act.put, List.setIfInBounds_toArray, List.set_cons_zero, List.set_cons_succ, i64_w, i32_w]
                      rfl
                    refine take_ (i := 10) (N := some 25) (v := ?_) (a' := ?_) #[true, true, true, true, true, true, true, true, true, true, true, false, false, false] rfl rfl (take_ofW HT_.out HW_.out (by kernel_rfl)) (fun _ _ _ h => h) (Or.inl ⟨by rfl, ?_⟩) hHeld ?_ ?_
                    rotate_left
                    · rintro w' ⟨s0, s1⟩
                      go_simp
                      with_reducible rfl
                    rotate_left
                    · simp only [Act.put, List.setIfInBounds_toArray, List.set_cons_zero, List.set_cons_succ, i64_w, i32_w]
                      rfl
                    refine pure_ (i := 11) (N := some 26) (v := ?_) (a' := ?_) #[true, true, true, true, true, true, true, true, true, true, true, true, false, false] rfl rfl (any_of HT_.out (by kernel_rfl)) (fun _ _ _ h => h) (Or.inl ⟨by rfl, ?_⟩) ?_ ?_
                    rotate_left
                    · intro w'
                      go_simp
                      with_reducible rfl
                    rotate_left
                    · simp only [Act.put, List.setIfInBounds_toArray, List.set_cons_zero, List.set_cons_succ, i64_w, i32_w]
                      rfl
                    refine pure_ (i := 12) (N := some 27) (v := ?_) (a' := ?_) #[true, true, true, true, true, true, true, true, true, true, true, true, true, false] rfl rfl (any_of HT_.out (by kernel_rfl)) (fun _ _ _ h => h) (Or.inl ⟨by rfl, ?_⟩) ?_ ?_
                    rotate_left
                    · intro w'
                      go_simp
                      with_reducible rfl
                    rotate_left
                    · simp only [Act.put, List.setIfInBounds_toArray, List.set_cons_zero, List.set_cons_succ, i64_w, i32_w]
                      rfl
                    refine last_ (i := 13) (N := none) #[true, true, true, true, true, true, true, true, true, true, true, true, true, true] rfl rfl (one_of HT_.out (by kernel_rfl)) (by decide) (fun K hK => ?_)
                    refine skip_ (w1 := ?_) (by rfl) rfl ?_ ?_
                    rotate_left
                    · go_simp
                      rfl
                    refine hK.out _ _ ?_
                    clear hK K
                    refine done_ (done_of HT_.out (by kernel_rfl)) ?_
                    try go_wp2
                    go_roundg k1
                    case measure => have := HK1.out; omega
                    case rel => exact ⟨(y174), (wrap64 (x12_1 + 1)), (by first | rfl | (simp; done) | (simp [*]; done)), H', ⟨by have := HK1.out; omega⟩, ⟨by (with_reducible repeat (first | apply Kd.R_alloc | apply Kd.R_drewN | apply Kd.R_drew)); exact HQ14.out⟩, ⟨by repeat (first | (with_reducible first | exact HB.out | apply below_alloc | apply pw_below_drewN | apply below_drew1 | refine below_set ?_ GB12.out) | exact HB.out)⟩⟩
                  · rw [if_neg c11] at H
                    exact absurd H (by simp)
                · rw [if_neg c10] at H
                  exact absurd H (by simp)
              · rw [if_neg c9] at H
                exact absurd H (by simp)
            · rw [if_neg c8] at H
              exact absurd H (by simp)
          · rw [if_neg c7] at H
            have c7b0 : decide (x12_1 < (l0.length : Int)) = false := decide_eq_false c7
            clear c7
            replace H := Option.bind_eq_some_iff.mp H
            obtain ⟨t175, A150, H⟩ := H
            replace H : (some t175) = some r := H
            have A15 := Aside0.mk A150
            clear A150
            obtain rfl := Option.some.inj H
            obtain ⟨Ao16, co16, eo16⟩ := Kd.R_slice HO_5.out
            subst eo16
            go_wp2_with (first | ((with_reducible refine gate_callee (f := 17) rfl ?_); refine goesL_ (some 30) rfl rfl Try.func17 (by kernel_rfl) rfl #[.slice Ao16 x5_1.length co16] rfl (by (try simp only [List.map_toArray, List.map_cons, List.map_nil]); first | done | rfl | (simp only [List.length_drop, List.length_take]; rfl)) ?_; (with_reducible refine (semigroupref03_Canonical.calls _ _ x5_1 t175 _ ?side1 ?side2 A15.out).mono ?_); (case side1 => repeat (first | exact (Kd.R_reads' HO_5.out).2.2 | (with_reducible refine Kd.C_alloc ?_ _) | (with_reducible refine Kd.C_drewN ?_ _) | (with_reducible refine Kd.C_drew ?_))); (case side2 => exact (Kd.R_reads' HO_5.out).2.1); rintro e w17 ⟨v176, rfl, ho0, hb⟩; refine ⟨_, rfl, ?_⟩; have n0_ := Aside0.mk (Kd.R_elder' (by (with_reducible repeat (first | apply Kd.R_alloc | apply Kd.R_drewN | apply Kd.R_drew)); exact HO_5.out) (Kd.R_base ho0) hb); have n1_ := Aside0.mk (Kd.R_lower (Kd.R_new' ho0 (Kd.R_lt (by (with_reducible repeat (first | apply Kd.R_alloc | apply Kd.R_drewN | apply Kd.R_drew)); exact HO_5.out))) (below_size (by repeat (first | (with_reducible first | exact HB.out | apply below_alloc | apply pw_below_drewN | apply below_drew1) | exact HB.out)))); have n2_ := Aside0.mk (below_step (by repeat (first | (with_reducible first | exact HB.out | apply below_alloc | apply pw_below_drewN | apply below_drew1) | exact HB.out)) hb); clear HO_5; clear HB; have HO_5 := n0_; have HO177 := n1_; have HB := n2_; clear n0_ n1_ n2_; (try clear hb); (try clear hb2); (try clear hk); (try clear hi); (try clear ho0)))
            go_ret
            exact ⟨_, by first | rfl | (simp [errW_none, errW_some] <;> rfl) | (simp [*, errW_none, errW_some] <;> rfl), by (with_reducible repeat (first | apply Kd.R_alloc | apply Kd.R_drewN | apply Kd.R_drew)); exact Kd.R_mono HO177.out (fun _ hk => trivial), by repeat (first | (with_reducible first | exact HB.out | apply below_alloc | apply pw_below_drewN | apply below_drew1) | exact HB.out)⟩
    · rw [if_neg c4] at H
      exact absurd H (by simp)
  · rw [if_neg c3] at H
    exact absurd H (by simp)

/-! ### semigroupref03_Merge: function 46 -/
def semigroupref03_Merge.l0 : Nat → List Int → Int → Int → Int → Int → Option (List Int)
  | 0, _, _, _, _, _ => none
  | k + 1, x0, x6, x7, x18, x19 => if x19 < x18 then (if 0 ≤ x19 then (if x19 < (x0.length : Int) then (if (rd x0 x19) = x7 then (semigroupref03_Merge.l0 k (x0.set (x19 : Int).toNat x6) x6 x7 x18 (wrap64 (x19 + 1))) else (semigroupref03_Merge.l0 k x0 x6 x7 x18 (wrap64 (x19 + 1)))) else (none)) else (none)) else (some x0)
def semigroupref03_Merge.f (k : Nat) (l0 : List Int) (a1 : Int) (a2 : Int) : Option (List Int) := if 0 ≤ a1 then (if a1 < (l0.length : Int) then (if 0 ≤ a2 then (if a2 < (l0.length : Int) then (semigroupref03_Merge.l0 k l0 (rd l0 a1) (rd l0 a2) (l0.length : Int) 0) else (none)) else (none)) else (none)) else (none)
theorem semigroupref03_Merge.mono_l : ∀ k, (∀ y0 y1 y2 y3 y4, LeO (semigroupref03_Merge.l0 k y0 y1 y2 y3 y4) (semigroupref03_Merge.l0 (k + 1) y0 y1 y2 y3 y4))
  | 0 => fun _ _ _ _ _ r h => by simp [semigroupref03_Merge.l0] at h
  | k + 1 => by
    have ih0 := semigroupref03_Merge.mono_l k
    · intro y0 y1 y2 y3 y4
      unfold semigroupref03_Merge.l0
      repeat' first
      | (with_reducible exact ih0 _ _ _ _ _)
      | (with_reducible exact LeO.refl _)
      | (with_reducible exact LeO.none _)
      | (with_reducible refine LeO.ite ?_ ?_)
      | (with_reducible refine LeO.bind ?_ (fun _ => ?_))
      | exact ih0 _ _ _ _ _
      | exact LeO.none _
      | refine LeO.ite ?_ ?_
      | refine LeO.bind ?_ (fun _ => ?_)
theorem semigroupref03_Merge.mono : ∀ a0 a1 a2 k, LeO (semigroupref03_Merge.f k a0 a1 a2) (semigroupref03_Merge.f (k + 1) a0 a1 a2) := by
  intro a0 a1 a2 k
  have ih0 := semigroupref03_Merge.mono_l k
  unfold semigroupref03_Merge.f
  repeat' first
      | (with_reducible exact ih0 _ _ _ _ _)
      | (with_reducible exact LeO.refl _)
      | (with_reducible exact LeO.none _)
      | (with_reducible refine LeO.ite ?_ ?_)
      | (with_reducible refine LeO.bind ?_ (fun _ => ?_))
      | exact ih0 _ _ _ _ _
      | exact LeO.none _
      | refine LeO.ite ?_ ?_
      | refine LeO.bind ?_ (fun _ => ?_)
set_option maxHeartbeats 8000000 in
set_option maxRecDepth 100000 in
theorem semigroupref03_Merge.calls (k : Nat) (P0_ : Nat → Prop) (u9000_ : Value) (l0 : List Int) (a1 : Int) (a2 : Int) (r : List Int) (w0 w : World) (hB : Below w0.heap.size w0 w) (ho0 : Kd.R (Kd.int .i64) 3 w w0.heap.size P0_ u9000_ l0) (h : semigroupref03_Merge.f k l0 a1 a2 = some r) :
    Calls Try.prog 46 #[u9000_, .int .i64 a1, .int .i64 a2] w fun e w' => e = .returned (.tuple #[]) ∧ Kd.R (Kd.int .i64) 3 w' w0.heap.size (fun k_ => (P0_ k_ ∨ w.heap.size ≤ k_)) u9000_ r ∧ Below w0.heap.size w0 w' ∧ Kept w w' (fun k_ => P0_ k_) := by
  have HO0 := Aside0.mk (show Kd.R (Kd.int .i64) 3 w w0.heap.size (fun k_ => (P0_ k_ ∨ w.heap.size ≤ k_)) u9000_ l0 from Kd.R_mono ho0 (fun k_ hk => (.inl hk)))
  have HK := Aside0.mk (Kept.refl w (fun k_ => P0_ k_))
  have HW0 := Aside0.mk hB.size
  have HB := Aside0.mk hB
  clear hB
  have H : (if 0 ≤ a1 then (if a1 < (l0.length : Int) then (if 0 ≤ a2 then (if a2 < (l0.length : Int) then (semigroupref03_Merge.l0 k l0 (rd l0 a1) (rd l0 a2) (l0.length : Int) 0) else (none)) else (none)) else (none)) else (none)) = some r := h
  clear h
  by_cases c4 : 0 ≤ a1
  · rw [if_pos c4] at H
    have c4b0 : decide (0 ≤ a1) = true := decide_eq_true c4
    clear c4
    by_cases c5 : a1 < (l0.length : Int)
    · rw [if_pos c5] at H
      have c5b0 : decide (a1 < (l0.length : Int)) = true := decide_eq_true c5
      clear c5
      by_cases c6 : 0 ≤ a2
      · rw [if_pos c6] at H
        have c6b0 : decide (0 ≤ a2) = true := decide_eq_true c6
        clear c6
        by_cases c7 : a2 < (l0.length : Int)
        · rw [if_pos c7] at H
          have c7b0 : decide (a2 < (l0.length : Int)) = true := decide_eq_true c7
          clear c7
          have H' := Aside0.mk H
          clear H
          obtain ⟨Ao8, co8, eo8⟩ := Kd.R_slice HO0.out
          subst eo8
          have p9 : 0 ≤ (a1 : Int) := of_decide_eq_true (by first | (with_reducible assumption) | assumption)
          have q9 : (a1 : Int) < ((l0.length : Int) : Int) := of_decide_eq_true (by first | (with_reducible assumption) | assumption)
          obtain ⟨go9, co9, eo9, gb9, gl9, cl9, HG9⟩ := Kd.R_form HO0.out (by first | omega | (have e_ := (Kd.R_reads' HO0.out).1; omega))
          (first | cases eo9 | (injection eo9 with ea_ en_ ec_; (first | subst ea_ | (injection ea_ with ea_; subst ea_)); subst ec_; clear en_))
          have GB9 := Aside0.mk gb9
          have GG9 := Aside0.mk HG9
          clear gb9 gl9 HG9
          have HMgo9 := Aside0.mk (show (P0_ go9 ∨ w.heap.size ≤ go9) from (HO0.out.1 _ rfl))
          clear p9 q9
          have p178 : 0 ≤ (a1 : Int) := of_decide_eq_true (by first | (with_reducible assumption) | assumption)
          have q178 : a1 < (l0.length : Int) := of_decide_eq_true (by first | (with_reducible assumption) | assumption)
          obtain ⟨ad178, e178, hx178_0⟩ := Kd.at_int (Kd.R_reads' HO0.out).2.2 a1 p178 q178
          obtain rfl : (⟨go9, 0, none⟩ : Addr) = ad178 := (by injection e178)
          (first | simp only [add_plain] at hx178_0 | simp only [add_at] at hx178_0 | simp only [Addr.add, Nat.zero_add] at hx178_0 | skip)
          replace p178 := eq_true p178
          replace q178 := eq_true q178
          have p179 : 0 ≤ (a2 : Int) := of_decide_eq_true (by first | (with_reducible assumption) | assumption)
          have q179 : a2 < (l0.length : Int) := of_decide_eq_true (by first | (with_reducible assumption) | assumption)
          obtain ⟨ad179, e179, hx179_0⟩ := Kd.at_int (Kd.R_reads' HO0.out).2.2 a2 p179 q179
          obtain rfl : (⟨go9, 0, none⟩ : Addr) = ad179 := (by injection e179)
          (first | simp only [add_plain] at hx179_0 | simp only [add_at] at hx179_0 | simp only [Addr.add, Nat.zero_add] at hx179_0 | skip)
          replace p179 := eq_true p179
          replace q179 := eq_true q179
          go_enter Try.func46, Try.ntmps46
          go_wp2
          repeat (go_quiet (fail); try go_wp2)
          go_loopg [19] k (fun kq v19 w' => ∃ (x0_1 : List Int) (x19_1 : Int), v19 = .int .i64 x19_1 ∧ Aside0 (semigroupref03_Merge.l0 kq x0_1 (rd l0 a1) (rd l0 a2) (l0.length : Int) x19_1 = some r) ∧ Aside0 (kq ≤ k) ∧ Aside0 (Kd.R (Kd.int .i64) 3 w' w0.heap.size (fun k_ => (P0_ k_ ∨ w.heap.size ≤ k_)) (.slice (some ⟨go9, 0, none⟩) l0.length co8) x0_1) ∧ Aside0 (Kept w w' (fun k_ => P0_ k_)) ∧ Aside0 (Below w0.heap.size w0 w'))
          case atStart => exact ⟨(l0), (0), (by first | rfl | (simp; done) | (simp [*]; done)), H', ⟨Nat.le_refl _⟩, ⟨by (with_reducible repeat (first | apply Kd.R_alloc | apply Kd.R_drewN | apply Kd.R_drew)); exact HO0.out⟩, ⟨by repeat (first | (with_reducible first | exact HK.out | apply Kept.alloc | apply Kept.drewN | apply Kept.drew) | exact HK.out)⟩, ⟨by repeat (first | (with_reducible first | exact HB.out | apply below_alloc | apply pw_below_drewN | apply below_drew1) | exact HB.out)⟩⟩
          case round =>
            clear H'
            try clear p1
            try clear q1
            try clear hx1
            try clear p2
            try clear c4
            try clear c4b0
            try clear c5
            try clear c5b0
            try clear c6
            try clear c6b0
            try clear c7
            try clear c7b0
            try clear p9
            try clear q9
            try clear hx178_0
            try clear hx179_0
            try clear p178
            try clear p179
            try clear p9
            try clear q178
            try clear q179
            try clear q9
            obtain ⟨x0_1, x19_1, rfl, HA, HK1, HO_0, HK, HB⟩ := hrel
            have hl0_1 := (Kd.R_reads' HO_0.out).1
            rw [hl0_1] at HO_0
            (try simp only [hl0_1])
            cases gk with
            | zero => exact absurd HA.out (by simp [semigroupref03_Merge.l0])
            | succ k1 =>
              have H := HA.out
              clear HA
              simp only [semigroupref03_Merge.l0] at H
              by_cases c10 : x19_1 < (l0.length : Int)
              · rw [if_pos c10] at H
                have c10b0 : decide (x19_1 < (l0.length : Int)) = true := decide_eq_true c10
                (try (have c10b0_hl0_1 := c10b0; simp only [hl0_1] at c10b0_hl0_1))
                clear c10
                by_cases c11 : 0 ≤ x19_1
                · rw [if_pos c11] at H
                  have c11b0 : decide (0 ≤ x19_1) = true := decide_eq_true c11
                  clear c11
                  by_cases c12 : x19_1 < (x0_1.length : Int)
                  · rw [if_pos c12] at H
                    have c12b0 : decide (x19_1 < (x0_1.length : Int)) = true := decide_eq_true c12
                    (try (have c12b0_hl0_1 := c12b0; simp only [hl0_1] at c12b0_hl0_1))
                    clear c12
                    by_cases c13 : (rd x0_1 x19_1) = (rd l0 a2)
                    · rw [if_pos c13] at H
                      have c13b0 : ((rd x0_1 x19_1) == (rd l0 a2)) = true := beq_iff_eq.mpr c13
                      have c13b1 : ((rd x0_1 x19_1) != (rd l0 a2)) = false := bne_eq_false_iff_eq.mpr c13
                      clear c13
                      obtain ⟨y181, hy181⟩ : ∃ y_ : List Int, y_ = (x0_1.set (x19_1 : Int).toNat (rd l0 a1)) := ⟨_, rfl⟩
                      replace H : (semigroupref03_Merge.l0 k1 y181 (rd l0 a1) (rd l0 a2) (l0.length : Int) (wrap64 (x19_1 + 1))) = some r := by first | (rw [hy181]; with_reducible exact H) | (have H2_ := (Option.bind_some _ _).symm.trans H; rw [hy181]; with_reducible exact H2_) | (have H2_ := (Option.bind_some _ _).symm.trans H; with_reducible exact H2_) | with_reducible exact H | (rw [hy181]; exact H) | exact H
                      have Ny181 := Aside0.mk hy181
                      clear hy181
                      have H' := Aside0.mk H
                      clear H
                      have p180 : 0 ≤ (x19_1 : Int) := of_decide_eq_true (by first | (with_reducible assumption) | assumption)
                      have q180 : x19_1 < (x0_1.length : Int) := of_decide_eq_true (by first | (with_reducible assumption) | assumption)
                      obtain ⟨ad180, e180, hx180_0⟩ := Kd.at_int (Kd.R_reads' HO_0.out).2.2 x19_1 p180 q180
                      obtain rfl : (⟨go9, 0, none⟩ : Addr) = ad180 := (by injection e180)
                      (first | simp only [add_plain] at hx180_0 | simp only [add_at] at hx180_0 | simp only [Addr.add, Nat.zero_add] at hx180_0 | skip)
                      replace p180 := eq_true p180
                      replace q180 := eq_true q180
                      have p14 : 0 ≤ (x19_1 : Int) := of_decide_eq_true (by first | (with_reducible assumption) | assumption)
                      have q14 : (x19_1 : Int) < ((x0_1.length : Int) : Int) := of_decide_eq_true (by first | (with_reducible assumption) | assumption)
                      obtain ⟨hx14_0, hf14_0⟩ := Kd.R_celln 0 HO_0.out (x19_1 : Int) p14 q14
                      replace p14 := eq_true p14
                      replace q14 := eq_true q14
                      have HP15 := Kd.R_putg HO_0.out (x19_1 : Int) (rd l0 a1)
                      go_wp2_with (first | ((with_reducible refine gate_store (t := 3) (p := 31) rfl ?_); (try (rw [drewN_self wr]; generalize hq_ : World.drewN wr _ = wr; have n0_ := Aside0.mk (Kd.R_at hq_ HO_0.out); have n1_ := Aside0.mk (kept_at hq_ HK.out); have n2_ := Aside0.mk (below_at hq_ HB.out); clear hq_ HO_0 HK HB; have HO_0 := n0_; have HK := n1_; have HB := n2_; clear n0_ n1_ n2_; (try (have HP15 := Kd.R_putg HO_0.out (x19_1 : Int) (rd l0 a1))))); refine store_event (t := 3) (p := 31) (v := ?vo_w16) (w1 := (wr.setCell ⟨go9, (x19_1 : Int).toNat, none⟩ (.int .i64 (rd l0 a1)))) ?hg ?ho ?hn ?hr ?_; (case ho => rfl); (case hg => rfl); (case hn => rfl); (case hr => first | (go_simp; done) | (go_simp; rfl)); intro w16 hw; have hg : wr.grownBy w16 (some go9) := (by rw [hw]; exact HP15.2); have hp_ : Kd.R (Kd.int .i64) 3 w16 w0.heap.size (fun k_ => (P0_ k_ ∨ w.heap.size ≤ k_)) (.slice (some ⟨go9, 0, none⟩) x0_1.length co8) y181 := (by rw [hw, Ny181.out]; exact HP15.1); clear HP15; have n0_ := Aside0.mk (hp_); have n1_ := Aside0.mk ((by rw [hw]; exact below_set (HB.out) GB9.out : Below w0.heap.size w0 w16)); have n2_ := Aside0.mk (Kept.of_grown (S := (fun k_ => P0_ k_)) hg (by repeat (first | (with_reducible first | exact HK.out | apply Kept.alloc | apply Kept.drewN | apply Kept.drew) | exact HK.out)) (fun k_ e_ => (HO_0.out.1 k_ e_))); clear HO_0; clear HB; clear HK; have HO_0 := n0_; have HB := n1_; have HK := n2_; clear n0_ n1_ n2_; clear hg hw hp_))
                      repeat (go_quiet (first | ((with_reducible refine gate_store (t := 3) (p := 31) rfl ?_); (try (rw [drewN_self wr]; generalize hq_ : World.drewN wr _ = wr; have n0_ := Aside0.mk (Kd.R_at hq_ HO_0.out); have n1_ := Aside0.mk (kept_at hq_ HK.out); have n2_ := Aside0.mk (below_at hq_ HB.out); clear hq_ HO_0 HK HB; have HO_0 := n0_; have HK := n1_; have HB := n2_; clear n0_ n1_ n2_; (try (have HP15 := Kd.R_putg HO_0.out (x19_1 : Int) (rd l0 a1))))); refine store_event (t := 3) (p := 31) (v := ?vo_w16) (w1 := (wr.setCell ⟨go9, (x19_1 : Int).toNat, none⟩ (.int .i64 (rd l0 a1)))) ?hg ?ho ?hn ?hr ?_; (case ho => rfl); (case hg => rfl); (case hn => rfl); (case hr => first | (go_simp; done) | (go_simp; rfl)); intro w16 hw; have hg : wr.grownBy w16 (some go9) := (by rw [hw]; exact HP15.2); have hp_ : Kd.R (Kd.int .i64) 3 w16 w0.heap.size (fun k_ => (P0_ k_ ∨ w.heap.size ≤ k_)) (.slice (some ⟨go9, 0, none⟩) x0_1.length co8) y181 := (by rw [hw, Ny181.out]; exact HP15.1); clear HP15; have n0_ := Aside0.mk (hp_); have n1_ := Aside0.mk ((by rw [hw]; exact below_set (HB.out) GB9.out : Below w0.heap.size w0 w16)); have n2_ := Aside0.mk (Kept.of_grown (S := (fun k_ => P0_ k_)) hg (by repeat (first | (with_reducible first | exact HK.out | apply Kept.alloc | apply Kept.drewN | apply Kept.drew) | exact HK.out)) (fun k_ e_ => (HO_0.out.1 k_ e_))); clear HO_0; clear HB; clear HK; have HO_0 := n0_; have HB := n1_; have HK := n2_; clear n0_ n1_ n2_; clear hg hw hp_)); try go_wp2_with (first | ((with_reducible refine gate_store (t := 3) (p := 31) rfl ?_); (try (rw [drewN_self wr]; generalize hq_ : World.drewN wr _ = wr; have n0_ := Aside0.mk (Kd.R_at hq_ HO_0.out); have n1_ := Aside0.mk (kept_at hq_ HK.out); have n2_ := Aside0.mk (below_at hq_ HB.out); clear hq_ HO_0 HK HB; have HO_0 := n0_; have HK := n1_; have HB := n2_; clear n0_ n1_ n2_; (try (have HP15 := Kd.R_putg HO_0.out (x19_1 : Int) (rd l0 a1))))); refine store_event (t := 3) (p := 31) (v := ?vo_w16) (w1 := (wr.setCell ⟨go9, (x19_1 : Int).toNat, none⟩ (.int .i64 (rd l0 a1)))) ?hg ?ho ?hn ?hr ?_; (case ho => rfl); (case hg => rfl); (case hn => rfl); (case hr => first | (go_simp; done) | (go_simp; rfl)); intro w16 hw; have hg : wr.grownBy w16 (some go9) := (by rw [hw]; exact HP15.2); have hp_ : Kd.R (Kd.int .i64) 3 w16 w0.heap.size (fun k_ => (P0_ k_ ∨ w.heap.size ≤ k_)) (.slice (some ⟨go9, 0, none⟩) x0_1.length co8) y181 := (by rw [hw, Ny181.out]; exact HP15.1); clear HP15; have n0_ := Aside0.mk (hp_); have n1_ := Aside0.mk ((by rw [hw]; exact below_set (HB.out) GB9.out : Below w0.heap.size w0 w16)); have n2_ := Aside0.mk (Kept.of_grown (S := (fun k_ => P0_ k_)) hg (by repeat (first | (with_reducible first | exact HK.out | apply Kept.alloc | apply Kept.drewN | apply Kept.drew) | exact HK.out)) (fun k_ e_ => (HO_0.out.1 k_ e_))); clear HO_0; clear HB; clear HK; have HO_0 := n0_; have HB := n1_; have HK := n2_; clear n0_ n1_ n2_; clear hg hw hp_)))
                      (try simp only [← hl0_1])
                      go_roundg k1
                      case measure => have := HK1.out; omega
                      case rel => exact ⟨(y181), (wrap64 (x19_1 + 1)), (by first | rfl | (simp; done) | (simp [*]; done)), H', ⟨by have := HK1.out; omega⟩, ⟨by (try simp only [hl0_1]); (with_reducible repeat (first | apply Kd.R_alloc | apply Kd.R_drewN | apply Kd.R_drew)); exact HO_0.out⟩, ⟨by repeat (first | (with_reducible first | exact HK.out | apply Kept.alloc | apply Kept.drewN | apply Kept.drew) | exact HK.out)⟩, ⟨by repeat (first | (with_reducible first | exact HB.out | apply below_alloc | apply pw_below_drewN | apply below_drew1) | exact HB.out)⟩⟩
                    · rw [if_neg c13] at H
                      have c13b0 : ((rd x0_1 x19_1) == (rd l0 a2)) = false := beq_eq_false_iff_ne.mpr c13
                      have c13b1 : ((rd x0_1 x19_1) != (rd l0 a2)) = true := bne_iff_ne.mpr c13
                      have H' := Aside0.mk H
                      clear H
                      have p180 : 0 ≤ (x19_1 : Int) := of_decide_eq_true (by first | (with_reducible assumption) | assumption)
                      have q180 : x19_1 < (x0_1.length : Int) := of_decide_eq_true (by first | (with_reducible assumption) | assumption)
                      obtain ⟨ad180, e180, hx180_0⟩ := Kd.at_int (Kd.R_reads' HO_0.out).2.2 x19_1 p180 q180
                      obtain rfl : (⟨go9, 0, none⟩ : Addr) = ad180 := (by injection e180)
                      (first | simp only [add_plain] at hx180_0 | simp only [add_at] at hx180_0 | simp only [Addr.add, Nat.zero_add] at hx180_0 | skip)
                      replace p180 := eq_true p180
                      replace q180 := eq_true q180
                      go_wp2
                      repeat (go_quiet (fail); try go_wp2)
                      (try simp only [← hl0_1])
                      go_roundg k1
                      case measure => have := HK1.out; omega
                      case rel => exact ⟨(x0_1), (wrap64 (x19_1 + 1)), (by first | rfl | (simp; done) | (simp [*]; done)), H', ⟨by have := HK1.out; omega⟩, ⟨by (try simp only [hl0_1]); (with_reducible repeat (first | apply Kd.R_alloc | apply Kd.R_drewN | apply Kd.R_drew)); exact HO_0.out⟩, ⟨by repeat (first | (with_reducible first | exact HK.out | apply Kept.alloc | apply Kept.drewN | apply Kept.drew) | exact HK.out)⟩, ⟨by repeat (first | (with_reducible first | exact HB.out | apply below_alloc | apply pw_below_drewN | apply below_drew1) | exact HB.out)⟩⟩
                  · rw [if_neg c12] at H
                    exact absurd H (by simp)
                · rw [if_neg c11] at H
                  exact absurd H (by simp)
              · rw [if_neg c10] at H
                have c10b0 : decide (x19_1 < (l0.length : Int)) = false := decide_eq_false c10
                (try (have c10b0_hl0_1 := c10b0; simp only [hl0_1] at c10b0_hl0_1))
                clear c10
                obtain rfl := Option.some.inj H
                go_wp2
                repeat (go_quiet (fail); try go_wp2)
                first | go_end0 | ((try simp only [Exit.inBlock, Exit.then]); refine bodyPost_ret (results_none rfl _ _ _) rfl ?_)
                exact ⟨by first | rfl | (simp [errW_none, errW_some] <;> rfl) | (simp [*, errW_none, errW_some] <;> rfl), (by first | exact (by (with_reducible repeat (first | apply Kd.R_alloc | apply Kd.R_drewN | apply Kd.R_drew)); exact HO_0.out) | (simp only [hl0_1]; exact (by (with_reducible repeat (first | apply Kd.R_alloc | apply Kd.R_drewN | apply Kd.R_drew)); exact HO_0.out))), by repeat (first | (with_reducible first | exact HB.out | apply below_alloc | apply pw_below_drewN | apply below_drew1) | exact HB.out), by repeat (first | (with_reducible first | exact HK.out | apply Kept.alloc | apply Kept.drewN | apply Kept.drew) | exact HK.out)⟩
        · rw [if_neg c7] at H
          exact absurd H (by simp)
      · rw [if_neg c6] at H
        exact absurd H (by simp)
    · rw [if_neg c5] at H
      exact absurd H (by simp)
  · rw [if_neg c4] at H
    exact absurd H (by simp)

end Go.Proofs.Ytjpghckijecdcaa.PPartitionBounds
