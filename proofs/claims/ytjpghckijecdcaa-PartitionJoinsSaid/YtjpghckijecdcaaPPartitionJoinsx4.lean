-- by hp.py of this repo, over the kit's print: Lean checks it
import Derived.Test.YtjpghckijecdcaaPPartitionJoinsx0
import Derived.Test.YtjpghckijecdcaaPPartitionJoinsx2
import Derived.Test.YtjpghckijecdcaaPPartitionJoinsx3
namespace Go.Proofs.Ytjpghckijecdcaa.PPartitionJoins
open Go.RowKit Go.Proofs.YtjpghckijecdcaaH Go.Proofs.YtjpghckijecdcaaW.PrintWords Go.Proofs.YtjpghckijecdcaaW.PrintLast Go.Proofs.YtjpghckijecdcaaW.PrintMore
attribute [local go_sem] max2_int min2_int max_two min_two max_three min_three max_four min_four   -- for this text's walks alone
set_option linter.unusedVariables false
set_option linter.unusedSimpArgs false

/-! ### partition_Join: function 39 -/
mutual
def partition_Join.l0 : Nat → List Int → List (List Int) → Int → Int → Option (List Int)
  | 0, _, _, _, _ => none
  | k + 1, x5, x22, x23, x24 => if x24 < x23 then (if 0 ≤ x24 then (if x24 < (x22.length : Int) then (partition_Join.l1 k x5 x22 x23 x24 (rd_L1 x22 x24) ((rd_L1 x22 x24).length : Int) 0 (AM.nil : AM Int Int)) else (none)) else (none)) else ((partition_forest_partition.f k x5).bind fun bt175 => (some bt175.1))
def partition_Join.l1 : Nat → List Int → List (List Int) → Int → Int → List Int → Int → Int → AM Int Int → Option (List Int)
  | 0, _, _, _, _, _, _, _, _ => none
  | k + 1, x5, x22, x23, x24, x29, x30, x31, x181000 => if x31 < x30 then (if 0 ≤ x31 then (if x31 < (x29.length : Int) then (if (AM.has x181000 (rd x29 x31)) = true then ((partition_forest_union.f k x5 x31 (AM.get x181000 (rd x29 x31) 0)).bind fun t182 => (partition_Join.l1 k t182 x22 x23 x24 x29 x30 (wrap64 (x31 + 1)) x181000)) else (partition_Join.l1 k x5 x22 x23 x24 x29 x30 (wrap64 (x31 + 1)) (AM.put x181000 (rd x29 x31) x31))) else (none)) else (none)) else (partition_Join.l0 k x5 x22 x23 (wrap64 (x24 + 1)))
end
def partition_Join.f (k : Nat) (l0 : List Int) (l1 : List Int) : Option (List Int) := (partition_both.f k l0 l1).bind fun t168 => (if t168 = true then ((partition_newForest.f k (l0.length : Int)).bind fun t169 => ((some (([l0, l1] : List (List Int)) : List (List Int))).bind fun y172 => (partition_Join.l0 k t169 y172 (y172.length : Int) 0))) else (some ([] : List Int)))
theorem partition_Join.mono_l : ∀ k, (∀ y0 y1 y2 y3, LeO (partition_Join.l0 k y0 y1 y2 y3) (partition_Join.l0 (k + 1) y0 y1 y2 y3)) ∧ (∀ y0 y1 y2 y3 y4 y5 y6 y7, LeO (partition_Join.l1 k y0 y1 y2 y3 y4 y5 y6 y7) (partition_Join.l1 (k + 1) y0 y1 y2 y3 y4 y5 y6 y7))
  | 0 => ⟨fun _ _ _ _ r h => by simp [partition_Join.l0] at h, fun _ _ _ _ _ _ _ _ r h => by simp [partition_Join.l1] at h⟩
  | k + 1 => by
    obtain ⟨ih0, ih1⟩ := partition_Join.mono_l k
    refine ⟨?_, ?_⟩
    · intro y0 y1 y2 y3
      unfold partition_Join.l0
      repeat' first
      | (with_reducible exact ih0 _ _ _ _)
      | (with_reducible exact ih1 _ _ _ _ _ _ _ _)
      | (with_reducible exact partition_both.mono _ _ _)
      | (with_reducible exact partition_forest_partition.mono _ _)
      | (with_reducible exact partition_forest_union.mono _ _ _ _)
      | (with_reducible exact partition_newForest.mono _ _)
      | (with_reducible exact LeO.refl _)
      | (with_reducible exact LeO.none _)
      | (with_reducible refine LeO.ite ?_ ?_)
      | (with_reducible refine LeO.bind ?_ (fun _ => ?_))
      | exact ih0 _ _ _ _
      | exact ih1 _ _ _ _ _ _ _ _
      | exact partition_both.mono _ _ _
      | exact partition_forest_partition.mono _ _
      | exact partition_forest_union.mono _ _ _ _
      | exact partition_newForest.mono _ _
      | exact LeO.none _
      | refine LeO.ite ?_ ?_
      | refine LeO.bind ?_ (fun _ => ?_)
    · intro y0 y1 y2 y3 y4 y5 y6 y7
      unfold partition_Join.l1
      repeat' first
      | (with_reducible exact ih0 _ _ _ _)
      | (with_reducible exact ih1 _ _ _ _ _ _ _ _)
      | (with_reducible exact partition_both.mono _ _ _)
      | (with_reducible exact partition_forest_partition.mono _ _)
      | (with_reducible exact partition_forest_union.mono _ _ _ _)
      | (with_reducible exact partition_newForest.mono _ _)
      | (with_reducible exact LeO.refl _)
      | (with_reducible exact LeO.none _)
      | (with_reducible refine LeO.ite ?_ ?_)
      | (with_reducible refine LeO.bind ?_ (fun _ => ?_))
      | exact ih0 _ _ _ _
      | exact ih1 _ _ _ _ _ _ _ _
      | exact partition_both.mono _ _ _
      | exact partition_forest_partition.mono _ _
      | exact partition_forest_union.mono _ _ _ _
      | exact partition_newForest.mono _ _
      | exact LeO.none _
      | refine LeO.ite ?_ ?_
      | refine LeO.bind ?_ (fun _ => ?_)
theorem partition_Join.mono : ∀ a0 a1 k, LeO (partition_Join.f k a0 a1) (partition_Join.f (k + 1) a0 a1) := by
  intro a0 a1 k
  obtain ⟨ih0, ih1⟩ := partition_Join.mono_l k
  unfold partition_Join.f
  repeat' first
      | (with_reducible exact ih0 _ _ _ _)
      | (with_reducible exact ih1 _ _ _ _ _ _ _ _)
      | (with_reducible exact partition_both.mono _ _ _)
      | (with_reducible exact partition_forest_partition.mono _ _)
      | (with_reducible exact partition_forest_union.mono _ _ _ _)
      | (with_reducible exact partition_newForest.mono _ _)
      | (with_reducible exact LeO.refl _)
      | (with_reducible exact LeO.none _)
      | (with_reducible refine LeO.ite ?_ ?_)
      | (with_reducible refine LeO.bind ?_ (fun _ => ?_))
      | exact ih0 _ _ _ _
      | exact ih1 _ _ _ _ _ _ _ _
      | exact partition_both.mono _ _ _
      | exact partition_forest_partition.mono _ _
      | exact partition_forest_union.mono _ _ _ _
      | exact partition_newForest.mono _ _
      | exact LeO.none _
      | refine LeO.ite ?_ ?_
      | refine LeO.bind ?_ (fun _ => ?_)
set_option maxHeartbeats 8000000 in
set_option maxRecDepth 100000 in
theorem partition_Join.calls (k : Nat) (P0_ : Nat → Prop) (A0 : Option Addr) (c0 : Nat) (l0 : List Int) (P1_ : Nat → Prop) (A1 : Option Addr) (c1 : Nat) (l1 : List Int) (r : List Int) (w : World) (hs0 : Kd.V (Kd.int .i64) 3 w w.heap.size (fun k_ => P0_ k_) (.slice A0 l0.length c0) l0) (hs1 : Kd.V (Kd.int .i64) 3 w w.heap.size (fun k_ => P1_ k_) (.slice A1 l1.length c1) l1) (h : partition_Join.f k l0 l1 = some r) :
    Calls Try.prog 39 #[.slice A0 l0.length c0, .slice A1 l1.length c1] w fun e w' => ∃ v0_ : Value, e = .returned (v0_) ∧ Kd.R (Kd.int .i64) 3 w' w.heap.size (fun k_ => (w.heap.size ≤ k_)) v0_ r ∧ Below w.heap.size w w' := by
  have HO0 := Aside0.mk (show Kd.V (Kd.int .i64) 3 w w.heap.size (fun k_ => ((P0_ k_ ∨ P1_ k_) ∨ w.heap.size ≤ k_)) (.slice A0 l0.length c0) l0 from Kd.V_mono hs0 (fun k_ hk => .inl (.inl hk)))
  have HO1 := Aside0.mk (show Kd.V (Kd.int .i64) 3 w w.heap.size (fun k_ => ((P0_ k_ ∨ P1_ k_) ∨ w.heap.size ≤ k_)) (.slice A1 l1.length c1) l1 from Kd.V_mono hs1 (fun k_ hk => .inl (.inr hk)))
  have HB := Aside0.mk (Below.refl w.heap.size w)
  have H : ((partition_both.f k l0 l1).bind fun t168 => (if t168 = true then ((partition_newForest.f k (l0.length : Int)).bind fun t169 => ((some (([l0, l1] : List (List Int)) : List (List Int))).bind fun y172 => (partition_Join.l0 k t169 y172 (y172.length : Int) 0))) else (some ([] : List Int)))) = some r := h
  clear h
  replace H := Option.bind_eq_some_iff.mp H
  obtain ⟨t168, A30, H⟩ := H
  replace H : (if t168 = true then ((partition_newForest.f k (l0.length : Int)).bind fun t169 => ((some (([l0, l1] : List (List Int)) : List (List Int))).bind fun y172 => (partition_Join.l0 k t169 y172 (y172.length : Int) 0))) else (some ([] : List Int))) = some r := H
  have A3 := Aside0.mk A30
  clear A30
  by_cases c4 : t168 = true
  · subst c4
    have H1 : ((partition_newForest.f k (l0.length : Int)).bind fun t169 => ((some (([l0, l1] : List (List Int)) : List (List Int))).bind fun y172 => (partition_Join.l0 k t169 y172 (y172.length : Int) 0))) = some r := by rw [if_pos rfl] at H; exact H
    clear H
    have H := H1
    clear H1
    replace H := Option.bind_eq_some_iff.mp H
    obtain ⟨t169, A50, H⟩ := H
    replace H : ((some (([l0, l1] : List (List Int)) : List (List Int))).bind fun y172 => (partition_Join.l0 k t169 y172 (y172.length : Int) 0)) = some r := H
    have A5 := Aside0.mk A50
    clear A50
    obtain ⟨y172, hy172⟩ : ∃ y_ : List (List Int), y_ = (([l0, l1] : List (List Int))) := ⟨_, rfl⟩
    replace H : (partition_Join.l0 k t169 y172 (y172.length : Int) 0) = some r := by first | (rw [hy172]; with_reducible exact H) | (have H2_ := (Option.bind_some _ _).symm.trans H; rw [hy172]; with_reducible exact H2_) | (have H2_ := (Option.bind_some _ _).symm.trans H; with_reducible exact H2_) | with_reducible exact H | (rw [hy172]; exact H) | exact H
    have Ny172 := Aside0.mk hy172
    clear hy172
    have H' := Aside0.mk H
    clear H
    go_enter Try.func39, Try.ntmps39
    go_wp2_with (first | ((with_reducible refine gate_callee (f := 47) rfl ?_); refine goesL_ (some 15) rfl rfl Try.func47 (by kernel_rfl) rfl #[.slice A0 l0.length c0, .slice A1 l1.length c1] rfl (by (try simp only [List.map_toArray, List.map_cons, List.map_nil]); first | done | rfl | (simp only [List.length_drop, List.length_take]; rfl)) ?_; (with_reducible refine (partition_both.calls k _ _ l0 _ _ l1 true _ ?side1 ?side2 ?side3 ?side4 A3.out).mono ?_); (case side1 => repeat (first | exact (Kd.V_reads' HO0.out).2.2 | (with_reducible refine Kd.C_alloc ?_ _) | (with_reducible refine Kd.C_drewN ?_ _) | (with_reducible refine Kd.C_drew ?_))); (case side2 => exact (Kd.V_reads' HO0.out).2.1); (case side3 => repeat (first | exact (Kd.V_reads' HO1.out).2.2 | (with_reducible refine Kd.C_alloc ?_ _) | (with_reducible refine Kd.C_drewN ?_ _) | (with_reducible refine Kd.C_drew ?_))); (case side4 => exact (Kd.V_reads' HO1.out).2.1); rintro e w' ⟨rfl, ⟨nd, rfl⟩⟩; refine ⟨_, rfl, ?_⟩) | ((with_reducible refine gate_callee (f := 43) rfl ?_); refine goesL_ (some 19) rfl rfl Try.func43 (by kernel_rfl) rfl #[.int .i64 (l0.length : Int)] rfl (by (try simp only [List.map_toArray, List.map_cons, List.map_nil]); first | done | rfl | (simp only [List.length_drop, List.length_take]; rfl)) ?_; (with_reducible refine (partition_newForest.calls k (l0.length : Int) t169 _ A5.out).mono ?_); rintro e w6 ⟨v170, rfl, ho0, hb⟩; refine ⟨_, rfl, ?_⟩; have n0_ := Aside0.mk (Kd.V_elder' (by (with_reducible repeat (first | apply Kd.V_alloc | apply Kd.V_drewN | apply Kd.V_drew)); exact HO0.out) (Kd.R_base ho0) hb); have n1_ := Aside0.mk (Kd.V_elder' (by (with_reducible repeat (first | apply Kd.V_alloc | apply Kd.V_drewN | apply Kd.V_drew)); exact HO1.out) (Kd.R_base ho0) hb); have n2_ := Aside0.mk (Kd.R_lower (Kd.R_newM (M := fun k_ => (w.heap.size ≤ k_)) ho0 (below_size (by repeat (first | (with_reducible first | exact HB.out | apply below_alloc | apply pw_below_drewN | apply below_drew1) | exact HB.out))) (fun k_ h_ => h_)) (below_size (by repeat (first | (with_reducible first | exact HB.out | apply below_alloc | apply pw_below_drewN | apply below_drew1) | exact HB.out)))); have n3_ := Aside0.mk (below_step (by repeat (first | (with_reducible first | exact HB.out | apply below_alloc | apply pw_below_drewN | apply below_drew1) | exact HB.out)) hb); clear HO0; clear HO1; clear HB; have HO0 := n0_; have HO1 := n1_; have HO171 := n2_; have HB := n3_; clear n0_ n1_ n2_ n3_; (try clear hb); (try clear hb2); (try clear hk); (try clear hi); (try clear ho0)) | ((with_reducible refine gate_dst (N := 22) rfl ?_); refine Kd.N_lit (Kd.slice 3 (Kd.int .i64)) _ 22 ?hg (N' := 22) ?hd (xs := ([l0, l1] : List (List Int))) (inner := [.slice A0 l0.length c0, .slice A1 l1.length c1]) (ok := (fun k_ => ((P0_ k_ ∨ P1_ k_) ∨ w.heap.size ≤ k_) ∧ some k_ ≠ (v170 : Value).ownBlock)) (okp := (fun k_ => ((P0_ k_ ∨ P1_ k_) ∨ w.heap.size ≤ k_) ∧ some k_ ≠ (v170 : Value).ownBlock)) ?hr ?hp (fun _ hk => hk) ((show ∀ k_, w6.heap.size ≤ k_ → (fun k_ => ((P0_ k_ ∨ P1_ k_) ∨ w.heap.size ≤ k_) ∧ some k_ ≠ (v170 : Value).ownBlock) k_ from fun k_ hk => ⟨(.inr (Nat.le_trans (below_size (by repeat (first | (with_reducible first | exact HB.out | apply below_alloc | apply pw_below_drewN | apply below_drew1) | exact HB.out))) hk)), Kd.fresh' (Kd.R_lt (by (with_reducible repeat (first | apply Kd.R_alloc | apply Kd.R_drewN | apply Kd.R_drew)); exact HO171.out)) k_ hk⟩) _ (Nat.le_refl _)) (Below.refl _ _) (Nat.le_refl _) (by simp) ?_; (case hd => rfl); (case hg => rfl); (case hr => first | (go_simp; done) | (go_simp; rfl)); (case hp => exact (Reps.one (show Kd.FK (Kd.slice 3 (Kd.int .i64)) _ _ l0 [.slice A0 l0.length c0] from (Kd.FK_slice_mk (Kd.V_reads' (Kd.V_mono (ok' := (fun k_ => ((P0_ k_ ∨ P1_ k_) ∨ w.heap.size ≤ k_) ∧ some k_ ≠ (v170 : Value).ownBlock)) (HO0.out) (fun k_ hk => ⟨hk.1, hk.2⟩))).2.1 (Kd.V_F (Kd.V_mono (ok' := (fun k_ => ((P0_ k_ ∨ P1_ k_) ∨ w.heap.size ≤ k_) ∧ some k_ ≠ (v170 : Value).ownBlock)) (HO0.out) (fun k_ hk => ⟨hk.1, hk.2⟩))))) (Reps.one (show Kd.FK (Kd.slice 3 (Kd.int .i64)) _ _ l1 [.slice A1 l1.length c1] from (Kd.FK_slice_mk (Kd.V_reads' (Kd.V_mono (ok' := (fun k_ => ((P0_ k_ ∨ P1_ k_) ∨ w.heap.size ≤ k_) ∧ some k_ ≠ (v170 : Value).ownBlock)) (HO1.out) (fun k_ hk => ⟨hk.1, hk.2⟩))).2.1 (Kd.V_F (Kd.V_mono (ok' := (fun k_ => ((P0_ k_ ∨ P1_ k_) ∨ w.heap.size ≤ k_) ∧ some k_ ≠ (v170 : Value).ownBlock)) (HO1.out) (fun k_ hk => ⟨hk.1, hk.2⟩))))) (Reps.none _ _)))); intro v173 w7 ho8 hb hg_ hnew_; clear hg_ hnew_; (first | rw [← Ny172.out] at ho8 | (simp only [Int.reduceToNat] at ho8; rw [← Ny172.out] at ho8)); have n0_ := Aside0.mk (Kd.V_elder' (by (with_reducible repeat (first | apply Kd.V_alloc | apply Kd.V_drewN | apply Kd.V_drew)); exact HO0.out) (Kd.N_base ho8) hb); have n1_ := Aside0.mk (Kd.V_elder' (by (with_reducible repeat (first | apply Kd.V_alloc | apply Kd.V_drewN | apply Kd.V_drew)); exact HO1.out) (Kd.N_base ho8) hb); have n2_ := Aside0.mk (Kd.R_below (by (with_reducible repeat (first | apply Kd.R_alloc | apply Kd.R_drewN | apply Kd.R_drew)); exact HO171.out) hb); have n3_ := Aside0.mk (Kd.N_lower ho8 (below_size (by repeat (first | (with_reducible first | exact HB.out | apply below_alloc | apply pw_below_drewN | apply below_drew1) | exact HB.out)))); have n4_ := Aside0.mk (below_step (by repeat (first | (with_reducible first | exact HB.out | apply below_alloc | apply pw_below_drewN | apply below_drew1) | exact HB.out)) hb); clear HO0; clear HO1; clear HO171; clear HB; have HO0 := n0_; have HO1 := n1_; have HO171 := n2_; have HO174 := n3_; have HB := n4_; clear n0_ n1_ n2_ n3_ n4_; clear hb ho8; obtain ⟨Ao9, co9, eo9⟩ := Kd.N_slice HO174.out; subst eo9))
    go_loopg [24] k (fun kq v24 w' => ∃ (x5_1 : List Int) (x24_1 : Int), v24 = .int .i64 x24_1 ∧ Aside0 (partition_Join.l0 kq x5_1 y172 (y172.length : Int) x24_1 = some r) ∧ Aside0 (kq ≤ k) ∧ Aside0 (Kd.R (Kd.int .i64) 3 w' w.heap.size (fun k_ => (w.heap.size ≤ k_)) v170 x5_1) ∧ Aside0 (Kd.N (Kd.slice 3 (Kd.int .i64)) 22 w' w.heap.size (fun k_ => ((P0_ k_ ∨ P1_ k_) ∨ w.heap.size ≤ k_) ∧ some k_ ≠ (v170 : Value).ownBlock) (.slice Ao9 y172.length co9) y172) ∧ Aside0 (Below w.heap.size w w'))
    case atStart => exact ⟨(t169), (0), (by first | rfl | (simp; done) | (simp [*]; done)), H', ⟨Nat.le_refl _⟩, ⟨by (with_reducible repeat (first | apply Kd.R_alloc | apply Kd.R_drewN | apply Kd.R_drew)); exact Kd.R_mono HO171.out (fun _ hk => hk.1)⟩, ⟨by (with_reducible repeat (first | apply Kd.N_alloc | apply Kd.N_drewN | apply Kd.N_drew)); exact HO174.out⟩, ⟨by repeat (first | (with_reducible first | exact HB.out | apply below_alloc | apply pw_below_drewN | apply below_drew1) | exact HB.out)⟩⟩
    case round =>
      clear H'
      try clear c1
      try clear p2
      try clear c3
      try clear c4
      obtain ⟨x5_1, x24_1, rfl, HA, HK1, HO_5, HO_22, HB⟩ := hrel
      cases gk with
      | zero => exact absurd HA.out (by simp [partition_Join.l0])
      | succ k1 =>
        have H := HA.out
        clear HA
        simp only [partition_Join.l0] at H
        by_cases c10 : x24_1 < (y172.length : Int)
        · rw [if_pos c10] at H
          have c10b0 : decide (x24_1 < (y172.length : Int)) = true := decide_eq_true c10
          clear c10
          by_cases c11 : 0 ≤ x24_1
          · rw [if_pos c11] at H
            have c11b0 : decide (0 ≤ x24_1) = true := decide_eq_true c11
            clear c11
            by_cases c12 : x24_1 < (y172.length : Int)
            · rw [if_pos c12] at H
              have c12b0 : decide (x24_1 < (y172.length : Int)) = true := decide_eq_true c12
              clear c12
              have H' := Aside0.mk H
              clear H
              have p179 : 0 ≤ (x24_1 : Int) := of_decide_eq_true (by first | (with_reducible assumption) | assumption)
              have q179 : x24_1 < (y172.length : Int) := of_decide_eq_true (by first | (with_reducible assumption) | assumption)
              obtain ⟨ad179, A179_0, c179_0, e179, hx179_0, hl179_0, hi179_0⟩ := at_L1 (Kd.N_reads' HO_22.out).2.2 x24_1 p179 q179
              cases e179
              obtain ⟨ce179, hce179, hMe179, hcc179⟩ := Kd.N_get HO_22.out [] x24_1 p179 (by first | exact q179 | exact of_decide_eq_true (by first | (with_reducible assumption) | assumption) | (have e_ := (Kd.N_reads' HO_22.out).1; omega))
              obtain ⟨ua179_0, uc179_0, rfl, ul179_0, ge179_0⟩ := Kd.FK_slice_open hMe179
              have hv179_0 := hcc179 0 _ rfl
              rw [Nat.add_zero, show ((Kd.slice 3 (Kd.int .i64))).sz = 1 from rfl, Nat.mul_one] at hv179_0
              replace hv179_0 := Option.some.inj (hv179_0.symm.trans hx179_0)
              injection hv179_0 with hva_ hvn_ hvc_
              rw [hva_] at ge179_0
              rw [hvc_] at ul179_0
              have HL179_0 := Aside0.mk (show Kd.V (Kd.int .i64) 3 _ w.heap.size _ _ (rd_L1 y172 x24_1) from Kd.V_mk ul179_0 ge179_0)
              clear hva_ hvn_ hvc_ ge179_0 ul179_0
              clear hcc179 hce179
              have HR179_0 := Aside0.mk hi179_0
              have HC179_0 := Aside0.mk hl179_0
              clear hi179_0 hl179_0
              replace p179 := eq_true p179
              replace q179 := eq_true q179
              go_wp2_with (first | ((with_reducible refine gate_dst (N := 28) rfl ?_); refine map_event (Value.int .i64) (Value.int .i64) ?hg (N := 28) ?hd ?hr ?_; (case hd => rfl); (case hg => rfl); (case hr => first | rfl | (go_simp; done) | (go_simp; rfl)); intro gb180 hg w13 hbox hb; have n0_ := Aside0.mk (Kd.R_below (by (with_reducible repeat (first | apply Kd.R_alloc | apply Kd.R_drewN | apply Kd.R_drew)); exact HO_5.out) hb); have n1_ := Aside0.mk (Kd.N_below (Kd.N_elderB (by (with_reducible repeat (first | apply Kd.N_alloc | apply Kd.N_drewN | apply Kd.N_drew)); exact HO_22.out) gb180 (Nat.le_of_eq hg.symm)) hb); have n2_ := Aside0.mk (Kd.V_below (Kd.V_elderB (by (with_reducible repeat (first | apply Kd.V_alloc | apply Kd.V_drewN | apply Kd.V_drew)); exact HL179_0.out) gb180 (Nat.le_of_eq hg.symm)) hb); have n3_ := Aside0.mk (Kd.C_below (by repeat (first | (with_reducible exact HR179_0.out) | (with_reducible refine Kd.C_alloc ?_ _) | (with_reducible refine Kd.C_drewN ?_ _) | (with_reducible refine Kd.C_drew ?_) | exact HR179_0.out)) hb); have n4_ := Aside0.mk (below_step (by repeat (first | (with_reducible first | exact HB.out | apply below_alloc | apply pw_below_drewN | apply below_drew1) | exact HB.out)) hb); have n5_ := Aside0.mk (hbox); have n6_ := Aside0.mk ((by rw [hg]; exact (below_size (by repeat (first | (with_reducible first | exact HB.out | apply below_alloc | apply pw_below_drewN | apply below_drew1) | exact HB.out))) : w.heap.size ≤ gb180)); have n7_ := Aside0.mk ((by rw [hg]; exact (below_size (by repeat (first | (with_reducible first | exact HB.out | apply below_alloc | apply pw_below_drewN | apply below_drew1) | exact HB.out))) : w.heap.size ≤ gb180)); clear HO_5; clear HO_22; clear HL179_0; clear HR179_0; clear HB; have HO_5 := n0_; have HO_22 := n1_; have HL179_0 := n2_; have HR179_0 := n3_; have HB := n4_; have BK180 := n5_; have GW180 := n6_; have GE180 := n7_; clear n0_ n1_ n2_ n3_ n4_ n5_ n6_ n7_; clear hb hbox hg))
              go_loopg [31] k1 (fun kq v31 w' => ∃ (x5_2 : List Int) (x31_2 : Int) (x181000_2 : AM Int Int), v31 = .int .i64 x31_2 ∧ Aside0 (partition_Join.l1 kq x5_2 y172 (y172.length : Int) x24_1 (rd_L1 y172 x24_1) ((rd_L1 y172 x24_1).length : Int) x31_2 x181000_2 = some r) ∧ Aside0 (kq ≤ k1) ∧ Aside0 (Kd.R (Kd.int .i64) 3 w' w.heap.size (fun k_ => (w.heap.size ≤ k_)) v170 x5_2) ∧ Aside0 (Kd.N (Kd.slice 3 (Kd.int .i64)) 22 w' w.heap.size (fun k_ => ((P0_ k_ ∨ P1_ k_) ∨ w.heap.size ≤ k_) ∧ some k_ ≠ (v170 : Value).ownBlock ∧ k_ ≠ gb180) (.slice (some ad179) y172.length co9) y172) ∧ Aside0 (w'.heap[gb180]? = some (mapO (Value.int .i64) (Value.int .i64) x181000_2)) ∧ Aside0 (Kd.V (Kd.int .i64) 3 w' w.heap.size (fun k_ => ((P0_ k_ ∨ P1_ k_) ∨ w.heap.size ≤ k_) ∧ some k_ ≠ (v170 : Value).ownBlock ∧ some k_ ≠ ((.slice (some ad179) y172.length co9) : Value).ownBlock ∧ k_ ≠ gb180) (.slice A179_0 (rd_L1 y172 x24_1).length c179_0) (rd_L1 y172 x24_1)) ∧ Aside0 (Kd.C (Kd.int .i64) w' A179_0 (rd_L1 y172 x24_1).length (rd_L1 y172 x24_1)) ∧ Aside0 (Below w.heap.size w w'))
              case atStart => exact ⟨(x5_1), (0), ((AM.nil : AM Int Int)), (by first | rfl | (simp; done) | (simp [*]; done)), H', ⟨Nat.le_refl _⟩, ⟨by (with_reducible repeat (first | apply Kd.R_alloc | apply Kd.R_drewN | apply Kd.R_drew)); exact HO_5.out⟩, ⟨by (with_reducible repeat (first | apply Kd.N_alloc | apply Kd.N_drewN | apply Kd.N_drew)); exact Kd.N_mono HO_22.out (fun _ hk => ⟨hk.1.1, ⟨hk.1.2, hk.2⟩⟩)⟩, ⟨by (with_reducible repeat (first | refine blk_drewN ?_ _ | refine blk_drew ?_ | refine blk_alloc ?_ _)); exact BK180.out⟩, ⟨by (with_reducible repeat (first | apply Kd.V_alloc | apply Kd.V_drewN | apply Kd.V_drew)); exact Kd.V_mono HL179_0.out (fun _ hk => ⟨hk.1.1.1, ⟨hk.1.1.2, ⟨hk.1.2, hk.2⟩⟩⟩)⟩, ⟨by repeat (first | (with_reducible exact HR179_0.out) | (with_reducible refine Kd.C_alloc ?_ _) | (with_reducible refine Kd.C_drewN ?_ _) | (with_reducible refine Kd.C_drew ?_) | exact HR179_0.out)⟩, ⟨by repeat (first | (with_reducible first | exact HB.out | apply below_alloc | apply pw_below_drewN | apply below_drew1 | refine below_set ?_ GE180.out) | exact HB.out)⟩⟩
              case round =>
                clear H'
                try clear c1
                try clear p1
                try clear q1
                try clear hx1
                try clear p2
                try clear c3
                try clear c4
                try clear c10
                try clear c10b0
                try clear c11
                try clear c11b0
                try clear c12
                try clear c12b0
                try clear hx179_0
                try clear p179
                try clear p2
                try clear q179
                obtain ⟨x5_2, x31_2, x181000_2, rfl, HA, HK2, HO_5, HO_22, BK180, HL179_0, HR179_0, HB⟩ := hrel
                cases gk with
                | zero => exact absurd HA.out (by simp [partition_Join.l1])
                | succ k2 =>
                  have H := HA.out
                  clear HA
                  simp only [partition_Join.l1] at H
                  by_cases c14 : x31_2 < ((rd_L1 y172 x24_1).length : Int)
                  · rw [if_pos c14] at H
                    have c14b0 : decide (x31_2 < ((rd_L1 y172 x24_1).length : Int)) = true := decide_eq_true c14
                    clear c14
                    by_cases c15 : 0 ≤ x31_2
                    · rw [if_pos c15] at H
                      have c15b0 : decide (0 ≤ x31_2) = true := decide_eq_true c15
                      clear c15
                      by_cases c16 : x31_2 < ((rd_L1 y172 x24_1).length : Int)
                      · rw [if_pos c16] at H
                        have c16b0 : decide (x31_2 < ((rd_L1 y172 x24_1).length : Int)) = true := decide_eq_true c16
                        clear c16
                        by_cases c17 : (AM.has x181000_2 (rd (rd_L1 y172 x24_1) x31_2)) = true
                        · rw [if_pos c17] at H
                          have c17b0 : (AM.has x181000_2 (rd (rd_L1 y172 x24_1) x31_2)) = true := c17
                          clear c17
                          replace H := Option.bind_eq_some_iff.mp H
                          obtain ⟨t182, A180, H⟩ := H
                          replace H : (partition_Join.l1 k2 t182 y172 (y172.length : Int) x24_1 (rd_L1 y172 x24_1) ((rd_L1 y172 x24_1).length : Int) (wrap64 (x31_2 + 1)) x181000_2) = some r := H
                          have A18 := Aside0.mk A180
                          clear A180
                          have H' := Aside0.mk H
                          clear H
                          have p181 : 0 ≤ (x31_2 : Int) := of_decide_eq_true (by first | (with_reducible assumption) | assumption)
                          have q181 : x31_2 < ((rd_L1 y172 x24_1).length : Int) := of_decide_eq_true (by first | (with_reducible assumption) | assumption)
                          obtain ⟨ad181, e181, hx181_0⟩ := Kd.at_int (by repeat (first | (with_reducible exact HR179_0.out) | (with_reducible refine Kd.C_alloc ?_ _) | (with_reducible refine Kd.C_drewN ?_ _) | (with_reducible refine Kd.C_drew ?_) | exact HR179_0.out)) x31_2 p181 q181
                          cases e181
                          replace p181 := eq_true p181
                          replace q181 := eq_true q181
                          obtain ⟨Ao19, co19, eo19⟩ := Kd.R_slice HO_5.out
                          subst eo19
                          go_wp2_with (first | ((with_reducible refine gate_dst (N := 39) rfl ?_); at_lookup; refine wp_lookOk rfl _ _ _ rfl 3 3 (keyOk_int Try.underlying3) Try.underlying44 gb180 x181000_2 (show _ = some (mapO (Value.int .i64) (Value.int .i64) x181000_2) from by (with_reducible repeat (first | refine blk_drewN ?_ _ | refine blk_drew ?_ | refine blk_alloc ?_ _)); exact BK180.out) rfl (rd (rd_L1 y172 x24_1) x31_2) rfl 0 (zv3 _) ?_) | ((with_reducible refine gate_callee (f := 44) rfl ?_); refine goesL_ (some 46) rfl rfl Try.func44 (by kernel_rfl) rfl #[.slice Ao19 x5_2.length co19, .int .i64 x31_2, .int .i64 (AM.get x181000_2 (rd (rd_L1 y172 x24_1) x31_2) 0)] rfl (by (try simp only [List.map_toArray, List.map_cons, List.map_nil]); first | done | rfl | (simp only [List.length_drop, List.length_take]; rfl)) ?_; (with_reducible refine (partition_forest_union.calls k2 (fun k_ => some k_ = (.slice Ao19 x5_2.length co19 : Value).ownBlock) (.slice Ao19 x5_2.length co19) x5_2 x31_2 (AM.get x181000_2 (rd (rd_L1 y172 x24_1) x31_2) 0) t182 w _ ?side1 ?side2 A18.out).mono ?_); (case side1 => repeat (first | (with_reducible first | exact HB.out | apply below_alloc | apply pw_below_drewN | apply below_drew1 | refine below_set ?_ GE180.out) | exact HB.out)); (case side2 => exact Kd.R_tight rfl HO_5.out); rintro e w20 ⟨rfl, hy0, hb, hkp⟩; refine ⟨_, rfl, ?_⟩; have n0_ := Aside0.mk (Kd.R_reok rfl hy0 (fun k_ e_ => HO_5.out.1 k_ e_)); have n1_ := Aside0.mk (Kd.N_mono (ok' := fun k_ => ((P0_ k_ ∨ P1_ k_) ∨ w.heap.size ≤ k_) ∧ some k_ ≠ (.slice Ao19 x5_2.length co19 : Value).ownBlock ∧ k_ ≠ gb180) (Kd.N_keptB (HO_22.out) hkp (fun k_ hk_ hs_ => (hk_.2.1) hs_)) (fun k_ hk_ => ⟨hk_.1.1, hk_.1.2.1, hk_.1.2.2⟩)); have n2_ := Aside0.mk (blk_kept (by (with_reducible repeat (first | refine blk_drewN ?_ _ | refine blk_drew ?_ | refine blk_alloc ?_ _)); exact BK180.out) hkp (fun hs_ => (fun e_ => (R_neM HO_5.out BK180.out) e_) hs_)); have n3_ := Aside0.mk (Kd.V_mono (ok' := fun k_ => ((P0_ k_ ∨ P1_ k_) ∨ w.heap.size ≤ k_) ∧ some k_ ≠ (.slice Ao19 x5_2.length co19 : Value).ownBlock ∧ some k_ ≠ (.slice (some ad179) y172.length co9 : Value).ownBlock ∧ k_ ≠ gb180) (Kd.V_keptB (HL179_0.out) hkp (fun k_ hk_ hs_ => (hk_.2.1) hs_)) (fun k_ hk_ => ⟨hk_.1.1, hk_.1.2.1, hk_.1.2.2.1, hk_.1.2.2.2⟩)); have n4_ := Aside0.mk (hb); have n5_ := Aside0.mk ((Kd.V_reads' (Kd.V_mono (ok' := fun k_ => ((P0_ k_ ∨ P1_ k_) ∨ w.heap.size ≤ k_) ∧ some k_ ≠ (.slice Ao19 x5_2.length co19 : Value).ownBlock ∧ some k_ ≠ (.slice (some ad179) y172.length co9 : Value).ownBlock ∧ k_ ≠ gb180) (Kd.V_keptB (HL179_0.out) hkp (fun k_ hk_ hs_ => (hk_.2.1) hs_)) (fun k_ hk_ => ⟨hk_.1.1, hk_.1.2.1, hk_.1.2.2.1, hk_.1.2.2.2⟩))).2.2); clear HO_5; clear HO_22; clear BK180; clear HL179_0; clear HB; clear HR179_0; have HO_5 := n0_; have HO_22 := n1_; have BK180 := n2_; have HL179_0 := n3_; have HB := n4_; have HR179_0 := n5_; clear n0_ n1_ n2_ n3_ n4_ n5_; (try clear hb); (try clear hkp); (try clear hy0)))
                          go_roundg k2
                          case measure => have := HK1.out; have := HK2.out; omega
                          case rel => exact ⟨(t182), (wrap64 (x31_2 + 1)), (x181000_2), (by first | rfl | (simp; done) | (simp [*]; done)), H', ⟨by have := HK1.out; have := HK2.out; omega⟩, ⟨by (with_reducible repeat (first | apply Kd.R_alloc | apply Kd.R_drewN | apply Kd.R_drew)); exact HO_5.out⟩, ⟨by (with_reducible repeat (first | apply Kd.N_alloc | apply Kd.N_drewN | apply Kd.N_drew)); exact HO_22.out⟩, ⟨by (with_reducible repeat (first | refine blk_drewN ?_ _ | refine blk_drew ?_ | refine blk_alloc ?_ _)); exact BK180.out⟩, ⟨by (with_reducible repeat (first | apply Kd.V_alloc | apply Kd.V_drewN | apply Kd.V_drew)); exact HL179_0.out⟩, ⟨by repeat (first | (with_reducible exact HR179_0.out) | (with_reducible refine Kd.C_alloc ?_ _) | (with_reducible refine Kd.C_drewN ?_ _) | (with_reducible refine Kd.C_drew ?_) | exact HR179_0.out)⟩, ⟨by repeat (first | (with_reducible first | exact HB.out | apply below_alloc | apply pw_below_drewN | apply below_drew1 | refine below_set ?_ GE180.out) | exact HB.out)⟩⟩
                        · rw [if_neg c17] at H
                          have c17b0 : (AM.has x181000_2 (rd (rd_L1 y172 x24_1) x31_2)) = false := by simpa using c17
                          clear c17
                          obtain ⟨y183, hy183⟩ : ∃ y_ : AM Int Int, y_ = (AM.put x181000_2 (rd (rd_L1 y172 x24_1) x31_2) x31_2) := ⟨_, rfl⟩
                          replace H : (partition_Join.l1 k2 x5_2 y172 (y172.length : Int) x24_1 (rd_L1 y172 x24_1) ((rd_L1 y172 x24_1).length : Int) (wrap64 (x31_2 + 1)) y183) = some r := by first | (rw [hy183]; with_reducible exact H) | (have H2_ := (Option.bind_some _ _).symm.trans H; rw [hy183]; with_reducible exact H2_) | (have H2_ := (Option.bind_some _ _).symm.trans H; with_reducible exact H2_) | with_reducible exact H | (rw [hy183]; exact H) | exact H
                          have Ny183 := Aside0.mk hy183
                          clear hy183
                          have H' := Aside0.mk H
                          clear H
                          have p181 : 0 ≤ (x31_2 : Int) := of_decide_eq_true (by first | (with_reducible assumption) | assumption)
                          have q181 : x31_2 < ((rd_L1 y172 x24_1).length : Int) := of_decide_eq_true (by first | (with_reducible assumption) | assumption)
                          obtain ⟨ad181, e181, hx181_0⟩ := Kd.at_int (by repeat (first | (with_reducible exact HR179_0.out) | (with_reducible refine Kd.C_alloc ?_ _) | (with_reducible refine Kd.C_drewN ?_ _) | (with_reducible refine Kd.C_drew ?_) | exact HR179_0.out)) x31_2 p181 q181
                          cases e181
                          replace p181 := eq_true p181
                          replace q181 := eq_true q181
                          go_wp2_with (first | ((with_reducible refine gate_dst (N := 39) rfl ?_); at_lookup; refine wp_lookOk rfl _ _ _ rfl 3 3 (keyOk_int Try.underlying3) Try.underlying44 gb180 x181000_2 (show _ = some (mapO (Value.int .i64) (Value.int .i64) x181000_2) from by (with_reducible repeat (first | refine blk_drewN ?_ _ | refine blk_drew ?_ | refine blk_alloc ?_ _)); exact BK180.out) rfl (rd (rd_L1 y172 x24_1) x31_2) rfl 0 (zv3 _) ?_) | (at_mapUpdate; refine wp_putM rfl _ _ _ 44 (.inl rfl) 3 3 (keyOk_int Try.underlying3) Try.underlying44 gb180 x181000_2 (show _ = some (mapO (Value.int .i64) (Value.int .i64) x181000_2) from by (with_reducible repeat (first | refine blk_drewN ?_ _ | refine blk_drew ?_ | refine blk_alloc ?_ _)); exact BK180.out) rfl (rd (rd_L1 y172 x24_1) x31_2) rfl x31_2 rfl ?_; intro w21 hbox hg; rw [← Ny183.out] at hbox; have n0_ := Aside0.mk (R_overM (by (with_reducible repeat (first | apply Kd.R_alloc | apply Kd.R_drewN | apply Kd.R_drew)); exact HO_5.out) (show _ = some (mapO (Value.int .i64) (Value.int .i64) x181000_2) from by (with_reducible repeat (first | refine blk_drewN ?_ _ | refine blk_drew ?_ | refine blk_alloc ?_ _)); exact BK180.out) hg); have n1_ := Aside0.mk (Kd.N_grown (ok := fun k_ => (((P0_ k_ ∨ P1_ k_) ∨ w.heap.size ≤ k_) ∧ (some k_ ≠ (v170 : Value).ownBlock ∧ k_ ≠ gb180))) (by (with_reducible repeat (first | apply Kd.N_alloc | apply Kd.N_drewN | apply Kd.N_drew)); exact HO_22.out) hg (fun k_ hk e_ => (hk.2.2) (Option.some.inj e_))); have n2_ := Aside0.mk (hbox); have n3_ := Aside0.mk (Kd.V_grown (ok := fun k_ => (((P0_ k_ ∨ P1_ k_) ∨ w.heap.size ≤ k_) ∧ (some k_ ≠ (v170 : Value).ownBlock ∧ (some k_ ≠ (.slice (some ad179) y172.length co9 : Value).ownBlock ∧ k_ ≠ gb180)))) (by (with_reducible repeat (first | apply Kd.V_alloc | apply Kd.V_drewN | apply Kd.V_drew)); exact HL179_0.out) hg (fun k_ hk e_ => (hk.2.2.2) (Option.some.inj e_))); have n4_ := Aside0.mk (below_mapO (by repeat (first | (with_reducible first | exact HB.out | apply below_alloc | apply pw_below_drewN | apply below_drew1 | refine below_set ?_ GE180.out) | exact HB.out)) (below_size (by repeat (first | (with_reducible first | exact HB.out | apply below_alloc | apply pw_below_drewN | apply below_drew1 | refine below_set ?_ GE180.out) | exact HB.out))) GE180.out hg); have n5_ := Aside0.mk ((Kd.V_reads' (Kd.V_grown (ok := fun k_ => (((P0_ k_ ∨ P1_ k_) ∨ w.heap.size ≤ k_) ∧ (some k_ ≠ (v170 : Value).ownBlock ∧ (some k_ ≠ (.slice (some ad179) y172.length co9 : Value).ownBlock ∧ k_ ≠ gb180)))) (by (with_reducible repeat (first | apply Kd.V_alloc | apply Kd.V_drewN | apply Kd.V_drew)); exact HL179_0.out) hg (fun k_ hk e_ => (hk.2.2.2) (Option.some.inj e_)))).2.2); clear HO_5; clear HO_22; clear BK180; clear HL179_0; clear HB; clear HR179_0; have HO_5 := n0_; have HO_22 := n1_; have BK180 := n2_; have HL179_0 := n3_; have HB := n4_; have HR179_0 := n5_; clear n0_ n1_ n2_ n3_ n4_ n5_; clear hbox hg))
                          go_roundg k2
                          case measure => have := HK1.out; have := HK2.out; omega
                          case rel => exact ⟨(x5_2), (wrap64 (x31_2 + 1)), (y183), (by first | rfl | (simp; done) | (simp [*]; done)), H', ⟨by have := HK1.out; have := HK2.out; omega⟩, ⟨by (with_reducible repeat (first | apply Kd.R_alloc | apply Kd.R_drewN | apply Kd.R_drew)); exact HO_5.out⟩, ⟨by (with_reducible repeat (first | apply Kd.N_alloc | apply Kd.N_drewN | apply Kd.N_drew)); exact HO_22.out⟩, ⟨by (with_reducible repeat (first | refine blk_drewN ?_ _ | refine blk_drew ?_ | refine blk_alloc ?_ _)); exact BK180.out⟩, ⟨by (with_reducible repeat (first | apply Kd.V_alloc | apply Kd.V_drewN | apply Kd.V_drew)); exact HL179_0.out⟩, ⟨by repeat (first | (with_reducible exact HR179_0.out) | (with_reducible refine Kd.C_alloc ?_ _) | (with_reducible refine Kd.C_drewN ?_ _) | (with_reducible refine Kd.C_drew ?_) | exact HR179_0.out)⟩, ⟨by repeat (first | (with_reducible first | exact HB.out | apply below_alloc | apply pw_below_drewN | apply below_drew1 | refine below_set ?_ GE180.out) | exact HB.out)⟩⟩
                      · rw [if_neg c16] at H
                        exact absurd H (by simp)
                    · rw [if_neg c15] at H
                      exact absurd H (by simp)
                  · rw [if_neg c14] at H
                    have c14b0 : decide (x31_2 < ((rd_L1 y172 x24_1).length : Int)) = false := decide_eq_false c14
                    clear c14
                    have H' := Aside0.mk H
                    clear H
                    go_wp2
                    go_roundg k2
                    case measure => have := HK1.out; have := HK2.out; omega
                    case rel => exact ⟨(x5_2), (wrap64 (x24_1 + 1)), (by first | rfl | (simp; done) | (simp [*]; done)), H', ⟨by have := HK1.out; have := HK2.out; omega⟩, ⟨by (with_reducible repeat (first | apply Kd.R_alloc | apply Kd.R_drewN | apply Kd.R_drew)); exact HO_5.out⟩, ⟨by (with_reducible repeat (first | apply Kd.N_alloc | apply Kd.N_drewN | apply Kd.N_drew)); exact Kd.N_mono HO_22.out (fun _ hk => ⟨hk.1, hk.2.1⟩)⟩, ⟨by repeat (first | (with_reducible first | exact HB.out | apply below_alloc | apply pw_below_drewN | apply below_drew1 | refine below_set ?_ GE180.out) | exact HB.out)⟩⟩
            · rw [if_neg c12] at H
              exact absurd H (by simp)
          · rw [if_neg c11] at H
            exact absurd H (by simp)
        · rw [if_neg c10] at H
          have c10b0 : decide (x24_1 < (y172.length : Int)) = false := decide_eq_false c10
          clear c10
          replace H := Option.bind_eq_some_iff.mp H
          obtain ⟨⟨t175, t178⟩, A220, H⟩ := H
          replace H : (some t175) = some r := H
          have A22 := Aside0.mk A220
          clear A220
          obtain rfl := Option.some.inj H
          obtain ⟨Ao23, co23, eo23⟩ := Kd.R_slice HO_5.out
          subst eo23
          go_wp2_with (first | ((with_reducible refine gate_callee (f := 45) rfl ?_); refine goesL_ (some 53) rfl rfl Try.func45 (by kernel_rfl) rfl #[.slice Ao23 x5_1.length co23] rfl (by (try simp only [List.map_toArray, List.map_cons, List.map_nil]); first | done | rfl | (simp only [List.length_drop, List.length_take]; rfl)) ?_; (with_reducible refine (partition_forest_partition.calls k1 (fun k_ => some k_ = (.slice Ao23 x5_1.length co23 : Value).ownBlock) (.slice Ao23 x5_1.length co23) x5_1 t175 t178 w _ ?side1 ?side2 A22.out).mono ?_); (case side1 => repeat (first | (with_reducible first | exact HB.out | apply below_alloc | apply pw_below_drewN | apply below_drew1) | exact HB.out)); (case side2 => exact Kd.R_tight rfl HO_5.out); rintro e w24 ⟨v176, rfl, ho0, hy0, hb, hkp⟩; refine ⟨_, rfl, ?_⟩; have n0_ := Aside0.mk (Kd.R_reok rfl hy0 (fun k_ e_ => HO_5.out.1 k_ e_)); have n1_ := Aside0.mk (Kd.N_mono (ok' := fun k_ => ((P0_ k_ ∨ P1_ k_) ∨ w.heap.size ≤ k_) ∧ some k_ ≠ (.slice Ao23 x5_1.length co23 : Value).ownBlock ∧ some k_ ≠ (v176 : Value).ownBlock) (Kd.N_keptB (HO_22.out) hkp (fun k_ hk_ hs_ => (hk_.2) hs_)) (fun k_ hk_ => ⟨hk_.1.1, hk_.1.2, fun e_ => Or.elim (ho0.1 k_ e_.symm).1 (fun hs_ => hk_.2.1 hs_) (fun hn_ => Nat.not_le.2 hk_.2.2 hn_)⟩)); have n2_ := Aside0.mk (Kd.R_mono (ok' := fun k_ => (w.heap.size ≤ k_) ∧ some k_ ≠ (.slice Ao23 x5_1.length co23 : Value).ownBlock) ho0 (fun k_ hk_ => ⟨Or.elim hk_.1 (fun hs_ => (HO_5.out.1 k_ (hs_).symm)) (fun hn_ => (Nat.le_trans (below_size (by repeat (first | (with_reducible first | exact HB.out | apply below_alloc | apply pw_below_drewN | apply below_drew1) | exact HB.out))) hn_)), hk_.2⟩)); have n3_ := Aside0.mk (hb); clear HO_5; clear HO_22; clear HB; have HO_5 := n0_; have HO_22 := n1_; have HO177 := n2_; have HB := n3_; clear n0_ n1_ n2_ n3_; (try clear hb); (try clear hkp); (try clear ho0); (try clear hy0)))
          go_ret
          exact ⟨_, by first | rfl | (simp [errW_none, errW_some] <;> rfl) | (simp [*, errW_none, errW_some] <;> rfl), by (with_reducible repeat (first | apply Kd.R_alloc | apply Kd.R_drewN | apply Kd.R_drew)); exact Kd.R_mono HO177.out (fun _ hk => hk.1), by repeat (first | (with_reducible first | exact HB.out | apply below_alloc | apply pw_below_drewN | apply below_drew1) | exact HB.out)⟩
  · replace c4 := Bool.eq_false_iff.mpr c4
    subst c4
    have H1 : (some ([] : List Int)) = some r := by rw [if_neg (show ¬ (false = true) by decide)] at H; exact H
    clear H
    have H := H1
    clear H1
    obtain rfl := Option.some.inj H
    go_enter Try.func39, Try.ntmps39
    go_wp2_with (first | ((with_reducible refine gate_callee (f := 47) rfl ?_); refine goesL_ (some 15) rfl rfl Try.func47 (by kernel_rfl) rfl #[.slice A0 l0.length c0, .slice A1 l1.length c1] rfl (by (try simp only [List.map_toArray, List.map_cons, List.map_nil]); first | done | rfl | (simp only [List.length_drop, List.length_take]; rfl)) ?_; (with_reducible refine (partition_both.calls k _ _ l0 _ _ l1 false _ ?side1 ?side2 ?side3 ?side4 A3.out).mono ?_); (case side1 => repeat (first | exact (Kd.V_reads' HO0.out).2.2 | (with_reducible refine Kd.C_alloc ?_ _) | (with_reducible refine Kd.C_drewN ?_ _) | (with_reducible refine Kd.C_drew ?_))); (case side2 => exact (Kd.V_reads' HO0.out).2.1); (case side3 => repeat (first | exact (Kd.V_reads' HO1.out).2.2 | (with_reducible refine Kd.C_alloc ?_ _) | (with_reducible refine Kd.C_drewN ?_ _) | (with_reducible refine Kd.C_drew ?_))); (case side4 => exact (Kd.V_reads' HO1.out).2.1); rintro e w' ⟨rfl, ⟨nd, rfl⟩⟩; refine ⟨_, rfl, ?_⟩))
    go_ret
    exact ⟨_, by first | rfl | (simp [errW_none, errW_some] <;> rfl) | (simp [*, errW_none, errW_some] <;> rfl), by first | exact Kd.R_nil _ _ _ _ _ | exact Kd.N_nil _ _ _ _ _ | exact Kd.V_nil _ _ _ _ _ | exact Kd.Q_nil _ _ _ _ _ | exact Kd.S_nil _ _ _ _ _, by repeat (first | (with_reducible first | exact HB.out | apply below_alloc | apply pw_below_drewN | apply below_drew1) | exact HB.out)⟩

end Go.Proofs.Ytjpghckijecdcaa.PPartitionJoins
