-- by hp.py of this repo, over the kit's print: Lean checks it
import Derived.Test.YtjpghckijecdcaaPPartitionPairsx0
import Derived.Test.YtjpghckijecdcaaPPartitionPairsx1
namespace Go.Proofs.Ytjpghckijecdcaa.PPartitionPairs
open Go.RowKit Go.Proofs.YtjpghckijecdcaaH Go.Proofs.YtjpghckijecdcaaW.PrintWords Go.Proofs.YtjpghckijecdcaaW.PrintLast Go.Proofs.YtjpghckijecdcaaW.PrintMore
attribute [local go_sem] max2_int min2_int max_two min_two max_three min_three max_four min_four   -- for this text's walks alone
set_option linter.unusedVariables false
set_option linter.unusedSimpArgs false

/-! ### partition_FromPairs: function 26 -/
mutual
def partition_FromPairs.j0 : Nat → Int → List (S42) → Bool → Option (List Int)
  | 0, _, _, _ => none
  | k + 1, x0, x1, x13 => if x13 = true then (some ([] : List Int)) else ((partition_newForest.f k x0).bind fun t136 => (partition_FromPairs.l0 k x0 t136 x1 (x1.length : Int) 0))
def partition_FromPairs.l0 : Nat → Int → List Int → List (S42) → Int → Int → Option (List Int)
  | 0, _, _, _, _, _ => none
  | k + 1, x0, x5, x16, x17, x18 => if x18 < x17 then (if 0 ≤ x18 then (if x18 < (x16.length : Int) then (if ((rd_T42 x16 x18).f0) < 0 then (some ([] : List Int)) else (if ((rd_T42 x16 x18).f0) ≥ x0 then (some ([] : List Int)) else (if ((rd_T42 x16 x18).f1) < 0 then (some ([] : List Int)) else (if ((rd_T42 x16 x18).f1) ≥ x0 then (some ([] : List Int)) else ((partition_forest_union.f k x5 ((rd_T42 x16 x18).f0) ((rd_T42 x16 x18).f1)).bind fun t141 => (partition_FromPairs.l0 k x0 t141 x16 x17 (wrap64 (x18 + 1)))))))) else (none)) else (none)) else ((partition_forest_partition.f k x5).bind fun bt142 => (some bt142.1))
end
def partition_FromPairs.f (k : Nat) (a0 : Int) (l1 : List (S42)) : Option (List Int) := if a0 < 0 then (partition_FromPairs.j0 k a0 l1 true) else (partition_FromPairs.j0 k a0 l1 (decide (a0 > 4096)))
theorem partition_FromPairs.mono_l : ∀ k, (∀ y0 y1 y2, LeO (partition_FromPairs.j0 k y0 y1 y2) (partition_FromPairs.j0 (k + 1) y0 y1 y2)) ∧ (∀ y0 y1 y2 y3 y4, LeO (partition_FromPairs.l0 k y0 y1 y2 y3 y4) (partition_FromPairs.l0 (k + 1) y0 y1 y2 y3 y4))
  | 0 => ⟨fun _ _ _ r h => by simp [partition_FromPairs.j0] at h, fun _ _ _ _ _ r h => by simp [partition_FromPairs.l0] at h⟩
  | k + 1 => by
    obtain ⟨ih0, ih1⟩ := partition_FromPairs.mono_l k
    refine ⟨?_, ?_⟩
    · intro y0 y1 y2
      unfold partition_FromPairs.j0
      repeat' first
      | (with_reducible exact ih0 _ _ _)
      | (with_reducible exact ih1 _ _ _ _ _)
      | (with_reducible exact partition_forest_partition.mono _ _)
      | (with_reducible exact partition_forest_union.mono _ _ _ _)
      | (with_reducible exact partition_newForest.mono _ _)
      | (with_reducible exact LeO.refl _)
      | (with_reducible exact LeO.none _)
      | (with_reducible refine LeO.ite ?_ ?_)
      | (with_reducible refine LeO.bind ?_ (fun _ => ?_))
      | exact ih0 _ _ _
      | exact ih1 _ _ _ _ _
      | exact partition_forest_partition.mono _ _
      | exact partition_forest_union.mono _ _ _ _
      | exact partition_newForest.mono _ _
      | exact LeO.none _
      | refine LeO.ite ?_ ?_
      | refine LeO.bind ?_ (fun _ => ?_)
    · intro y0 y1 y2 y3 y4
      unfold partition_FromPairs.l0
      repeat' first
      | (with_reducible exact ih0 _ _ _)
      | (with_reducible exact ih1 _ _ _ _ _)
      | (with_reducible exact partition_forest_partition.mono _ _)
      | (with_reducible exact partition_forest_union.mono _ _ _ _)
      | (with_reducible exact partition_newForest.mono _ _)
      | (with_reducible exact LeO.refl _)
      | (with_reducible exact LeO.none _)
      | (with_reducible refine LeO.ite ?_ ?_)
      | (with_reducible refine LeO.bind ?_ (fun _ => ?_))
      | exact ih0 _ _ _
      | exact ih1 _ _ _ _ _
      | exact partition_forest_partition.mono _ _
      | exact partition_forest_union.mono _ _ _ _
      | exact partition_newForest.mono _ _
      | exact LeO.none _
      | refine LeO.ite ?_ ?_
      | refine LeO.bind ?_ (fun _ => ?_)
theorem partition_FromPairs.mono : ∀ a0 a1 k, LeO (partition_FromPairs.f k a0 a1) (partition_FromPairs.f (k + 1) a0 a1) := by
  intro a0 a1 k
  obtain ⟨ih0, ih1⟩ := partition_FromPairs.mono_l k
  unfold partition_FromPairs.f
  repeat' first
      | (with_reducible exact ih0 _ _ _)
      | (with_reducible exact ih1 _ _ _ _ _)
      | (with_reducible exact partition_forest_partition.mono _ _)
      | (with_reducible exact partition_forest_union.mono _ _ _ _)
      | (with_reducible exact partition_newForest.mono _ _)
      | (with_reducible exact LeO.refl _)
      | (with_reducible exact LeO.none _)
      | (with_reducible refine LeO.ite ?_ ?_)
      | (with_reducible refine LeO.bind ?_ (fun _ => ?_))
      | exact ih0 _ _ _
      | exact ih1 _ _ _ _ _
      | exact partition_forest_partition.mono _ _
      | exact partition_forest_union.mono _ _ _ _
      | exact partition_newForest.mono _ _
      | exact LeO.none _
      | refine LeO.ite ?_ ?_
      | refine LeO.bind ?_ (fun _ => ?_)
set_option maxHeartbeats 8000000 in
set_option maxRecDepth 100000 in
theorem partition_FromPairs.calls (k : Nat) (a0 : Int) (A1 : Option Addr) (c1 : Nat) (l1 : List (S42)) (r : List Int) (w : World) (hr1 : Kd.C k42 w A1 l1.length l1) (hc1 : l1.length ≤ c1) (h : partition_FromPairs.f k a0 l1 = some r) :
    Calls Try.prog 26 #[.int .i64 a0, .slice A1 l1.length c1] w fun e w' => ∃ v0_ : Value, e = .returned (v0_) ∧ Kd.R (Kd.int .i64) 3 w' w.heap.size (fun _ => True) v0_ r ∧ Below w.heap.size w w' := by
  have hu42 := Try.underlying42
  have ia42_0 : ∀ (g_ : Nat) (w_ : World), (Instr.indexAt 42 (.pointer (some ⟨g_, 0, none⟩)) (.int .i64 0)).run Try.prog w_ = .ok (.pointer (some ⟨g_, 0, none⟩)) w_ := fun _ _ => by kernel_rfl
  have ia42_1 : ∀ (g_ : Nat) (w_ : World), (Instr.indexAt 42 (.pointer (some ⟨g_, 0, none⟩)) (.int .i64 1)).run Try.prog w_ = .ok (.pointer (some ⟨g_, 1, none⟩)) w_ := fun _ _ => by kernel_rfl
  have HR1 := Aside0.mk hr1
  have HC1 := Aside0.mk hc1
  clear hr1 hc1
  have HB := Aside0.mk (Below.refl w.heap.size w)
  have H : (if a0 < 0 then (partition_FromPairs.j0 k a0 l1 true) else (partition_FromPairs.j0 k a0 l1 (decide (a0 > 4096)))) = some r := h
  clear h
  have HC3 := Aside0.mk H
  clear H
  go_enter Try.func26, Try.ntmps26
  go_upto_region 1 with (fail)
  go_cut [13] (fun v13 wc => ∃ (kq : Nat) (x13_2 : Bool), v13 = .bool x13_2 ∧ Aside0 (partition_FromPairs.j0 kq a0 l1 x13_2 = some r) ∧ Aside0 (kq ≤ k) ∧ Aside0 (Below w.heap.size w wc))
  case first =>
    have H := HC3.out
    clear HC3
    by_cases c4 : a0 < 0
    · rw [if_pos c4] at H
      have c4b0 : decide (a0 < 0) = true := decide_eq_true c4
      clear c4
      (first | rw [c4b0] | (simp only [i64_w, i32_w]; rw [c4b0]) | skip)
      have H' := Aside0.mk H
      clear H
      go_wp2
      go_meet
      case rel => exact ⟨_, (true), (by first | rfl | (simp; done) | (simp [*]; done)), H', ⟨by first | omega | exact Nat.le_refl _⟩, ⟨by repeat (first | (with_reducible first | exact HB.out | apply below_alloc | apply pw_below_drewN | apply below_drew1) | exact HB.out)⟩⟩
    · rw [if_neg c4] at H
      have c4b0 : decide (a0 < 0) = false := decide_eq_false c4
      clear c4
      (first | rw [c4b0] | (simp only [i64_w, i32_w]; rw [c4b0]) | skip)
      have H' := Aside0.mk H
      clear H
      go_wp2
      go_meet
      case rel => exact ⟨_, (decide (a0 > 4096)), (by first | rfl | (simp; done) | (simp [*]; done)), H', ⟨by first | omega | exact Nat.le_refl _⟩, ⟨by repeat (first | (with_reducible first | exact HB.out | apply below_alloc | apply pw_below_drewN | apply below_drew1) | exact HB.out)⟩⟩
  case rest =>
    clear HC3
    try clear c1
    try clear c2
    try clear p2
    try clear c4
    try clear c4b0
    obtain ⟨kq, x13_2, rfl, HA, HJ2, HB⟩ := hcut
    cases kq with
    | zero => exact absurd HA.out (by simp [partition_FromPairs.j0])
    | succ kj2 =>
      have H := HA.out
      clear HA
      simp only [partition_FromPairs.j0] at H
      by_cases c5 : x13_2 = true
      · subst c5
        have H1 : (some ([] : List Int)) = some r := by rw [if_pos rfl] at H; exact H
        clear H
        have H := H1
        clear H1
        obtain rfl := Option.some.inj H
        go_wp2
        go_ret
        exact ⟨_, by first | rfl | (simp [errW_none, errW_some] <;> rfl) | (simp [*, errW_none, errW_some] <;> rfl), by first | exact Kd.R_nil _ _ _ _ _ | exact Kd.N_nil _ _ _ _ _ | exact Kd.V_nil _ _ _ _ _ | exact Kd.Q_nil _ _ _ _ _ | exact Kd.S_nil _ _ _ _ _, by repeat (first | (with_reducible first | exact HB.out | apply below_alloc | apply pw_below_drewN | apply below_drew1) | exact HB.out)⟩
      · replace c5 := Bool.eq_false_iff.mpr c5
        subst c5
        have H1 : ((partition_newForest.f kj2 a0).bind fun t136 => (partition_FromPairs.l0 kj2 a0 t136 l1 (l1.length : Int) 0)) = some r := by rw [if_neg (show ¬ (false = true) by decide)] at H; exact H
        clear H
        have H := H1
        clear H1
        replace H := Option.bind_eq_some_iff.mp H
        obtain ⟨t136, A60, H⟩ := H
        replace H : (partition_FromPairs.l0 kj2 a0 t136 l1 (l1.length : Int) 0) = some r := H
        have A6 := Aside0.mk A60
        clear A60
        have H' := Aside0.mk H
        clear H
        go_wp2_with (first | ((with_reducible refine gate_callee (f := 43) rfl ?_); refine goesL_ (some 15) rfl rfl Try.func43 (by kernel_rfl) rfl #[.int .i64 a0] rfl (by (try simp only [List.map_toArray, List.map_cons, List.map_nil]); first | done | rfl | (simp only [List.length_drop, List.length_take]; rfl)) ?_; (with_reducible refine (partition_newForest.calls kj2 a0 t136 _ A6.out).mono ?_); rintro e w7 ⟨v137, rfl, ho0, hb⟩; refine ⟨_, rfl, ?_⟩; have n0_ := Aside0.mk (Kd.R_lower ho0 (below_size (by repeat (first | (with_reducible first | exact HB.out | apply below_alloc | apply pw_below_drewN | apply below_drew1) | exact HB.out)))); have n1_ := Aside0.mk (below_step (by repeat (first | (with_reducible first | exact HB.out | apply below_alloc | apply pw_below_drewN | apply below_drew1) | exact HB.out)) hb); clear HB; have HO138 := n0_; have HB := n1_; clear n0_ n1_; (try clear hb); (try clear hb2); (try clear hk); (try clear hi); (try clear ho0)))
        go_loopg [18] kj2 (fun kq v18 w' => ∃ (x5_2 : List Int) (x18_2 : Int), v18 = .int .i64 x18_2 ∧ Aside0 (partition_FromPairs.l0 kq a0 x5_2 l1 (l1.length : Int) x18_2 = some r) ∧ Aside0 (kq ≤ kj2) ∧ Aside0 (Kd.R (Kd.int .i64) 3 w' w.heap.size (fun _ => True) v137 x5_2) ∧ Aside0 (Below w.heap.size w w'))
        case atStart => exact ⟨(t136), (0), (by first | rfl | (simp; done) | (simp [*]; done)), H', ⟨Nat.le_refl _⟩, ⟨by (with_reducible repeat (first | apply Kd.R_alloc | apply Kd.R_drewN | apply Kd.R_drew)); exact HO138.out⟩, ⟨by repeat (first | (with_reducible first | exact HB.out | apply below_alloc | apply pw_below_drewN | apply below_drew1) | exact HB.out)⟩⟩
        case round =>
          clear H'
          try clear c1
          try clear c2
          try clear p2
          try clear c4
          try clear c4b0
          try clear c5
          try clear p2
          obtain ⟨x5_2, x18_2, rfl, HA, HK2, HO_5, HB⟩ := hrel
          cases gk with
          | zero => exact absurd HA.out (by simp [partition_FromPairs.l0])
          | succ k2 =>
            have H := HA.out
            clear HA
            simp only [partition_FromPairs.l0] at H
            by_cases c8 : x18_2 < (l1.length : Int)
            · rw [if_pos c8] at H
              have c8b0 : decide (x18_2 < (l1.length : Int)) = true := decide_eq_true c8
              clear c8
              by_cases c9 : 0 ≤ x18_2
              · rw [if_pos c9] at H
                have c9b0 : decide (0 ≤ x18_2) = true := decide_eq_true c9
                clear c9
                by_cases c10 : x18_2 < (l1.length : Int)
                · rw [if_pos c10] at H
                  have c10b0 : decide (x18_2 < (l1.length : Int)) = true := decide_eq_true c10
                  clear c10
                  by_cases c11 : ((rd_T42 l1 x18_2).f0) < 0
                  · rw [if_pos c11] at H
                    have c11b0 : decide (((rd_T42 l1 x18_2).f0) < 0) = true := decide_eq_true c11
                    clear c11
                    obtain rfl := Option.some.inj H
                    have p139 : 0 ≤ (x18_2 : Int) := of_decide_eq_true (by first | (with_reducible assumption) | assumption)
                    have q139 : x18_2 < (l1.length : Int) := of_decide_eq_true (by first | (with_reducible assumption) | assumption)
                    obtain ⟨ad139, e139, hx139_0, hx139_1⟩ := at_T42 HR1.out x18_2 p139 q139
                    cases e139
                    (try replace hx139_0 := (HB.out.cell (World.block_lt_of_cell? w _ hx139_0)).trans hx139_0)
                    (try replace hx139_1 := (HB.out.cell (World.block_lt_of_cell? w _ hx139_1)).trans hx139_1)
                    replace p139 := eq_true p139
                    replace q139 := eq_true q139
                    go_wp2_with (first | ((with_reducible refine gate_dst (N := 7) rfl ?_); refine box_event ?hg (N := 7) ?hd (cs := #[.int .i64 0, .int .i64 0]) (t := 42) ?hr ?_; (case hd => rfl); (case hg => rfl); (case hr => first | (go_simp; done) | (go_simp; rfl)); intro gb140 hg w12 hbox hb; have n0_ := Aside0.mk (Kd.R_below (by (with_reducible repeat (first | apply Kd.R_alloc | apply Kd.R_drewN | apply Kd.R_drew)); exact HO_5.out) hb); have n1_ := Aside0.mk (below_step (by repeat (first | (with_reducible first | exact HB.out | apply below_alloc | apply pw_below_drewN | apply below_drew1) | exact HB.out)) hb); have n2_ := Aside0.mk (hbox); have n3_ := Aside0.mk ((by rw [hg]; exact (below_size (by repeat (first | (with_reducible first | exact HB.out | apply below_alloc | apply pw_below_drewN | apply below_drew1) | exact HB.out))) : w.heap.size ≤ gb140)); have n4_ := Aside0.mk ((by rw [hg]; exact (below_size (by repeat (first | (with_reducible first | exact HB.out | apply below_alloc | apply pw_below_drewN | apply below_drew1) | exact HB.out))) : w.heap.size ≤ gb140)); clear HO_5; clear HB; have HO_5 := n0_; have HB := n1_; have BK140 := n2_; have GW140 := n3_; have GE140 := n4_; clear n0_ n1_ n2_ n3_ n4_; clear hb hbox hg; have hcz13_0 : w12.cell? ⟨gb140, 0, none⟩ = some (.int .i64 0) := (blk_cell BK140.out 0).trans rfl; have hcz13_1 : w12.cell? ⟨gb140, 1, none⟩ = some (.int .i64 0) := (blk_cell BK140.out 1).trans rfl; have hfz13_0 := blk_frozen BK140.out 0; have hfz13_1 := blk_frozen BK140.out 1))
                    go_ret
                    exact ⟨_, by first | rfl | (simp [errW_none, errW_some] <;> rfl) | (simp [*, errW_none, errW_some] <;> rfl), by first | exact Kd.R_nil _ _ _ _ _ | exact Kd.N_nil _ _ _ _ _ | exact Kd.V_nil _ _ _ _ _ | exact Kd.Q_nil _ _ _ _ _ | exact Kd.S_nil _ _ _ _ _, by repeat (first | (with_reducible first | exact HB.out | apply below_alloc | apply pw_below_drewN | apply below_drew1 | refine below_set ?_ GE140.out) | exact HB.out)⟩
                  · rw [if_neg c11] at H
                    have c11b0 : decide (((rd_T42 l1 x18_2).f0) < 0) = false := decide_eq_false c11
                    clear c11
                    by_cases c14 : ((rd_T42 l1 x18_2).f0) ≥ a0
                    · rw [if_pos c14] at H
                      have c14b0 : decide (a0 ≤ ((rd_T42 l1 x18_2).f0)) = true := decide_eq_true c14
                      clear c14
                      obtain rfl := Option.some.inj H
                      have p139 : 0 ≤ (x18_2 : Int) := of_decide_eq_true (by first | (with_reducible assumption) | assumption)
                      have q139 : x18_2 < (l1.length : Int) := of_decide_eq_true (by first | (with_reducible assumption) | assumption)
                      obtain ⟨ad139, e139, hx139_0, hx139_1⟩ := at_T42 HR1.out x18_2 p139 q139
                      cases e139
                      (try replace hx139_0 := (HB.out.cell (World.block_lt_of_cell? w _ hx139_0)).trans hx139_0)
                      (try replace hx139_1 := (HB.out.cell (World.block_lt_of_cell? w _ hx139_1)).trans hx139_1)
                      replace p139 := eq_true p139
                      replace q139 := eq_true q139
                      go_wp2_with (first | ((with_reducible refine gate_dst (N := 7) rfl ?_); refine box_event ?hg (N := 7) ?hd (cs := #[.int .i64 0, .int .i64 0]) (t := 42) ?hr ?_; (case hd => rfl); (case hg => rfl); (case hr => first | (go_simp; done) | (go_simp; rfl)); intro gb140 hg w15 hbox hb; have n0_ := Aside0.mk (Kd.R_below (by (with_reducible repeat (first | apply Kd.R_alloc | apply Kd.R_drewN | apply Kd.R_drew)); exact HO_5.out) hb); have n1_ := Aside0.mk (below_step (by repeat (first | (with_reducible first | exact HB.out | apply below_alloc | apply pw_below_drewN | apply below_drew1) | exact HB.out)) hb); have n2_ := Aside0.mk (hbox); have n3_ := Aside0.mk ((by rw [hg]; exact (below_size (by repeat (first | (with_reducible first | exact HB.out | apply below_alloc | apply pw_below_drewN | apply below_drew1) | exact HB.out))) : w.heap.size ≤ gb140)); have n4_ := Aside0.mk ((by rw [hg]; exact (below_size (by repeat (first | (with_reducible first | exact HB.out | apply below_alloc | apply pw_below_drewN | apply below_drew1) | exact HB.out))) : w.heap.size ≤ gb140)); clear HO_5; clear HB; have HO_5 := n0_; have HB := n1_; have BK140 := n2_; have GW140 := n3_; have GE140 := n4_; clear n0_ n1_ n2_ n3_ n4_; clear hb hbox hg; have hcz16_0 : w15.cell? ⟨gb140, 0, none⟩ = some (.int .i64 0) := (blk_cell BK140.out 0).trans rfl; have hcz16_1 : w15.cell? ⟨gb140, 1, none⟩ = some (.int .i64 0) := (blk_cell BK140.out 1).trans rfl; have hfz16_0 := blk_frozen BK140.out 0; have hfz16_1 := blk_frozen BK140.out 1))
                      go_ret
                      exact ⟨_, by first | rfl | (simp [errW_none, errW_some] <;> rfl) | (simp [*, errW_none, errW_some] <;> rfl), by first | exact Kd.R_nil _ _ _ _ _ | exact Kd.N_nil _ _ _ _ _ | exact Kd.V_nil _ _ _ _ _ | exact Kd.Q_nil _ _ _ _ _ | exact Kd.S_nil _ _ _ _ _, by repeat (first | (with_reducible first | exact HB.out | apply below_alloc | apply pw_below_drewN | apply below_drew1 | refine below_set ?_ GE140.out) | exact HB.out)⟩
                    · rw [if_neg c14] at H
                      have c14b0 : decide (a0 ≤ ((rd_T42 l1 x18_2).f0)) = false := decide_eq_false c14
                      clear c14
                      by_cases c17 : ((rd_T42 l1 x18_2).f1) < 0
                      · rw [if_pos c17] at H
                        have c17b0 : decide (((rd_T42 l1 x18_2).f1) < 0) = true := decide_eq_true c17
                        clear c17
                        obtain rfl := Option.some.inj H
                        have p139 : 0 ≤ (x18_2 : Int) := of_decide_eq_true (by first | (with_reducible assumption) | assumption)
                        have q139 : x18_2 < (l1.length : Int) := of_decide_eq_true (by first | (with_reducible assumption) | assumption)
                        obtain ⟨ad139, e139, hx139_0, hx139_1⟩ := at_T42 HR1.out x18_2 p139 q139
                        cases e139
                        (try replace hx139_0 := (HB.out.cell (World.block_lt_of_cell? w _ hx139_0)).trans hx139_0)
                        (try replace hx139_1 := (HB.out.cell (World.block_lt_of_cell? w _ hx139_1)).trans hx139_1)
                        replace p139 := eq_true p139
                        replace q139 := eq_true q139
                        go_wp2_with (first | ((with_reducible refine gate_dst (N := 7) rfl ?_); refine box_event ?hg (N := 7) ?hd (cs := #[.int .i64 0, .int .i64 0]) (t := 42) ?hr ?_; (case hd => rfl); (case hg => rfl); (case hr => first | (go_simp; done) | (go_simp; rfl)); intro gb140 hg w18 hbox hb; have n0_ := Aside0.mk (Kd.R_below (by (with_reducible repeat (first | apply Kd.R_alloc | apply Kd.R_drewN | apply Kd.R_drew)); exact HO_5.out) hb); have n1_ := Aside0.mk (below_step (by repeat (first | (with_reducible first | exact HB.out | apply below_alloc | apply pw_below_drewN | apply below_drew1) | exact HB.out)) hb); have n2_ := Aside0.mk (hbox); have n3_ := Aside0.mk ((by rw [hg]; exact (below_size (by repeat (first | (with_reducible first | exact HB.out | apply below_alloc | apply pw_below_drewN | apply below_drew1) | exact HB.out))) : w.heap.size ≤ gb140)); have n4_ := Aside0.mk ((by rw [hg]; exact (below_size (by repeat (first | (with_reducible first | exact HB.out | apply below_alloc | apply pw_below_drewN | apply below_drew1) | exact HB.out))) : w.heap.size ≤ gb140)); clear HO_5; clear HB; have HO_5 := n0_; have HB := n1_; have BK140 := n2_; have GW140 := n3_; have GE140 := n4_; clear n0_ n1_ n2_ n3_ n4_; clear hb hbox hg; have hcz19_0 : w18.cell? ⟨gb140, 0, none⟩ = some (.int .i64 0) := (blk_cell BK140.out 0).trans rfl; have hcz19_1 : w18.cell? ⟨gb140, 1, none⟩ = some (.int .i64 0) := (blk_cell BK140.out 1).trans rfl; have hfz19_0 := blk_frozen BK140.out 0; have hfz19_1 := blk_frozen BK140.out 1))
                        go_ret
                        exact ⟨_, by first | rfl | (simp [errW_none, errW_some] <;> rfl) | (simp [*, errW_none, errW_some] <;> rfl), by first | exact Kd.R_nil _ _ _ _ _ | exact Kd.N_nil _ _ _ _ _ | exact Kd.V_nil _ _ _ _ _ | exact Kd.Q_nil _ _ _ _ _ | exact Kd.S_nil _ _ _ _ _, by repeat (first | (with_reducible first | exact HB.out | apply below_alloc | apply pw_below_drewN | apply below_drew1 | refine below_set ?_ GE140.out) | exact HB.out)⟩
                      · rw [if_neg c17] at H
                        have c17b0 : decide (((rd_T42 l1 x18_2).f1) < 0) = false := decide_eq_false c17
                        clear c17
                        by_cases c20 : ((rd_T42 l1 x18_2).f1) ≥ a0
                        · rw [if_pos c20] at H
                          have c20b0 : decide (a0 ≤ ((rd_T42 l1 x18_2).f1)) = true := decide_eq_true c20
                          clear c20
                          obtain rfl := Option.some.inj H
                          have p139 : 0 ≤ (x18_2 : Int) := of_decide_eq_true (by first | (with_reducible assumption) | assumption)
                          have q139 : x18_2 < (l1.length : Int) := of_decide_eq_true (by first | (with_reducible assumption) | assumption)
                          obtain ⟨ad139, e139, hx139_0, hx139_1⟩ := at_T42 HR1.out x18_2 p139 q139
                          cases e139
                          (try replace hx139_0 := (HB.out.cell (World.block_lt_of_cell? w _ hx139_0)).trans hx139_0)
                          (try replace hx139_1 := (HB.out.cell (World.block_lt_of_cell? w _ hx139_1)).trans hx139_1)
                          replace p139 := eq_true p139
                          replace q139 := eq_true q139
                          go_wp2_with (first | ((with_reducible refine gate_dst (N := 7) rfl ?_); refine box_event ?hg (N := 7) ?hd (cs := #[.int .i64 0, .int .i64 0]) (t := 42) ?hr ?_; (case hd => rfl); (case hg => rfl); (case hr => first | (go_simp; done) | (go_simp; rfl)); intro gb140 hg w21 hbox hb; have n0_ := Aside0.mk (Kd.R_below (by (with_reducible repeat (first | apply Kd.R_alloc | apply Kd.R_drewN | apply Kd.R_drew)); exact HO_5.out) hb); have n1_ := Aside0.mk (below_step (by repeat (first | (with_reducible first | exact HB.out | apply below_alloc | apply pw_below_drewN | apply below_drew1) | exact HB.out)) hb); have n2_ := Aside0.mk (hbox); have n3_ := Aside0.mk ((by rw [hg]; exact (below_size (by repeat (first | (with_reducible first | exact HB.out | apply below_alloc | apply pw_below_drewN | apply below_drew1) | exact HB.out))) : w.heap.size ≤ gb140)); have n4_ := Aside0.mk ((by rw [hg]; exact (below_size (by repeat (first | (with_reducible first | exact HB.out | apply below_alloc | apply pw_below_drewN | apply below_drew1) | exact HB.out))) : w.heap.size ≤ gb140)); clear HO_5; clear HB; have HO_5 := n0_; have HB := n1_; have BK140 := n2_; have GW140 := n3_; have GE140 := n4_; clear n0_ n1_ n2_ n3_ n4_; clear hb hbox hg; have hcz22_0 : w21.cell? ⟨gb140, 0, none⟩ = some (.int .i64 0) := (blk_cell BK140.out 0).trans rfl; have hcz22_1 : w21.cell? ⟨gb140, 1, none⟩ = some (.int .i64 0) := (blk_cell BK140.out 1).trans rfl; have hfz22_0 := blk_frozen BK140.out 0; have hfz22_1 := blk_frozen BK140.out 1))
                          go_ret
                          exact ⟨_, by first | rfl | (simp [errW_none, errW_some] <;> rfl) | (simp [*, errW_none, errW_some] <;> rfl), by first | exact Kd.R_nil _ _ _ _ _ | exact Kd.N_nil _ _ _ _ _ | exact Kd.V_nil _ _ _ _ _ | exact Kd.Q_nil _ _ _ _ _ | exact Kd.S_nil _ _ _ _ _, by repeat (first | (with_reducible first | exact HB.out | apply below_alloc | apply pw_below_drewN | apply below_drew1 | refine below_set ?_ GE140.out) | exact HB.out)⟩
                        · rw [if_neg c20] at H
                          have c20b0 : decide (a0 ≤ ((rd_T42 l1 x18_2).f1)) = false := decide_eq_false c20
                          clear c20
                          replace H := Option.bind_eq_some_iff.mp H
                          obtain ⟨t141, A230, H⟩ := H
                          replace H : (partition_FromPairs.l0 k2 a0 t141 l1 (l1.length : Int) (wrap64 (x18_2 + 1))) = some r := H
                          have A23 := Aside0.mk A230
                          clear A230
                          have H' := Aside0.mk H
                          clear H
                          have p139 : 0 ≤ (x18_2 : Int) := of_decide_eq_true (by first | (with_reducible assumption) | assumption)
                          have q139 : x18_2 < (l1.length : Int) := of_decide_eq_true (by first | (with_reducible assumption) | assumption)
                          obtain ⟨ad139, e139, hx139_0, hx139_1⟩ := at_T42 HR1.out x18_2 p139 q139
                          cases e139
                          (try replace hx139_0 := (HB.out.cell (World.block_lt_of_cell? w _ hx139_0)).trans hx139_0)
                          (try replace hx139_1 := (HB.out.cell (World.block_lt_of_cell? w _ hx139_1)).trans hx139_1)
                          replace p139 := eq_true p139
                          replace q139 := eq_true q139
                          go_wp2_with (first | ((with_reducible refine gate_dst (N := 7) rfl ?_); refine box_event ?hg (N := 7) ?hd (cs := #[.int .i64 0, .int .i64 0]) (t := 42) ?hr ?_; (case hd => rfl); (case hg => rfl); (case hr => first | (go_simp; done) | (go_simp; rfl)); intro gb140 hg w24 hbox hb; have n0_ := Aside0.mk (Kd.R_below (by (with_reducible repeat (first | apply Kd.R_alloc | apply Kd.R_drewN | apply Kd.R_drew)); exact HO_5.out) hb); have n1_ := Aside0.mk (below_step (by repeat (first | (with_reducible first | exact HB.out | apply below_alloc | apply pw_below_drewN | apply below_drew1) | exact HB.out)) hb); have n2_ := Aside0.mk (hbox); have n3_ := Aside0.mk ((by rw [hg]; exact (below_size (by repeat (first | (with_reducible first | exact HB.out | apply below_alloc | apply pw_below_drewN | apply below_drew1) | exact HB.out))) : w.heap.size ≤ gb140)); have n4_ := Aside0.mk ((by rw [hg]; exact (below_size (by repeat (first | (with_reducible first | exact HB.out | apply below_alloc | apply pw_below_drewN | apply below_drew1) | exact HB.out))) : w.heap.size ≤ gb140)); clear HO_5; clear HB; have HO_5 := n0_; have HB := n1_; have BK140 := n2_; have GW140 := n3_; have GE140 := n4_; clear n0_ n1_ n2_ n3_ n4_; clear hb hbox hg; have hcz25_0 : w24.cell? ⟨gb140, 0, none⟩ = some (.int .i64 0) := (blk_cell BK140.out 0).trans rfl; have hcz25_1 : w24.cell? ⟨gb140, 1, none⟩ = some (.int .i64 0) := (blk_cell BK140.out 1).trans rfl; have hfz25_0 := blk_frozen BK140.out 0; have hfz25_1 := blk_frozen BK140.out 1) | ((with_reducible refine gate_store (t := 42) (p := 7) rfl ?_); refine store_event (t := 42) (p := 7) (v := ?vo_w26) (w1 := ((w24.setCell ⟨gb140, 0, none⟩ (.int .i64 ((rd_T42 l1 x18_2).f0))).setCell ⟨gb140, 1, none⟩ (.int .i64 ((rd_T42 l1 x18_2).f1)))) ?hg ?ho ?hn ?hr ?_; (case ho => rfl); (case hg => rfl); (case hn => rfl); (case hr => first | (go_simp; done) | (go_simp; rfl)); intro w26 hw; have n0_ : Aside0 (Kd.R (Kd.int .i64) 3 w26 w.heap.size (fun _ => True) v137 x5_2) := ⟨(by rw [hw]; exact (by (with_reducible repeat (first | apply Kd.R_alloc | apply Kd.R_drewN | apply Kd.R_drew)); exact Kd.R_mono (Kd.R_far (p := ⟨gb140, 1, none⟩) (Kd.R_far (p := ⟨gb140, 0, none⟩) (Kd.R_types HO_5.out BK140.out (by decide)) (fun _ hk => hk.2) (.int .i64 ((rd_T42 l1 x18_2).f0))) (fun _ hk => hk.2) (.int .i64 ((rd_T42 l1 x18_2).f1))) (fun _ hk => trivial)))⟩; have n1_ : Aside0 (w26.heap[gb140]? = some (.cells #[.int .i64 ((rd_T42 l1 x18_2).f0), .int .i64 ((rd_T42 l1 x18_2).f1)] 42 (0, 0))) := ⟨(by rw [hw]; exact (by (with_reducible repeat (first | refine blk_drewN ?_ _ | refine blk_drew ?_ | refine blk_alloc ?_ _)); refine blk_put (cs := #[.int .i64 ((rd_T42 l1 x18_2).f0), .int .i64 0]) ?_ 1 _ rfl; (with_reducible repeat (first | refine blk_drewN ?_ _ | refine blk_drew ?_ | refine blk_alloc ?_ _)); refine blk_put (cs := #[.int .i64 0, .int .i64 0]) ?_ 0 _ rfl; (with_reducible repeat (first | refine blk_drewN ?_ _ | refine blk_drew ?_ | refine blk_alloc ?_ _)); exact BK140.out))⟩; have n2_ : Aside0 (Below w.heap.size w w26) := ⟨(by rw [hw]; exact (by repeat (first | (with_reducible first | exact HB.out | apply below_alloc | apply pw_below_drewN | apply below_drew1 | refine below_set ?_ GE140.out) | exact HB.out)))⟩; clear hw; clear HO_5; clear BK140; clear HB; have HO_5 := n0_; have BK140 := n1_; have HB := n2_; clear n0_ n1_ n2_; have hcz27_0 : w26.cell? ⟨gb140, 0, none⟩ = some (.int .i64 ((rd_T42 l1 x18_2).f0)) := (blk_cell BK140.out 0).trans rfl; have hcz27_1 : w26.cell? ⟨gb140, 1, none⟩ = some (.int .i64 ((rd_T42 l1 x18_2).f1)) := (blk_cell BK140.out 1).trans rfl; have hfz27_0 := blk_frozen BK140.out 0; have hfz27_1 := blk_frozen BK140.out 1; obtain ⟨Ao28, co28, eo28⟩ := Kd.R_slice HO_5.out; subst eo28) | ((with_reducible refine gate_callee (f := 44) rfl ?_); refine goesL_ (some 47) rfl rfl Try.func44 (by kernel_rfl) rfl #[.slice Ao28 x5_2.length co28, .int .i64 ((rd_T42 l1 x18_2).f0), .int .i64 ((rd_T42 l1 x18_2).f1)] rfl (by (try simp only [List.map_toArray, List.map_cons, List.map_nil]); first | done | rfl | (simp only [List.length_drop, List.length_take]; rfl)) ?_; (with_reducible refine (partition_forest_union.calls k2 (fun k_ => some k_ = (.slice Ao28 x5_2.length co28 : Value).ownBlock) (.slice Ao28 x5_2.length co28) x5_2 ((rd_T42 l1 x18_2).f0) ((rd_T42 l1 x18_2).f1) t141 w _ ?side1 ?side2 A23.out).mono ?_); (case side1 => repeat (first | (with_reducible first | exact HB.out | apply below_alloc | apply pw_below_drewN | apply below_drew1 | refine below_set ?_ GE140.out) | exact HB.out)); (case side2 => exact Kd.R_tight rfl HO_5.out); rintro e w29 ⟨rfl, hy0, hb, hkp⟩; refine ⟨_, rfl, ?_⟩; have n0_ := Aside0.mk (Kd.R_reok rfl hy0 (fun k_ e_ => HO_5.out.1 k_ e_)); have n1_ := Aside0.mk (blk_kept (by (with_reducible repeat (first | refine blk_drewN ?_ _ | refine blk_drew ?_ | refine blk_alloc ?_ _)); exact BK140.out) hkp (fun hs_ => (fun e_ => (Kd.R_ne HO_5.out BK140.out (by decide)) e_) hs_)); have n2_ := Aside0.mk (hb); clear HO_5; clear BK140; clear HB; have HO_5 := n0_; have BK140 := n1_; have HB := n2_; clear n0_ n1_ n2_; (try clear hb); (try clear hkp); (try clear hy0)))
                          go_roundg k2
                          case measure => have := HJ2.out; have := HK2.out; omega
                          case rel => exact ⟨(t141), (wrap64 (x18_2 + 1)), (by first | rfl | (simp; done) | (simp [*]; done)), H', ⟨by have := HJ2.out; have := HK2.out; omega⟩, ⟨by (with_reducible repeat (first | apply Kd.R_alloc | apply Kd.R_drewN | apply Kd.R_drew)); exact HO_5.out⟩, ⟨by repeat (first | (with_reducible first | exact HB.out | apply below_alloc | apply pw_below_drewN | apply below_drew1 | refine below_set ?_ GE140.out) | exact HB.out)⟩⟩
                · rw [if_neg c10] at H
                  exact absurd H (by simp)
              · rw [if_neg c9] at H
                exact absurd H (by simp)
            · rw [if_neg c8] at H
              have c8b0 : decide (x18_2 < (l1.length : Int)) = false := decide_eq_false c8
              clear c8
              replace H := Option.bind_eq_some_iff.mp H
              obtain ⟨⟨t142, t145⟩, A300, H⟩ := H
              replace H : (some t142) = some r := H
              have A30 := Aside0.mk A300
              clear A300
              obtain rfl := Option.some.inj H
              obtain ⟨Ao31, co31, eo31⟩ := Kd.R_slice HO_5.out
              subst eo31
              go_wp2_with (first | ((with_reducible refine gate_callee (f := 45) rfl ?_); refine goesL_ (some 50) rfl rfl Try.func45 (by kernel_rfl) rfl #[.slice Ao31 x5_2.length co31] rfl (by (try simp only [List.map_toArray, List.map_cons, List.map_nil]); first | done | rfl | (simp only [List.length_drop, List.length_take]; rfl)) ?_; (with_reducible refine (partition_forest_partition.calls k2 (fun k_ => some k_ = (.slice Ao31 x5_2.length co31 : Value).ownBlock) (.slice Ao31 x5_2.length co31) x5_2 t142 t145 w _ ?side1 ?side2 A30.out).mono ?_); (case side1 => repeat (first | (with_reducible first | exact HB.out | apply below_alloc | apply pw_below_drewN | apply below_drew1) | exact HB.out)); (case side2 => exact Kd.R_tight rfl HO_5.out); rintro e w32 ⟨v143, rfl, ho0, hy0, hb, hkp⟩; refine ⟨_, rfl, ?_⟩; have n0_ := Aside0.mk (Kd.R_reok rfl hy0 (fun k_ e_ => HO_5.out.1 k_ e_)); have n1_ := Aside0.mk (Kd.R_mono (ok' := fun k_ => some k_ ≠ (.slice Ao31 x5_2.length co31 : Value).ownBlock) ho0 (fun k_ hk_ => hk_.2)); have n2_ := Aside0.mk (hb); clear HO_5; clear HB; have HO_5 := n0_; have HO144 := n1_; have HB := n2_; clear n0_ n1_ n2_; (try clear hb); (try clear hkp); (try clear ho0); (try clear hy0)))
              go_ret
              exact ⟨_, by first | rfl | (simp [errW_none, errW_some] <;> rfl) | (simp [*, errW_none, errW_some] <;> rfl), by (with_reducible repeat (first | apply Kd.R_alloc | apply Kd.R_drewN | apply Kd.R_drew)); exact Kd.R_mono HO144.out (fun _ hk => trivial), by repeat (first | (with_reducible first | exact HB.out | apply below_alloc | apply pw_below_drewN | apply below_drew1) | exact HB.out)⟩

/-! ### semigroupref03_MayPairs: function 27 -/
mutual
def semigroupref03_MayPairs.j0 : Nat → Int → List (S42) → Bool → Option (Bool)
  | 0, _, _, _ => none
  | k + 1, x0, x1, x12 => if x12 = true then (some false) else (semigroupref03_MayPairs.l0 k x0 x1 (x1.length : Int) 0)
def semigroupref03_MayPairs.l0 : Nat → Int → List (S42) → Int → Int → Option (Bool)
  | 0, _, _, _, _ => none
  | k + 1, x0, x13, x14, x15 => if x15 < x14 then (if 0 ≤ x15 then (if x15 < (x13.length : Int) then (if ((rd_T42 x13 x15).f0) < 0 then (some false) else (if ((rd_T42 x13 x15).f0) ≥ x0 then (some false) else (if ((rd_T42 x13 x15).f1) < 0 then (some false) else (if ((rd_T42 x13 x15).f1) ≥ x0 then (some false) else (semigroupref03_MayPairs.l0 k x0 x13 x14 (wrap64 (x15 + 1))))))) else (none)) else (none)) else (some true)
end
def semigroupref03_MayPairs.f (k : Nat) (a0 : Int) (l1 : List (S42)) : Option (Bool) := if a0 < 0 then (semigroupref03_MayPairs.j0 k a0 l1 true) else (semigroupref03_MayPairs.j0 k a0 l1 (decide (a0 > 4096)))
theorem semigroupref03_MayPairs.mono_l : ∀ k, (∀ y0 y1 y2, LeO (semigroupref03_MayPairs.j0 k y0 y1 y2) (semigroupref03_MayPairs.j0 (k + 1) y0 y1 y2)) ∧ (∀ y0 y1 y2 y3, LeO (semigroupref03_MayPairs.l0 k y0 y1 y2 y3) (semigroupref03_MayPairs.l0 (k + 1) y0 y1 y2 y3))
  | 0 => ⟨fun _ _ _ r h => by simp [semigroupref03_MayPairs.j0] at h, fun _ _ _ _ r h => by simp [semigroupref03_MayPairs.l0] at h⟩
  | k + 1 => by
    obtain ⟨ih0, ih1⟩ := semigroupref03_MayPairs.mono_l k
    refine ⟨?_, ?_⟩
    · intro y0 y1 y2
      unfold semigroupref03_MayPairs.j0
      repeat' first
      | (with_reducible exact ih0 _ _ _)
      | (with_reducible exact ih1 _ _ _ _)
      | (with_reducible exact LeO.refl _)
      | (with_reducible exact LeO.none _)
      | (with_reducible refine LeO.ite ?_ ?_)
      | (with_reducible refine LeO.bind ?_ (fun _ => ?_))
      | exact ih0 _ _ _
      | exact ih1 _ _ _ _
      | exact LeO.none _
      | refine LeO.ite ?_ ?_
      | refine LeO.bind ?_ (fun _ => ?_)
    · intro y0 y1 y2 y3
      unfold semigroupref03_MayPairs.l0
      repeat' first
      | (with_reducible exact ih0 _ _ _)
      | (with_reducible exact ih1 _ _ _ _)
      | (with_reducible exact LeO.refl _)
      | (with_reducible exact LeO.none _)
      | (with_reducible refine LeO.ite ?_ ?_)
      | (with_reducible refine LeO.bind ?_ (fun _ => ?_))
      | exact ih0 _ _ _
      | exact ih1 _ _ _ _
      | exact LeO.none _
      | refine LeO.ite ?_ ?_
      | refine LeO.bind ?_ (fun _ => ?_)
theorem semigroupref03_MayPairs.mono : ∀ a0 a1 k, LeO (semigroupref03_MayPairs.f k a0 a1) (semigroupref03_MayPairs.f (k + 1) a0 a1) := by
  intro a0 a1 k
  obtain ⟨ih0, ih1⟩ := semigroupref03_MayPairs.mono_l k
  unfold semigroupref03_MayPairs.f
  repeat' first
      | (with_reducible exact ih0 _ _ _)
      | (with_reducible exact ih1 _ _ _ _)
      | (with_reducible exact LeO.refl _)
      | (with_reducible exact LeO.none _)
      | (with_reducible refine LeO.ite ?_ ?_)
      | (with_reducible refine LeO.bind ?_ (fun _ => ?_))
      | exact ih0 _ _ _
      | exact ih1 _ _ _ _
      | exact LeO.none _
      | refine LeO.ite ?_ ?_
      | refine LeO.bind ?_ (fun _ => ?_)
set_option maxHeartbeats 8000000 in
set_option maxRecDepth 100000 in
theorem semigroupref03_MayPairs.calls (k : Nat) (a0 : Int) (A1 : Option Addr) (c1 : Nat) (l1 : List (S42)) (r : Bool) (w : World) (hr1 : Kd.C k42 w A1 l1.length l1) (hc1 : l1.length ≤ c1) (h : semigroupref03_MayPairs.f k a0 l1 = some r) :
    Calls Try.prog 27 #[.int .i64 a0, .slice A1 l1.length c1] w fun e w' => e = .returned (.bool r) ∧ Below w.heap.size w w' := by
  have hu42 := Try.underlying42
  have ia42_0 : ∀ (g_ : Nat) (w_ : World), (Instr.indexAt 42 (.pointer (some ⟨g_, 0, none⟩)) (.int .i64 0)).run Try.prog w_ = .ok (.pointer (some ⟨g_, 0, none⟩)) w_ := fun _ _ => by kernel_rfl
  have ia42_1 : ∀ (g_ : Nat) (w_ : World), (Instr.indexAt 42 (.pointer (some ⟨g_, 0, none⟩)) (.int .i64 1)).run Try.prog w_ = .ok (.pointer (some ⟨g_, 1, none⟩)) w_ := fun _ _ => by kernel_rfl
  have HR1 := Aside0.mk hr1
  have HC1 := Aside0.mk hc1
  clear hr1 hc1
  have HB := Aside0.mk (Below.refl w.heap.size w)
  have H : (if a0 < 0 then (semigroupref03_MayPairs.j0 k a0 l1 true) else (semigroupref03_MayPairs.j0 k a0 l1 (decide (a0 > 4096)))) = some r := h
  clear h
  have HC3 := Aside0.mk H
  clear H
  go_enter Try.func27, Try.ntmps27
  go_upto_region 1 with (fail)
  go_cut [12] (fun v12 wc => ∃ (kq : Nat) (x12_2 : Bool), v12 = .bool x12_2 ∧ Aside0 (semigroupref03_MayPairs.j0 kq a0 l1 x12_2 = some r) ∧ Aside0 (kq ≤ k) ∧ Aside0 (Below w.heap.size w wc))
  case first =>
    have H := HC3.out
    clear HC3
    by_cases c4 : a0 < 0
    · rw [if_pos c4] at H
      have c4b0 : decide (a0 < 0) = true := decide_eq_true c4
      clear c4
      (first | rw [c4b0] | (simp only [i64_w, i32_w]; rw [c4b0]) | skip)
      have H' := Aside0.mk H
      clear H
      go_wp2
      go_meet
      case rel => exact ⟨_, (true), (by first | rfl | (simp; done) | (simp [*]; done)), H', ⟨by first | omega | exact Nat.le_refl _⟩, ⟨by repeat (first | (with_reducible first | exact HB.out | apply below_alloc | apply pw_below_drewN | apply below_drew1) | exact HB.out)⟩⟩
    · rw [if_neg c4] at H
      have c4b0 : decide (a0 < 0) = false := decide_eq_false c4
      clear c4
      (first | rw [c4b0] | (simp only [i64_w, i32_w]; rw [c4b0]) | skip)
      have H' := Aside0.mk H
      clear H
      go_wp2
      go_meet
      case rel => exact ⟨_, (decide (a0 > 4096)), (by first | rfl | (simp; done) | (simp [*]; done)), H', ⟨by first | omega | exact Nat.le_refl _⟩, ⟨by repeat (first | (with_reducible first | exact HB.out | apply below_alloc | apply pw_below_drewN | apply below_drew1) | exact HB.out)⟩⟩
  case rest =>
    clear HC3
    try clear c1
    try clear c2
    try clear p2
    try clear c4
    try clear c4b0
    obtain ⟨kq, x12_2, rfl, HA, HJ2, HB⟩ := hcut
    cases kq with
    | zero => exact absurd HA.out (by simp [semigroupref03_MayPairs.j0])
    | succ kj2 =>
      have H := HA.out
      clear HA
      simp only [semigroupref03_MayPairs.j0] at H
      by_cases c5 : x12_2 = true
      · subst c5
        have H1 : (some false) = some r := by rw [if_pos rfl] at H; exact H
        clear H
        have H := H1
        clear H1
        obtain rfl := Option.some.inj H
        go_wp2
        go_ret
        exact ⟨by first | rfl | (simp [errW_none, errW_some] <;> rfl) | (simp [*, errW_none, errW_some] <;> rfl), by repeat (first | (with_reducible first | exact HB.out | apply below_alloc | apply pw_below_drewN | apply below_drew1) | exact HB.out)⟩
      · replace c5 := Bool.eq_false_iff.mpr c5
        subst c5
        have H1 : (semigroupref03_MayPairs.l0 kj2 a0 l1 (l1.length : Int) 0) = some r := by rw [if_neg (show ¬ (false = true) by decide)] at H; exact H
        clear H
        have H := H1
        clear H1
        have H' := Aside0.mk H
        clear H
        go_wp2
        go_loopg [15] kj2 (fun kq v15 w' => ∃ (x15_2 : Int), v15 = .int .i64 x15_2 ∧ Aside0 (semigroupref03_MayPairs.l0 kq a0 l1 (l1.length : Int) x15_2 = some r) ∧ Aside0 (kq ≤ kj2) ∧ Aside0 (Below w.heap.size w w'))
        case atStart => exact ⟨(0), (by first | rfl | (simp; done) | (simp [*]; done)), H', ⟨Nat.le_refl _⟩, ⟨by repeat (first | (with_reducible first | exact HB.out | apply below_alloc | apply pw_below_drewN | apply below_drew1) | exact HB.out)⟩⟩
        case round =>
          clear H'
          try clear c1
          try clear c2
          try clear p2
          try clear c4
          try clear c4b0
          try clear c5
          try clear p2
          obtain ⟨x15_2, rfl, HA, HK2, HB⟩ := hrel
          cases gk with
          | zero => exact absurd HA.out (by simp [semigroupref03_MayPairs.l0])
          | succ k2 =>
            have H := HA.out
            clear HA
            simp only [semigroupref03_MayPairs.l0] at H
            by_cases c6 : x15_2 < (l1.length : Int)
            · rw [if_pos c6] at H
              have c6b0 : decide (x15_2 < (l1.length : Int)) = true := decide_eq_true c6
              clear c6
              by_cases c7 : 0 ≤ x15_2
              · rw [if_pos c7] at H
                have c7b0 : decide (0 ≤ x15_2) = true := decide_eq_true c7
                clear c7
                by_cases c8 : x15_2 < (l1.length : Int)
                · rw [if_pos c8] at H
                  have c8b0 : decide (x15_2 < (l1.length : Int)) = true := decide_eq_true c8
                  clear c8
                  by_cases c9 : ((rd_T42 l1 x15_2).f0) < 0
                  · rw [if_pos c9] at H
                    have c9b0 : decide (((rd_T42 l1 x15_2).f0) < 0) = true := decide_eq_true c9
                    clear c9
                    obtain rfl := Option.some.inj H
                    have p146 : 0 ≤ (x15_2 : Int) := of_decide_eq_true (by first | (with_reducible assumption) | assumption)
                    have q146 : x15_2 < (l1.length : Int) := of_decide_eq_true (by first | (with_reducible assumption) | assumption)
                    obtain ⟨ad146, e146, hx146_0, hx146_1⟩ := at_T42 HR1.out x15_2 p146 q146
                    cases e146
                    (try replace hx146_0 := (HB.out.cell (World.block_lt_of_cell? w _ hx146_0)).trans hx146_0)
                    (try replace hx146_1 := (HB.out.cell (World.block_lt_of_cell? w _ hx146_1)).trans hx146_1)
                    replace p146 := eq_true p146
                    replace q146 := eq_true q146
                    go_wp2_with (first | ((with_reducible refine gate_dst (N := 6) rfl ?_); refine box_event ?hg (N := 6) ?hd (cs := #[.int .i64 0, .int .i64 0]) (t := 42) ?hr ?_; (case hd => rfl); (case hg => rfl); (case hr => first | (go_simp; done) | (go_simp; rfl)); intro gb147 hg w10 hbox hb; have n0_ := Aside0.mk (below_step (by repeat (first | (with_reducible first | exact HB.out | apply below_alloc | apply pw_below_drewN | apply below_drew1) | exact HB.out)) hb); have n1_ := Aside0.mk (hbox); have n2_ := Aside0.mk ((by rw [hg]; exact (below_size (by repeat (first | (with_reducible first | exact HB.out | apply below_alloc | apply pw_below_drewN | apply below_drew1) | exact HB.out))) : w.heap.size ≤ gb147)); have n3_ := Aside0.mk ((by rw [hg]; exact (below_size (by repeat (first | (with_reducible first | exact HB.out | apply below_alloc | apply pw_below_drewN | apply below_drew1) | exact HB.out))) : w.heap.size ≤ gb147)); clear HB; have HB := n0_; have BK147 := n1_; have GW147 := n2_; have GE147 := n3_; clear n0_ n1_ n2_ n3_; clear hb hbox hg; have hcz11_0 : w10.cell? ⟨gb147, 0, none⟩ = some (.int .i64 0) := (blk_cell BK147.out 0).trans rfl; have hcz11_1 : w10.cell? ⟨gb147, 1, none⟩ = some (.int .i64 0) := (blk_cell BK147.out 1).trans rfl; have hfz11_0 := blk_frozen BK147.out 0; have hfz11_1 := blk_frozen BK147.out 1))
                    go_ret
                    exact ⟨by first | rfl | (simp [errW_none, errW_some] <;> rfl) | (simp [*, errW_none, errW_some] <;> rfl), by repeat (first | (with_reducible first | exact HB.out | apply below_alloc | apply pw_below_drewN | apply below_drew1 | refine below_set ?_ GE147.out) | exact HB.out)⟩
                  · rw [if_neg c9] at H
                    have c9b0 : decide (((rd_T42 l1 x15_2).f0) < 0) = false := decide_eq_false c9
                    clear c9
                    by_cases c12 : ((rd_T42 l1 x15_2).f0) ≥ a0
                    · rw [if_pos c12] at H
                      have c12b0 : decide (a0 ≤ ((rd_T42 l1 x15_2).f0)) = true := decide_eq_true c12
                      clear c12
                      obtain rfl := Option.some.inj H
                      have p146 : 0 ≤ (x15_2 : Int) := of_decide_eq_true (by first | (with_reducible assumption) | assumption)
                      have q146 : x15_2 < (l1.length : Int) := of_decide_eq_true (by first | (with_reducible assumption) | assumption)
                      obtain ⟨ad146, e146, hx146_0, hx146_1⟩ := at_T42 HR1.out x15_2 p146 q146
                      cases e146
                      (try replace hx146_0 := (HB.out.cell (World.block_lt_of_cell? w _ hx146_0)).trans hx146_0)
                      (try replace hx146_1 := (HB.out.cell (World.block_lt_of_cell? w _ hx146_1)).trans hx146_1)
                      replace p146 := eq_true p146
                      replace q146 := eq_true q146
                      go_wp2_with (first | ((with_reducible refine gate_dst (N := 6) rfl ?_); refine box_event ?hg (N := 6) ?hd (cs := #[.int .i64 0, .int .i64 0]) (t := 42) ?hr ?_; (case hd => rfl); (case hg => rfl); (case hr => first | (go_simp; done) | (go_simp; rfl)); intro gb147 hg w13 hbox hb; have n0_ := Aside0.mk (below_step (by repeat (first | (with_reducible first | exact HB.out | apply below_alloc | apply pw_below_drewN | apply below_drew1) | exact HB.out)) hb); have n1_ := Aside0.mk (hbox); have n2_ := Aside0.mk ((by rw [hg]; exact (below_size (by repeat (first | (with_reducible first | exact HB.out | apply below_alloc | apply pw_below_drewN | apply below_drew1) | exact HB.out))) : w.heap.size ≤ gb147)); have n3_ := Aside0.mk ((by rw [hg]; exact (below_size (by repeat (first | (with_reducible first | exact HB.out | apply below_alloc | apply pw_below_drewN | apply below_drew1) | exact HB.out))) : w.heap.size ≤ gb147)); clear HB; have HB := n0_; have BK147 := n1_; have GW147 := n2_; have GE147 := n3_; clear n0_ n1_ n2_ n3_; clear hb hbox hg; have hcz14_0 : w13.cell? ⟨gb147, 0, none⟩ = some (.int .i64 0) := (blk_cell BK147.out 0).trans rfl; have hcz14_1 : w13.cell? ⟨gb147, 1, none⟩ = some (.int .i64 0) := (blk_cell BK147.out 1).trans rfl; have hfz14_0 := blk_frozen BK147.out 0; have hfz14_1 := blk_frozen BK147.out 1))
                      go_ret
                      exact ⟨by first | rfl | (simp [errW_none, errW_some] <;> rfl) | (simp [*, errW_none, errW_some] <;> rfl), by repeat (first | (with_reducible first | exact HB.out | apply below_alloc | apply pw_below_drewN | apply below_drew1 | refine below_set ?_ GE147.out) | exact HB.out)⟩
                    · rw [if_neg c12] at H
                      have c12b0 : decide (a0 ≤ ((rd_T42 l1 x15_2).f0)) = false := decide_eq_false c12
                      clear c12
                      by_cases c15 : ((rd_T42 l1 x15_2).f1) < 0
                      · rw [if_pos c15] at H
                        have c15b0 : decide (((rd_T42 l1 x15_2).f1) < 0) = true := decide_eq_true c15
                        clear c15
                        obtain rfl := Option.some.inj H
                        have p146 : 0 ≤ (x15_2 : Int) := of_decide_eq_true (by first | (with_reducible assumption) | assumption)
                        have q146 : x15_2 < (l1.length : Int) := of_decide_eq_true (by first | (with_reducible assumption) | assumption)
                        obtain ⟨ad146, e146, hx146_0, hx146_1⟩ := at_T42 HR1.out x15_2 p146 q146
                        cases e146
                        (try replace hx146_0 := (HB.out.cell (World.block_lt_of_cell? w _ hx146_0)).trans hx146_0)
                        (try replace hx146_1 := (HB.out.cell (World.block_lt_of_cell? w _ hx146_1)).trans hx146_1)
                        replace p146 := eq_true p146
                        replace q146 := eq_true q146
                        go_wp2_with (first | ((with_reducible refine gate_dst (N := 6) rfl ?_); refine box_event ?hg (N := 6) ?hd (cs := #[.int .i64 0, .int .i64 0]) (t := 42) ?hr ?_; (case hd => rfl); (case hg => rfl); (case hr => first | (go_simp; done) | (go_simp; rfl)); intro gb147 hg w16 hbox hb; have n0_ := Aside0.mk (below_step (by repeat (first | (with_reducible first | exact HB.out | apply below_alloc | apply pw_below_drewN | apply below_drew1) | exact HB.out)) hb); have n1_ := Aside0.mk (hbox); have n2_ := Aside0.mk ((by rw [hg]; exact (below_size (by repeat (first | (with_reducible first | exact HB.out | apply below_alloc | apply pw_below_drewN | apply below_drew1) | exact HB.out))) : w.heap.size ≤ gb147)); have n3_ := Aside0.mk ((by rw [hg]; exact (below_size (by repeat (first | (with_reducible first | exact HB.out | apply below_alloc | apply pw_below_drewN | apply below_drew1) | exact HB.out))) : w.heap.size ≤ gb147)); clear HB; have HB := n0_; have BK147 := n1_; have GW147 := n2_; have GE147 := n3_; clear n0_ n1_ n2_ n3_; clear hb hbox hg; have hcz17_0 : w16.cell? ⟨gb147, 0, none⟩ = some (.int .i64 0) := (blk_cell BK147.out 0).trans rfl; have hcz17_1 : w16.cell? ⟨gb147, 1, none⟩ = some (.int .i64 0) := (blk_cell BK147.out 1).trans rfl; have hfz17_0 := blk_frozen BK147.out 0; have hfz17_1 := blk_frozen BK147.out 1))
                        go_ret
                        exact ⟨by first | rfl | (simp [errW_none, errW_some] <;> rfl) | (simp [*, errW_none, errW_some] <;> rfl), by repeat (first | (with_reducible first | exact HB.out | apply below_alloc | apply pw_below_drewN | apply below_drew1 | refine below_set ?_ GE147.out) | exact HB.out)⟩
                      · rw [if_neg c15] at H
                        have c15b0 : decide (((rd_T42 l1 x15_2).f1) < 0) = false := decide_eq_false c15
                        clear c15
                        by_cases c18 : ((rd_T42 l1 x15_2).f1) ≥ a0
                        · rw [if_pos c18] at H
                          have c18b0 : decide (a0 ≤ ((rd_T42 l1 x15_2).f1)) = true := decide_eq_true c18
                          clear c18
                          obtain rfl := Option.some.inj H
                          have p146 : 0 ≤ (x15_2 : Int) := of_decide_eq_true (by first | (with_reducible assumption) | assumption)
                          have q146 : x15_2 < (l1.length : Int) := of_decide_eq_true (by first | (with_reducible assumption) | assumption)
                          obtain ⟨ad146, e146, hx146_0, hx146_1⟩ := at_T42 HR1.out x15_2 p146 q146
                          cases e146
                          (try replace hx146_0 := (HB.out.cell (World.block_lt_of_cell? w _ hx146_0)).trans hx146_0)
                          (try replace hx146_1 := (HB.out.cell (World.block_lt_of_cell? w _ hx146_1)).trans hx146_1)
                          replace p146 := eq_true p146
                          replace q146 := eq_true q146
                          go_wp2_with (first | ((with_reducible refine gate_dst (N := 6) rfl ?_); refine box_event ?hg (N := 6) ?hd (cs := #[.int .i64 0, .int .i64 0]) (t := 42) ?hr ?_; (case hd => rfl); (case hg => rfl); (case hr => first | (go_simp; done) | (go_simp; rfl)); intro gb147 hg w19 hbox hb; have n0_ := Aside0.mk (below_step (by repeat (first | (with_reducible first | exact HB.out | apply below_alloc | apply pw_below_drewN | apply below_drew1) | exact HB.out)) hb); have n1_ := Aside0.mk (hbox); have n2_ := Aside0.mk ((by rw [hg]; exact (below_size (by repeat (first | (with_reducible first | exact HB.out | apply below_alloc | apply pw_below_drewN | apply below_drew1) | exact HB.out))) : w.heap.size ≤ gb147)); have n3_ := Aside0.mk ((by rw [hg]; exact (below_size (by repeat (first | (with_reducible first | exact HB.out | apply below_alloc | apply pw_below_drewN | apply below_drew1) | exact HB.out))) : w.heap.size ≤ gb147)); clear HB; have HB := n0_; have BK147 := n1_; have GW147 := n2_; have GE147 := n3_; clear n0_ n1_ n2_ n3_; clear hb hbox hg; have hcz20_0 : w19.cell? ⟨gb147, 0, none⟩ = some (.int .i64 0) := (blk_cell BK147.out 0).trans rfl; have hcz20_1 : w19.cell? ⟨gb147, 1, none⟩ = some (.int .i64 0) := (blk_cell BK147.out 1).trans rfl; have hfz20_0 := blk_frozen BK147.out 0; have hfz20_1 := blk_frozen BK147.out 1))
                          go_ret
                          exact ⟨by first | rfl | (simp [errW_none, errW_some] <;> rfl) | (simp [*, errW_none, errW_some] <;> rfl), by repeat (first | (with_reducible first | exact HB.out | apply below_alloc | apply pw_below_drewN | apply below_drew1 | refine below_set ?_ GE147.out) | exact HB.out)⟩
                        · rw [if_neg c18] at H
                          have c18b0 : decide (a0 ≤ ((rd_T42 l1 x15_2).f1)) = false := decide_eq_false c18
                          clear c18
                          have H' := Aside0.mk H
                          clear H
                          have p146 : 0 ≤ (x15_2 : Int) := of_decide_eq_true (by first | (with_reducible assumption) | assumption)
                          have q146 : x15_2 < (l1.length : Int) := of_decide_eq_true (by first | (with_reducible assumption) | assumption)
                          obtain ⟨ad146, e146, hx146_0, hx146_1⟩ := at_T42 HR1.out x15_2 p146 q146
                          cases e146
                          (try replace hx146_0 := (HB.out.cell (World.block_lt_of_cell? w _ hx146_0)).trans hx146_0)
                          (try replace hx146_1 := (HB.out.cell (World.block_lt_of_cell? w _ hx146_1)).trans hx146_1)
                          replace p146 := eq_true p146
                          replace q146 := eq_true q146
                          go_wp2_with (first | ((with_reducible refine gate_dst (N := 6) rfl ?_); refine box_event ?hg (N := 6) ?hd (cs := #[.int .i64 0, .int .i64 0]) (t := 42) ?hr ?_; (case hd => rfl); (case hg => rfl); (case hr => first | (go_simp; done) | (go_simp; rfl)); intro gb147 hg w21 hbox hb; have n0_ := Aside0.mk (below_step (by repeat (first | (with_reducible first | exact HB.out | apply below_alloc | apply pw_below_drewN | apply below_drew1) | exact HB.out)) hb); have n1_ := Aside0.mk (hbox); have n2_ := Aside0.mk ((by rw [hg]; exact (below_size (by repeat (first | (with_reducible first | exact HB.out | apply below_alloc | apply pw_below_drewN | apply below_drew1) | exact HB.out))) : w.heap.size ≤ gb147)); have n3_ := Aside0.mk ((by rw [hg]; exact (below_size (by repeat (first | (with_reducible first | exact HB.out | apply below_alloc | apply pw_below_drewN | apply below_drew1) | exact HB.out))) : w.heap.size ≤ gb147)); clear HB; have HB := n0_; have BK147 := n1_; have GW147 := n2_; have GE147 := n3_; clear n0_ n1_ n2_ n3_; clear hb hbox hg; have hcz22_0 : w21.cell? ⟨gb147, 0, none⟩ = some (.int .i64 0) := (blk_cell BK147.out 0).trans rfl; have hcz22_1 : w21.cell? ⟨gb147, 1, none⟩ = some (.int .i64 0) := (blk_cell BK147.out 1).trans rfl; have hfz22_0 := blk_frozen BK147.out 0; have hfz22_1 := blk_frozen BK147.out 1))
                          go_roundg k2
                          case measure => have := HJ2.out; have := HK2.out; omega
                          case rel => exact ⟨(wrap64 (x15_2 + 1)), (by first | rfl | (simp; done) | (simp [*]; done)), H', ⟨by have := HJ2.out; have := HK2.out; omega⟩, ⟨by repeat (first | (with_reducible first | exact HB.out | apply below_alloc | apply pw_below_drewN | apply below_drew1 | refine below_set ?_ GE147.out) | exact HB.out)⟩⟩
                · rw [if_neg c8] at H
                  exact absurd H (by simp)
              · rw [if_neg c7] at H
                exact absurd H (by simp)
            · rw [if_neg c6] at H
              have c6b0 : decide (x15_2 < (l1.length : Int)) = false := decide_eq_false c6
              clear c6
              obtain rfl := Option.some.inj H
              go_wp2
              go_ret
              exact ⟨by first | rfl | (simp [errW_none, errW_some] <;> rfl) | (simp [*, errW_none, errW_some] <;> rfl), by repeat (first | (with_reducible first | exact HB.out | apply below_alloc | apply pw_below_drewN | apply below_drew1) | exact HB.out)⟩

/-! ### semigroupref03_Canonical: function 17, by hand -/
open Go.Proofs.YtjpghckijecdcaaH
def semigroupref03_Canonical.f (l0 : List Int) : Option (List Int) := if (l0.length : Int) > 4096 then some [] else some (canonL l0).2
theorem lits17 (w : World) : (zeroValue 3).run Try.prog w = .ok (.int .i64 0) w := by kernel_rfl
set_option maxHeartbeats 8000000 in
set_option maxRecDepth 100000 in
theorem semigroupref03_Canonical.calls (A0 : Option Addr) (c0 : Nat) (l0 : List Int) (r : List Int) (w : World) (hr0 : Kd.C (Kd.int .i64) w A0 l0.length l0) (hc0 : l0.length ≤ c0) (h : semigroupref03_Canonical.f l0 = some r) :
    Calls Try.prog 17 #[.slice A0 l0.length c0] w fun e w' => ∃ v0_ : Value, e = .returned (v0_) ∧ Kd.R (Kd.int .i64) 3 w' w.heap.size (fun _ => True) v0_ r ∧ Below w.heap.size w w' := by
  have HB := Aside0.mk (Below.refl w.heap.size w)
  have HR0 := Aside0.mk hr0
  have HC0 := Aside0.mk hc0
  clear hr0 hc0
  unfold semigroupref03_Canonical.f at h
  by_cases c2 : (l0.length : Int) > 4096
  · rw [if_pos c2] at h
    have c2b0 : decide (4096 < (l0.length : Int)) = true := decide_eq_true c2
    have c2b1 : decide (4096 < l0.length) = true := decide_eq_true (by omega)
    clear c2
    obtain rfl := Option.some.inj h
    go_enter Try.func17, Try.ntmps17
    go_wp2
    go_ret
    exact ⟨_, rfl, Kd.R_nil _ _ _ _ _, Below.refl _ _⟩
  · rw [if_neg c2] at h
    have c2b0 : decide (4096 < (l0.length : Int)) = false := decide_eq_false c2
    have c2b1 : decide (4096 < l0.length) = false := decide_eq_false (by omega)
    have hl : l0.length ≤ 4096 := by omega
    clear c2
    have HF := Aside0.mk h
    clear h
    have hmm := @run_makeMap Try.prog
    go_enter Try.func17, Try.ntmps17
    go_wp2_with (first | ((with_reducible refine gate_dst (N := 15) rfl ?_); refine Kd.R_make (Kd.int .i64) _ 3 rfl (N := 15) rfl 22 _ _ rfl l0.length rfl rfl Try.underlying22 (.int .i64 0) 8 info3 rfl (by decide) (by omega) 0 (ok := fun _ => True) (okp := fun _ => True) rfl (fun _ hk => hk) trivial (by omega) (by simp; omega) (Below.refl _ _) (Nat.le_refl _) ?_; intro v133 w4 ho5 hb hg_ hnew_; have HO0 := Aside0.mk ho5; have HB0 := Aside0.mk hb; clear ho5 hb hg_ hnew_))
    have HM := Aside0.mk (OwnM.made (base := w.heap.size) (ek := Value.int .i64) (ev := Value.int .i64) w4 HB0.out.size)
    have ho5 := Kd.R_alloc HO0.out (.map #[] 0)
    have HB := Aside0.mk (below_alloc HB0.out (.map #[] 0))
    obtain ⟨Ao6, co6, eo6⟩ := Kd.R_slice ho5
    simp only [Int.toNat_natCast, List.length_replicate] at eo6 ho5
    subst eo6
    have HO := Aside0.mk ho5
    clear ho5 HB0 HO0
    go_loopg [4, 19] (l0.length + 1) (fun kq v4 v19 w' => ∃ i : Nat, i ≤ l0.length ∧ kq + i = l0.length + 1 ∧ v4 = .int .i64 ((canonL (l0.take i)).1.length : Int) ∧ v19 = .int .i64 (i : Int) ∧ Aside0 (OwnM (Value.int .i64) (Value.int .i64) w' w.heap.size w4.heap.size (canonL (l0.take i)).1) ∧ Aside0 (Kd.R (Kd.int .i64) 3 w' w.heap.size (fun _ => True) (.slice Ao6 l0.length co6) (canonOut l0 i)) ∧ Aside0 (Below w.heap.size w w'))
    case atStart => exact ⟨0, Nat.zero_le _, by omega, by simp [canonL], rfl, ⟨HM.out⟩, ⟨by have := HO.out; simpa [canonOut, canonL] using this⟩, ⟨HB.out⟩⟩
    case round =>
      obtain ⟨i, hi, hkq, rfl, rfl, HM, HO, HB⟩ := hrel
      have hml : (canonL (l0.take i)).1.length ≤ 4096 := by have := canonL_map_len (l0.take i); simp only [List.length_take] at this; omega
      by_cases hlt : i < l0.length
      · have p1 : (0:Int) ≤ (i : Int) := by omega
        have q1 : (i : Int) < (l0.length : Int) := by omega
        obtain ⟨ad1, e1, hx1⟩ := Kd.at_int HR0.out (i : Int) p1 q1
        cases e1
        replace hx1 := (HB.out.cell (World.block_lt_of_cell? w _ hx1)).trans hx1
        simp only [Int.toNat_natCast] at hx1
        have q2 : (i : Int) < ((canonOut l0 i).length : Int) := by rw [canonOut_len hi]; exact q1
        have hts := take_snoc_rd l0 i hlt
        have hcs := canonL_snoc (l0.take i) (rd l0 i)
        rw [← hts] at hcs
        obtain ⟨go3, co3, eo3, gb3, gl3, cl3, HG3⟩ := Kd.R_form HO.out (by omega)
        injection eo3 with ea_ en_ ec_
        subst ea_; subst ec_
        obtain ⟨hx3, hf3⟩ := Kd.R_celln 0 HO.out (i : Int) p1 (by exact q1)
        simp only [Int.toNat_natCast] at hx3 hf3
        have GB3 := Aside0.mk gb3
        have HG3 := Aside0.mk (show ∃ cs e fr, wr.heap[go3]? = some (.cells cs e fr) from ⟨_, _, _, HG3⟩)
        have HCS := Aside0.mk hcs
        clear gb3 gl3 hts hcs en_
        have hw : wrap64 ((i : Int) + 1) = ((i + 1 : Nat) : Int) := by unfold wrap64; omega
        cases hmg : mget (canonL (l0.take i)).1 (rd l0 i) with
        | some k =>
          have hstep : canonL (l0.take (i + 1)) = ((canonL (l0.take i)).1, (canonL (l0.take i)).2 ++ [k]) := by rw [HCS.out, canonStep, hmg]
          have hset := canonOut_set l0 i hlt k (by rw [hstep])
          have HS := Aside0.mk hstep
          have HSET := Aside0.mk hset
          clear hstep hset
          have HP := Aside0.mk (Kd.R_putg HO.out (i : Int) k)
          simp only [Int.toNat_natCast] at HP
          go_wp2_with (first | (at_lookup; refine wp_mlook rfl _ _ 44 true rfl 3 3 (keyOk_int Try.underlying3) Try.underlying44 _ _ HM.out (canonL_once _) rfl (rd l0 i) rfl 0 (lits17 _) ?_))
          go_roundg (gk - 1)
          case measure => omega
          case rel => exact ⟨i + 1, by omega, by omega, by rw [HS.out], by rfl, ⟨by rw [HS.out]; exact HM.out.grown HP.out.2 (by rintro _ ⟨⟩; exact HG3.out)⟩, ⟨by rw [HSET.out]; exact HP.out.1⟩, ⟨below_set HB.out GB3.out⟩⟩
        | none =>
          have hstep : canonL (l0.take (i + 1)) = (mput (canonL (l0.take i)).1 (rd l0 i) ((canonL (l0.take i)).1.length : Int), (canonL (l0.take i)).2 ++ [((canonL (l0.take i)).1.length : Int)]) := by rw [HCS.out, canonStep, hmg]
          have hset := canonOut_set l0 i hlt _ (by rw [hstep])
          have HS := Aside0.mk hstep
          have HSET := Aside0.mk hset
          clear hstep hset hx3 hf3
          have AF5 := Aside0.mk (show ∀ w5, OwnM (Value.int .i64) (Value.int .i64) w5 w.heap.size w4.heap.size (mput (canonL (l0.take i)).1 (rd l0 i) ((canonL (l0.take i)).1.length : Int)) → wr.grownBy w5 (some w4.heap.size) →
              w5.cell? ⟨go3, i, none⟩ = some (.int .i64 (rdOf 0 (canonOut l0 i) (i : Int))) ∧ w5.frozen? ⟨go3, i, none⟩ = false ∧
              Aside0 (Kd.R (Kd.int .i64) 3 (w5.setCell ⟨go3, i, none⟩ (.int .i64 ((canonL (l0.take i)).1.length : Int))) w.heap.size (fun _ => True) (.slice (some ⟨go3, 0, none⟩) l0.length co6) ((canonOut l0 i).set i ((canonL (l0.take i)).1.length : Int)) ∧ w5.grownBy (w5.setCell ⟨go3, i, none⟩ (.int .i64 ((canonL (l0.take i)).1.length : Int))) (some go3)) ∧
              Aside0 (Below w.heap.size w w5) ∧ Aside0 (∃ cs e fr, w5.heap[go3]? = some (.cells cs e fr)) from fun w5 hm5 hg5 => by
            have HO5 := R_map HO.out HM.out hg5
            obtain ⟨hx3, hf3⟩ := Kd.R_celln 0 HO5 (i : Int) p1 (by exact q1)
            have HP := Kd.R_putg HO5 (i : Int) ((canonL (l0.take i)).1.length : Int)
            simp only [Int.toNat_natCast] at hx3 hf3 HP
            refine ⟨hx3, hf3, ⟨HP⟩, ⟨below_map HB.out HM.out HB.out.size hg5⟩, ⟨?_⟩⟩
            obtain ⟨_, _, e_, _, _, cs, hcs⟩ := Kd.R_form HO5 (by omega)
            injection e_ with e_ _ _
            injection e_ with e_
            injection e_ with e_ _ _
            subst e_
            exact ⟨_, _, _, hcs⟩)
          go_wp2_with (first | (at_lookup; refine wp_mlook rfl _ _ 44 true rfl 3 3 (keyOk_int Try.underlying3) Try.underlying44 _ _ HM.out (canonL_once _) rfl (rd l0 i) rfl 0 (lits17 _) ?_) | (at_mapUpdate; refine wp_mput rfl _ _ _ 44 rfl 3 3 (keyOk_int Try.underlying3) Try.underlying44 _ _ HM.out (canonL_once _) rfl (rd l0 i) rfl ((canonL (l0.take i)).1.length : Int) rfl ?_; intro w5 hm5 hg5; obtain ⟨hx3, hf3, HP, HB5, HG5⟩ := AF5.out w5 hm5 hg5; have HM5 := Aside0.mk hm5; clear hm5 hg5))
          go_roundg (gk - 1)
          case measure => omega
          case rel => exact ⟨i + 1, by omega, by omega, by rw [HS.out, mput_length, hmg]; rfl, by rfl, ⟨by rw [HS.out]; exact HM5.out.grown HP.out.2 (by rintro _ ⟨⟩; exact HG5.out)⟩, ⟨by rw [HSET.out]; exact HP.out.1⟩, ⟨below_set HB5.out GB3.out⟩⟩
      · obtain rfl : i = l0.length := by omega
        have q1 : ¬ ((l0.length : Int) < (l0.length : Int)) := by omega
        go_wp2
        go_ret
        exact ⟨_, rfl, by have h := HO.out; have e := Option.some.inj HF.out; simpa [canonOut, e] using h, HB.out⟩

/-! ### semigroupref03_Discrete: function 37 -/
def semigroupref03_Discrete.l0 : Nat → List Int → Int → Int → Option (List Int)
  | 0, _, _, _ => none
  | k + 1, x3, x8, x9 => if x9 < x8 then (if 0 ≤ x9 then (if x9 < (x3.length : Int) then (semigroupref03_Discrete.l0 k (x3.set (x9 : Int).toNat x9) x8 (wrap64 (x9 + 1))) else (none)) else (none)) else (some x3)
def semigroupref03_Discrete.f (k : Nat) (a0 : Int) : Option (List Int) := if 0 ≤ a0 then (if (a0 : Int).toNat ≤ 35184372088832 then ((some (List.replicate (a0 : Int).toNat 0 : List Int)).bind fun y148 => (semigroupref03_Discrete.l0 k y148 (y148.length : Int) 0)) else (none)) else (none)
theorem semigroupref03_Discrete.mono_l : ∀ k, (∀ y0 y1 y2, LeO (semigroupref03_Discrete.l0 k y0 y1 y2) (semigroupref03_Discrete.l0 (k + 1) y0 y1 y2))
  | 0 => fun _ _ _ r h => by simp [semigroupref03_Discrete.l0] at h
  | k + 1 => by
    have ih0 := semigroupref03_Discrete.mono_l k
    · intro y0 y1 y2
      unfold semigroupref03_Discrete.l0
      repeat' first
      | (with_reducible exact ih0 _ _ _)
      | (with_reducible exact LeO.refl _)
      | (with_reducible exact LeO.none _)
      | (with_reducible refine LeO.ite ?_ ?_)
      | (with_reducible refine LeO.bind ?_ (fun _ => ?_))
      | exact ih0 _ _ _
      | exact LeO.none _
      | refine LeO.ite ?_ ?_
      | refine LeO.bind ?_ (fun _ => ?_)
theorem semigroupref03_Discrete.mono : ∀ a0 k, LeO (semigroupref03_Discrete.f k a0) (semigroupref03_Discrete.f (k + 1) a0) := by
  intro a0 k
  have ih0 := semigroupref03_Discrete.mono_l k
  unfold semigroupref03_Discrete.f
  repeat' first
      | (with_reducible exact ih0 _ _ _)
      | (with_reducible exact LeO.refl _)
      | (with_reducible exact LeO.none _)
      | (with_reducible refine LeO.ite ?_ ?_)
      | (with_reducible refine LeO.bind ?_ (fun _ => ?_))
      | exact ih0 _ _ _
      | exact LeO.none _
      | refine LeO.ite ?_ ?_
      | refine LeO.bind ?_ (fun _ => ?_)
set_option maxHeartbeats 8000000 in
set_option maxRecDepth 100000 in
theorem semigroupref03_Discrete.calls (k : Nat) (a0 : Int) (r : List Int) (w : World) (h : semigroupref03_Discrete.f k a0 = some r) :
    Calls Try.prog 37 #[.int .i64 a0] w fun e w' => ∃ v0_ : Value, e = .returned (v0_) ∧ Kd.R (Kd.int .i64) 3 w' w.heap.size (fun _ => True) v0_ r ∧ Below w.heap.size w w' := by
  have HB := Aside0.mk (Below.refl w.heap.size w)
  have H : (if 0 ≤ a0 then (if (a0 : Int).toNat ≤ 35184372088832 then ((some (List.replicate (a0 : Int).toNat 0 : List Int)).bind fun y148 => (semigroupref03_Discrete.l0 k y148 (y148.length : Int) 0)) else (none)) else (none)) = some r := h
  clear h
  by_cases c2 : 0 ≤ a0
  · rw [if_pos c2] at H
    have c2b0 := eq_true c2
    have c2b1 : decide (0 ≤ a0) = true := decide_eq_true c2
    clear c2
    by_cases c3 : (a0 : Int).toNat ≤ 35184372088832
    · rw [if_pos c3] at H
      have c3b0 := eq_true c3
      have c3b1 : decide ((a0 : Int).toNat ≤ 35184372088832) = true := decide_eq_true c3
      clear c3
      obtain ⟨y148, hy148⟩ : ∃ y_ : List Int, y_ = (List.replicate (a0 : Int).toNat 0) := ⟨_, rfl⟩
      replace H : (semigroupref03_Discrete.l0 k y148 (y148.length : Int) 0) = some r := by first | (rw [hy148]; with_reducible exact H) | (have H2_ := (Option.bind_some _ _).symm.trans H; rw [hy148]; with_reducible exact H2_) | (have H2_ := (Option.bind_some _ _).symm.trans H; with_reducible exact H2_) | with_reducible exact H | (rw [hy148]; exact H) | exact H
      have Ny148 := Aside0.mk hy148
      clear hy148
      have H' := Aside0.mk H
      clear H
      go_enter Try.func37, Try.ntmps37
      go_wp2_with (first | ((with_reducible refine gate_dst (N := 6) rfl ?_); refine Kd.R_make (Kd.int .i64) _ 3 rfl (N := 6) rfl 22 _ _ rfl a0 rfl rfl Try.underlying22 (.int .i64 0) 8 info3 rfl (by decide) (by omega) 0 (ok := fun _ => True) (okp := fun _ => True) rfl (fun _ hk => hk) trivial (of_decide_eq_true (by first | (with_reducible assumption) | assumption)) (Nat.le_trans (Nat.mul_le_mul_right _ (of_decide_eq_true (by first | (with_reducible assumption) | assumption) : a0.toNat ≤ 35184372088832)) (by omega)) (Below.refl _ _) (Nat.le_refl _) ?_; intro v149 w4 ho5 hb hg_ hnew_; clear hg_ hnew_; (first | rw [← Ny148.out] at ho5 | (simp only [Int.reduceToNat] at ho5; rw [← Ny148.out] at ho5)); have n0_ := Aside0.mk (Kd.R_lower ho5 (below_size (by repeat (first | (with_reducible first | exact HB.out | apply below_alloc | apply pw_below_drewN | apply below_drew1) | exact HB.out)))); have n1_ := Aside0.mk (below_step (by repeat (first | (with_reducible first | exact HB.out | apply below_alloc | apply pw_below_drewN | apply below_drew1) | exact HB.out)) hb); clear HB; have HO150 := n0_; have HB := n1_; clear n0_ n1_; clear hb ho5; obtain ⟨Ao6, co6, eo6⟩ := Kd.R_slice HO150.out; subst eo6))
      go_loopg [9] k (fun kq v9 w' => ∃ (x3_1 : List Int) (x9_1 : Int), v9 = .int .i64 x9_1 ∧ Aside0 (semigroupref03_Discrete.l0 kq x3_1 (y148.length : Int) x9_1 = some r) ∧ Aside0 (kq ≤ k) ∧ Aside0 (Kd.R (Kd.int .i64) 3 w' w.heap.size (fun _ => True) (.slice Ao6 y148.length co6) x3_1) ∧ Aside0 (Below w.heap.size w w'))
      case atStart => exact ⟨(y148), (0), (by first | rfl | (simp; done) | (simp [*]; done)), H', ⟨Nat.le_refl _⟩, ⟨by (with_reducible repeat (first | apply Kd.R_alloc | apply Kd.R_drewN | apply Kd.R_drew)); exact HO150.out⟩, ⟨by repeat (first | (with_reducible first | exact HB.out | apply below_alloc | apply pw_below_drewN | apply below_drew1) | exact HB.out)⟩⟩
      case round =>
        clear H'
        try clear c2
        try clear c2b0
        try clear c2b1
        try clear p2
        try clear c3
        try clear c3b0
        try clear c3b1
        obtain ⟨x3_1, x9_1, rfl, HA, HK1, HO_3, HB⟩ := hrel
        have hl3_1 := (Kd.R_reads' HO_3.out).1
        rw [hl3_1] at HO_3
        (try simp only [hl3_1])
        cases gk with
        | zero => exact absurd HA.out (by simp [semigroupref03_Discrete.l0])
        | succ k1 =>
          have H := HA.out
          clear HA
          simp only [semigroupref03_Discrete.l0] at H
          by_cases c7 : x9_1 < (y148.length : Int)
          · rw [if_pos c7] at H
            have c7b0 : decide (x9_1 < (y148.length : Int)) = true := decide_eq_true c7
            (try (have c7b0_hl3_1 := c7b0; simp only [hl3_1] at c7b0_hl3_1))
            clear c7
            by_cases c8 : 0 ≤ x9_1
            · rw [if_pos c8] at H
              have c8b0 : decide (0 ≤ x9_1) = true := decide_eq_true c8
              clear c8
              by_cases c9 : x9_1 < (x3_1.length : Int)
              · rw [if_pos c9] at H
                have c9b0 : decide (x9_1 < (x3_1.length : Int)) = true := decide_eq_true c9
                (try (have c9b0_hl3_1 := c9b0; simp only [hl3_1] at c9b0_hl3_1))
                clear c9
                obtain ⟨y151, hy151⟩ : ∃ y_ : List Int, y_ = (x3_1.set (x9_1 : Int).toNat x9_1) := ⟨_, rfl⟩
                replace H : (semigroupref03_Discrete.l0 k1 y151 (y148.length : Int) (wrap64 (x9_1 + 1))) = some r := by first | (rw [hy151]; with_reducible exact H) | (have H2_ := (Option.bind_some _ _).symm.trans H; rw [hy151]; with_reducible exact H2_) | (have H2_ := (Option.bind_some _ _).symm.trans H; with_reducible exact H2_) | with_reducible exact H | (rw [hy151]; exact H) | exact H
                have Ny151 := Aside0.mk hy151
                clear hy151
                have H' := Aside0.mk H
                clear H
                have p10 : 0 ≤ (x9_1 : Int) := of_decide_eq_true (by first | (with_reducible assumption) | assumption)
                have q10 : (x9_1 : Int) < ((x3_1.length : Int) : Int) := of_decide_eq_true (by first | (with_reducible assumption) | assumption)
                obtain ⟨go10, co10, eo10, gb10, gl10, cl10, HG10⟩ := Kd.R_form HO_3.out (by first | omega | (have e_ := (Kd.R_reads' HO_3.out).1; omega))
                (first | cases eo10 | (injection eo10 with ea_ en_ ec_; (first | subst ea_ | (injection ea_ with ea_; subst ea_)); subst ec_; clear en_))
                have GB10 := Aside0.mk gb10
                have GG10 := Aside0.mk HG10
                clear gb10 gl10 HG10
                obtain ⟨hx10_0, hf10_0⟩ := Kd.R_celln 0 HO_3.out (x9_1 : Int) p10 q10
                replace p10 := eq_true p10
                replace q10 := eq_true q10
                have HP11 := Kd.R_putg HO_3.out (x9_1 : Int) x9_1
                go_wp2_with (first | ((with_reducible refine gate_store (t := 3) (p := 15) rfl ?_); refine store_event (t := 3) (p := 15) (v := ?vo_w12) (w1 := (wr.setCell ⟨go10, (x9_1 : Int).toNat, none⟩ (.int .i64 x9_1))) ?hg ?ho ?hn ?hr ?_; (case ho => rfl); (case hg => rfl); (case hn => rfl); (case hr => first | (go_simp; done) | (go_simp; rfl)); intro w12 hw; have hg : wr.grownBy w12 (some go10) := (by rw [hw]; exact HP11.2); have hp_ : Kd.R (Kd.int .i64) 3 w12 w.heap.size (fun _ => True) (.slice (some ⟨go10, 0, none⟩) x3_1.length co6) y151 := (by rw [hw, Ny151.out]; exact HP11.1); clear HP11; have n0_ := Aside0.mk (hp_); have n1_ := Aside0.mk ((by rw [hw]; exact below_set (HB.out) GB10.out : Below w.heap.size w w12)); clear HO_3; clear HB; have HO_3 := n0_; have HB := n1_; clear n0_ n1_; clear hg hw hp_))
                (try simp only [← hl3_1])
                go_roundg k1
                case measure => have := HK1.out; omega
                case rel => exact ⟨(y151), (wrap64 (x9_1 + 1)), (by first | rfl | (simp; done) | (simp [*]; done)), H', ⟨by have := HK1.out; omega⟩, ⟨by (try simp only [hl3_1]); (with_reducible repeat (first | apply Kd.R_alloc | apply Kd.R_drewN | apply Kd.R_drew)); exact HO_3.out⟩, ⟨by repeat (first | (with_reducible first | exact HB.out | apply below_alloc | apply pw_below_drewN | apply below_drew1) | exact HB.out)⟩⟩
              · rw [if_neg c9] at H
                exact absurd H (by simp)
            · rw [if_neg c8] at H
              exact absurd H (by simp)
          · rw [if_neg c7] at H
            have c7b0 : decide (x9_1 < (y148.length : Int)) = false := decide_eq_false c7
            (try (have c7b0_hl3_1 := c7b0; simp only [hl3_1] at c7b0_hl3_1))
            clear c7
            obtain rfl := Option.some.inj H
            go_wp2
            go_ret
            exact ⟨_, by first | rfl | (simp [errW_none, errW_some] <;> rfl) | (simp [*, errW_none, errW_some] <;> rfl), (by first | exact (by (with_reducible repeat (first | apply Kd.R_alloc | apply Kd.R_drewN | apply Kd.R_drew)); exact HO_3.out) | (simp only [hl3_1]; exact (by (with_reducible repeat (first | apply Kd.R_alloc | apply Kd.R_drewN | apply Kd.R_drew)); exact HO_3.out))), by repeat (first | (with_reducible first | exact HB.out | apply below_alloc | apply pw_below_drewN | apply below_drew1) | exact HB.out)⟩
    · rw [if_neg c3] at H
      exact absurd H (by simp)
  · rw [if_neg c2] at H
    exact absurd H (by simp)

end Go.Proofs.Ytjpghckijecdcaa.PPartitionPairs
