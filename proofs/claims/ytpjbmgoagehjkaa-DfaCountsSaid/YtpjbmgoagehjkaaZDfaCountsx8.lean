import Derived.Test.YtpjbmgoagehjkaaZDfaCountsx0
import Derived.Test.YtpjbmgoagehjkaaZDfaCountsx4
import Derived.Test.YtpjbmgoagehjkaaZDfaCountsx5
import Derived.Test.YtpjbmgoagehjkaaZDfaCountsx6
import Derived.Test.YtpjbmgoagehjkaaZDfaCountsx7
namespace Go.Proofs.Ytpjbmgoagehjkaa.PDfaCounts
open Go.RowKit Go.Proofs.YtpjbmgoagehjkaaH Go.Proofs.YtpjbmgoagehjkaaW.PrintWords Go.Proofs.YtpjbmgoagehjkaaW.PrintLast Go.Proofs.YtpjbmgoagehjkaaW.PrintMore
attribute [local go_sem] max2_int min2_int max_two min_two max_three min_three max_four min_four   -- for this text's walks alone
set_option linter.unusedVariables false
set_option linter.unusedSimpArgs false

/-! ### semigrouplaw07_DfaCounts: function 5 -/
mutual
def semigrouplaw07_DfaCounts.j0 : Nat → Int → Int → Bool → Int → Int → List Bool → List (List Int) → Option (Bool)
  | 0, _, _, _, _, _, _, _ => none
  | k + 1, x1, x5, x19, x220000, x220001, x220002, x220003 => if x19 = true then (if x5 = 0 then ((semigrouplaw07_awake.f k).bind fun t222 => (some t222)) else (some false)) else (if (x220002.length : Int) > 20 then (semigrouplaw07_DfaCounts.j1 k x1 x5 true x220000 x220001 x220002 x220003) else (semigrouplaw07_DfaCounts.j1 k x1 x5 (decide (x1 > 500)) x220000 x220001 x220002 x220003))
def semigrouplaw07_DfaCounts.j1 : Nat → Int → Int → Bool → Int → Int → List Bool → List (List Int) → Option (Bool)
  | 0, _, _, _, _, _, _, _ => none
  | k + 1, x1, x5, x32, x220000, x220001, x220002, x220003 => if x32 = true then ((semigrouplaw07_awake.f k).bind fun t223 => (some t223)) else ((semigroupref07_Count.f k x220000 x220001 x220002 x220003 x1).bind fun t224 => (if x5 = t224 then ((semigrouplaw07_awake.f k).bind fun t225 => (some t225)) else (some false)))
end
def semigrouplaw07_DfaCounts.f (k : Nat) (a0_0 : Int) (a0_1 : Int) (l0_2 : List Bool) (l0_3 : List (List Int)) (a1 : Int) : Option (Bool) := (dfa_Count.f k a0_0 a0_1 l0_2 l0_3 a1).bind fun t220 => ((semigrouplaw07_valid.f k a0_0 a0_1 l0_2 l0_3).bind fun t221 => (if t221 = true then (if a1 < 0 then (semigrouplaw07_DfaCounts.j0 k a1 t220 true a0_0 a0_1 l0_2 l0_3) else (semigrouplaw07_DfaCounts.j0 k a1 t220 (decide (a1 > 10000)) a0_0 a0_1 l0_2 l0_3)) else (semigrouplaw07_DfaCounts.j0 k a1 t220 true a0_0 a0_1 l0_2 l0_3)))
theorem semigrouplaw07_DfaCounts.mono_l : ∀ k, (∀ y0 y1 y2 y3 y4 y5 y6, LeO (semigrouplaw07_DfaCounts.j0 k y0 y1 y2 y3 y4 y5 y6) (semigrouplaw07_DfaCounts.j0 (k + 1) y0 y1 y2 y3 y4 y5 y6)) ∧ (∀ y0 y1 y2 y3 y4 y5 y6, LeO (semigrouplaw07_DfaCounts.j1 k y0 y1 y2 y3 y4 y5 y6) (semigrouplaw07_DfaCounts.j1 (k + 1) y0 y1 y2 y3 y4 y5 y6))
  | 0 => ⟨fun _ _ _ _ _ _ _ r h => by simp [semigrouplaw07_DfaCounts.j0] at h, fun _ _ _ _ _ _ _ r h => by simp [semigrouplaw07_DfaCounts.j1] at h⟩
  | k + 1 => by
    obtain ⟨ih0, ih1⟩ := semigrouplaw07_DfaCounts.mono_l k
    refine ⟨?_, ?_⟩
    (focus
    intro y0 y1 y2 y3 y4 y5 y6
    unfold semigrouplaw07_DfaCounts.j0
    repeat' first
    | (with_reducible exact ih0 _ _ _ _ _ _ _)
    | (with_reducible exact ih1 _ _ _ _ _ _ _)
    | (with_reducible exact dfa_Count.mono _ _ _ _ _ _)
    | (with_reducible exact semigrouplaw07_awake.mono _)
    | (with_reducible exact semigrouplaw07_valid.mono _ _ _ _ _)
    | (with_reducible exact semigroupref07_Count.mono _ _ _ _ _ _)
    | (with_reducible exact LeO.refl _)
    | (with_reducible exact LeO.none _)
    | (with_reducible refine LeO.ite ?_ ?_)
    | (with_reducible refine LeO.bind ?_ (fun _ => ?_))
    | exact ih0 _ _ _ _ _ _ _
    | exact ih1 _ _ _ _ _ _ _
    | exact dfa_Count.mono _ _ _ _ _ _
    | exact semigrouplaw07_awake.mono _
    | exact semigrouplaw07_valid.mono _ _ _ _ _
    | exact semigroupref07_Count.mono _ _ _ _ _ _
    | exact LeO.none _
    | refine LeO.ite ?_ ?_
    | refine LeO.bind ?_ (fun _ => ?_)
    )
    (focus
    intro y0 y1 y2 y3 y4 y5 y6
    unfold semigrouplaw07_DfaCounts.j1
    repeat' first
    | (with_reducible exact ih0 _ _ _ _ _ _ _)
    | (with_reducible exact ih1 _ _ _ _ _ _ _)
    | (with_reducible exact dfa_Count.mono _ _ _ _ _ _)
    | (with_reducible exact semigrouplaw07_awake.mono _)
    | (with_reducible exact semigrouplaw07_valid.mono _ _ _ _ _)
    | (with_reducible exact semigroupref07_Count.mono _ _ _ _ _ _)
    | (with_reducible exact LeO.refl _)
    | (with_reducible exact LeO.none _)
    | (with_reducible refine LeO.ite ?_ ?_)
    | (with_reducible refine LeO.bind ?_ (fun _ => ?_))
    | exact ih0 _ _ _ _ _ _ _
    | exact ih1 _ _ _ _ _ _ _
    | exact dfa_Count.mono _ _ _ _ _ _
    | exact semigrouplaw07_awake.mono _
    | exact semigrouplaw07_valid.mono _ _ _ _ _
    | exact semigroupref07_Count.mono _ _ _ _ _ _
    | exact LeO.none _
    | refine LeO.ite ?_ ?_
    | refine LeO.bind ?_ (fun _ => ?_)
    )
theorem semigrouplaw07_DfaCounts.mono : ∀ a0 a1 a2 a3 a4 k, LeO (semigrouplaw07_DfaCounts.f k a0 a1 a2 a3 a4) (semigrouplaw07_DfaCounts.f (k + 1) a0 a1 a2 a3 a4) := by
  intro a0 a1 a2 a3 a4 k
  obtain ⟨ih0, ih1⟩ := semigrouplaw07_DfaCounts.mono_l k
  unfold semigrouplaw07_DfaCounts.f
  repeat' first
      | (with_reducible exact ih0 _ _ _ _ _ _ _)
      | (with_reducible exact ih1 _ _ _ _ _ _ _)
      | (with_reducible exact dfa_Count.mono _ _ _ _ _ _)
      | (with_reducible exact semigrouplaw07_awake.mono _)
      | (with_reducible exact semigrouplaw07_valid.mono _ _ _ _ _)
      | (with_reducible exact semigroupref07_Count.mono _ _ _ _ _ _)
      | (with_reducible exact LeO.refl _)
      | (with_reducible exact LeO.none _)
      | (with_reducible refine LeO.ite ?_ ?_)
      | (with_reducible refine LeO.bind ?_ (fun _ => ?_))
      | exact ih0 _ _ _ _ _ _ _
      | exact ih1 _ _ _ _ _ _ _
      | exact dfa_Count.mono _ _ _ _ _ _
      | exact semigrouplaw07_awake.mono _
      | exact semigrouplaw07_valid.mono _ _ _ _ _
      | exact semigroupref07_Count.mono _ _ _ _ _ _
      | exact LeO.none _
      | refine LeO.ite ?_ ?_
      | refine LeO.bind ?_ (fun _ => ?_)
set_option maxHeartbeats 8000000 in
set_option maxRecDepth 100000 in
theorem semigrouplaw07_DfaCounts.calls (k : Nat) (a0_0 : Int) (a0_1 : Int) (A0_2 : Option Addr) (c0_2 : Nat) (l0_2 : List Bool) (A0_3 : Option Addr) (c0_3 : Nat) (l0_3 : List (List Int)) (a1 : Int) (r : Bool) (w : World) (hr0_2 : Kd.C Kd.bool w A0_2 l0_2.length l0_2) (hc0_2 : l0_2.length ≤ c0_2) (hr0_3 : Kd.C (Kd.slice 3 (Kd.int .i64)) w A0_3 l0_3.length l0_3) (hc0_3 : l0_3.length ≤ c0_3) (h : semigrouplaw07_DfaCounts.f k a0_0 a0_1 l0_2 l0_3 a1 = some r) :
    Calls Try.prog 5 #[.agg #[.int .i64 a0_0, .int .i64 a0_1, .slice A0_2 l0_2.length c0_2, .slice A0_3 l0_3.length c0_3], .int .i64 a1] w fun e w' => e = .returned (.bool r) ∧ Below w.heap.size w w' := by
  have hu25 := Try.underlying25
  have HR0_2 := Aside0.mk hr0_2
  have HC0_2 := Aside0.mk hc0_2
  clear hr0_2 hc0_2
  have HR0_3 := Aside0.mk hr0_3
  have HC0_3 := Aside0.mk hc0_3
  clear hr0_3 hc0_3
  have HB := Aside0.mk (Below.refl w.heap.size w)
  have H : ((dfa_Count.f k a0_0 a0_1 l0_2 l0_3 a1).bind fun t220 => ((semigrouplaw07_valid.f k a0_0 a0_1 l0_2 l0_3).bind fun t221 => (if t221 = true then (if a1 < 0 then (semigrouplaw07_DfaCounts.j0 k a1 t220 true a0_0 a0_1 l0_2 l0_3) else (semigrouplaw07_DfaCounts.j0 k a1 t220 (decide (a1 > 10000)) a0_0 a0_1 l0_2 l0_3)) else (semigrouplaw07_DfaCounts.j0 k a1 t220 true a0_0 a0_1 l0_2 l0_3)))) = some r := h
  clear h
  replace H := Option.bind_eq_some_iff.mp H
  obtain ⟨t220, A30, H⟩ := H
  replace H : ((semigrouplaw07_valid.f k a0_0 a0_1 l0_2 l0_3).bind fun t221 => (if t221 = true then (if a1 < 0 then (semigrouplaw07_DfaCounts.j0 k a1 t220 true a0_0 a0_1 l0_2 l0_3) else (semigrouplaw07_DfaCounts.j0 k a1 t220 (decide (a1 > 10000)) a0_0 a0_1 l0_2 l0_3)) else (semigrouplaw07_DfaCounts.j0 k a1 t220 true a0_0 a0_1 l0_2 l0_3))) = some r := H
  have A3 := Aside0.mk A30
  clear A30
  have HC4 := Aside0.mk H
  clear H
  go_enter Try.func5, Try.ntmps5
  go_upto_region 2 with (first | ((with_reducible refine gate_dst (N := 2) rfl ?_); refine box_event ?hg (N := 2) ?hd (cs := #[.int .i64 a0_0, .int .i64 a0_1, .slice A0_2 l0_2.length c0_2, .slice A0_3 l0_3.length c0_3]) (t := 25) ?hr ?_; (case hd => rfl); (case hg => rfl); (case hr => first | (go_simp; done) | (go_simp; rfl)); intro gb219 hg w5 hbox hb; have n0_ := Aside0.mk (below_step (by repeat (first | (with_reducible first | exact HB.out | apply below_alloc | apply pw_below_drewN | apply below_drew1) | exact HB.out)) hb); have n1_ := Aside0.mk (hbox); have n2_ := Aside0.mk ((by rw [hg]; exact (below_size (by repeat (first | (with_reducible first | exact HB.out | apply below_alloc | apply pw_below_drewN | apply below_drew1) | exact HB.out))) : w.heap.size ≤ gb219)); have n3_ := Aside0.mk ((by rw [hg]; exact (below_size (by repeat (first | (with_reducible first | exact HB.out | apply below_alloc | apply pw_below_drewN | apply below_drew1) | exact HB.out))) : w.heap.size ≤ gb219)); clear HB; have HB := n0_; have BK219 := n1_; have GW219 := n2_; have GE219 := n3_; clear n0_ n1_ n2_ n3_; clear hb hbox hg; have hcz6_0 : w5.cell? ⟨gb219, 0, none⟩ = some (.int .i64 a0_0) := (blk_cell BK219.out 0).trans rfl; have hcz6_1 : w5.cell? ⟨gb219, 1, none⟩ = some (.int .i64 a0_1) := (blk_cell BK219.out 1).trans rfl; have hcz6_2 : w5.cell? ⟨gb219, 2, none⟩ = some (.slice A0_2 l0_2.length c0_2) := (blk_cell BK219.out 2).trans rfl; have hcz6_3 : w5.cell? ⟨gb219, 3, none⟩ = some (.slice A0_3 l0_3.length c0_3) := (blk_cell BK219.out 3).trans rfl; have hfz6_0 := blk_frozen BK219.out 0; have hfz6_1 := blk_frozen BK219.out 1; have hfz6_2 := blk_frozen BK219.out 2; have hfz6_3 := blk_frozen BK219.out 3) | ((with_reducible refine gate_callee (f := 21) rfl ?_); refine goesL_ (some 8) rfl rfl Try.func21 (by kernel_rfl) rfl #[.agg #[.int .i64 a0_0, .int .i64 a0_1, .slice A0_2 l0_2.length c0_2, .slice A0_3 l0_3.length c0_3], .int .i64 a1] rfl (by (try simp only [List.map_toArray, List.map_cons, List.map_nil]); first | done | rfl | (simp only [List.length_drop, List.length_take]; rfl)) ?_; (with_reducible refine (dfa_Count.calls k a0_0 a0_1 _ _ l0_2 _ _ l0_3 a1 t220 _ ?side1 ?side2 ?side3 ?side4 A3.out).mono ?_); (case side1 => repeat (first | exact (Kd.C_below HR0_2.out HB.out) | (with_reducible refine Kd.C_alloc ?_ _) | (with_reducible refine Kd.C_drewN ?_ _) | (with_reducible refine Kd.C_drew ?_))); (case side2 => exact HC0_2.out); (case side3 => repeat (first | exact (Kd.C_below HR0_3.out HB.out) | (with_reducible refine Kd.C_alloc ?_ _) | (with_reducible refine Kd.C_drewN ?_ _) | (with_reducible refine Kd.C_drew ?_))); (case side4 => exact HC0_3.out); rintro e w7 ⟨rfl, hb⟩; refine ⟨_, rfl, ?_⟩; have n0_ := Aside0.mk (blk_below (g := gb219) (o := .cells #[.int .i64 a0_0, .int .i64 a0_1, .slice A0_2 l0_2.length c0_2, .slice A0_3 l0_3.length c0_3] 25 (0, 0)) (by (with_reducible repeat (first | refine blk_drewN ?_ _ | refine blk_drew ?_ | refine blk_alloc ?_ _)); exact BK219.out) hb); have n1_ := Aside0.mk (below_step (by repeat (first | (with_reducible first | exact HB.out | apply below_alloc | apply pw_below_drewN | apply below_drew1 | refine below_set ?_ GE219.out) | exact HB.out)) hb); clear BK219; clear HB; have BK219 := n0_; have HB := n1_; clear n0_ n1_; (try clear hb); (try clear hb2); (try clear hk); (try clear hi)))
  (try simp only [Act.put, List.setIfInBounds_toArray, List.set_cons_zero, List.set_cons_succ])
  go_cut [19] (fun v19 wc => ∃ (kq : Nat) (x19_3 : Bool), v19 = .bool x19_3 ∧ Aside0 (semigrouplaw07_DfaCounts.j0 kq a1 t220 x19_3 a0_0 a0_1 l0_2 l0_3 = some r) ∧ Aside0 (kq ≤ k) ∧ Aside0 (wc.heap[gb219]? = some (.cells #[.int .i64 a0_0, .int .i64 a0_1, (.slice A0_2 l0_2.length c0_2), (.slice A0_3 l0_3.length c0_3)] 25 (0, 0))) ∧ Aside0 (Below w.heap.size w wc))
  case first =>
    have H := HC4.out
    clear HC4
    replace H := Option.bind_eq_some_iff.mp H
    obtain ⟨t221, A80, H⟩ := H
    replace H : (if t221 = true then (if a1 < 0 then (semigrouplaw07_DfaCounts.j0 k a1 t220 true a0_0 a0_1 l0_2 l0_3) else (semigrouplaw07_DfaCounts.j0 k a1 t220 (decide (a1 > 10000)) a0_0 a0_1 l0_2 l0_3)) else (semigrouplaw07_DfaCounts.j0 k a1 t220 true a0_0 a0_1 l0_2 l0_3)) = some r := H
    have A8 := Aside0.mk A80
    clear A80
    by_cases c9 : t221 = true
    (focus
    subst c9
    have H1 : (if a1 < 0 then (semigrouplaw07_DfaCounts.j0 k a1 t220 true a0_0 a0_1 l0_2 l0_3) else (semigrouplaw07_DfaCounts.j0 k a1 t220 (decide (a1 > 10000)) a0_0 a0_1 l0_2 l0_3)) = some r := by rw [if_pos rfl] at H; exact H
    clear H
    have H := H1
    clear H1
    by_cases c10 : a1 < 0
    (focus
    rw [if_pos c10] at H
    have c10b0 : decide (a1 < 0) = true := decide_eq_true c10
    clear c10
    (first | rw [c10b0] | (simp only [i64_w, i32_w]; rw [c10b0]) | skip)
    have H' := Aside0.mk H
    clear H
    have hcz11_0 : w7.cell? ⟨gb219, 0, none⟩ = some (.int .i64 a0_0) := (blk_cell BK219.out 0).trans rfl
    have hcz11_1 : w7.cell? ⟨gb219, 1, none⟩ = some (.int .i64 a0_1) := (blk_cell BK219.out 1).trans rfl
    have hcz11_2 : w7.cell? ⟨gb219, 2, none⟩ = some (.slice A0_2 l0_2.length c0_2) := (blk_cell BK219.out 2).trans rfl
    have hcz11_3 : w7.cell? ⟨gb219, 3, none⟩ = some (.slice A0_3 l0_3.length c0_3) := (blk_cell BK219.out 3).trans rfl
    have hfz11_0 := blk_frozen BK219.out 0
    have hfz11_1 := blk_frozen BK219.out 1
    have hfz11_2 := blk_frozen BK219.out 2
    have hfz11_3 := blk_frozen BK219.out 3
    go_wp2_with (first | ((with_reducible refine gate_callee (f := 17) rfl ?_); refine goesL_ (some 10) rfl rfl Try.func17 (by kernel_rfl) rfl #[.agg #[.int .i64 a0_0, .int .i64 a0_1, .slice A0_2 l0_2.length c0_2, .slice A0_3 l0_3.length c0_3]] rfl (by (try simp only [List.map_toArray, List.map_cons, List.map_nil]); first | done | rfl | (simp only [List.length_drop, List.length_take]; rfl)) ?_; (with_reducible refine (semigrouplaw07_valid.calls k a0_0 a0_1 _ _ l0_2 _ _ l0_3 true _ ?side1 ?side2 ?side3 ?side4 A8.out).mono ?_); (case side1 => repeat (first | exact (Kd.C_below HR0_2.out HB.out) | (with_reducible refine Kd.C_alloc ?_ _) | (with_reducible refine Kd.C_drewN ?_ _) | (with_reducible refine Kd.C_drew ?_))); (case side2 => exact HC0_2.out); (case side3 => repeat (first | exact (Kd.C_below HR0_3.out HB.out) | (with_reducible refine Kd.C_alloc ?_ _) | (with_reducible refine Kd.C_drewN ?_ _) | (with_reducible refine Kd.C_drew ?_))); (case side4 => exact HC0_3.out); rintro e w12 ⟨rfl, hb⟩; refine ⟨_, rfl, ?_⟩; have n0_ := Aside0.mk (blk_below (g := gb219) (o := .cells #[.int .i64 a0_0, .int .i64 a0_1, .slice A0_2 l0_2.length c0_2, .slice A0_3 l0_3.length c0_3] 25 (0, 0)) (by (with_reducible repeat (first | refine blk_drewN ?_ _ | refine blk_drew ?_ | refine blk_alloc ?_ _)); exact BK219.out) hb); have n1_ := Aside0.mk (below_step (by repeat (first | (with_reducible first | exact HB.out | apply below_alloc | apply pw_below_drewN | apply below_drew1 | refine below_set ?_ GE219.out) | exact HB.out)) hb); clear BK219; clear HB; have BK219 := n0_; have HB := n1_; clear n0_ n1_; (try clear hb); (try clear hb2); (try clear hk); (try clear hi)))
    go_meet
    case rel => exact ⟨_, (true), (by first | rfl | (simp; done) | (simp [*]; done)), H', ⟨by first | omega | exact Nat.le_refl _⟩, ⟨by (with_reducible repeat (first | refine blk_drewN ?_ _ | refine blk_drew ?_ | refine blk_alloc ?_ _)); exact BK219.out⟩, ⟨by repeat (first | (with_reducible first | exact HB.out | apply below_alloc | apply pw_below_drewN | apply below_drew1 | refine below_set ?_ GE219.out) | exact HB.out)⟩⟩
    )
    (focus
    rw [if_neg c10] at H
    have c10b0 : decide (a1 < 0) = false := decide_eq_false c10
    clear c10
    (first | rw [c10b0] | (simp only [i64_w, i32_w]; rw [c10b0]) | skip)
    have H' := Aside0.mk H
    clear H
    have hcz13_0 : w7.cell? ⟨gb219, 0, none⟩ = some (.int .i64 a0_0) := (blk_cell BK219.out 0).trans rfl
    have hcz13_1 : w7.cell? ⟨gb219, 1, none⟩ = some (.int .i64 a0_1) := (blk_cell BK219.out 1).trans rfl
    have hcz13_2 : w7.cell? ⟨gb219, 2, none⟩ = some (.slice A0_2 l0_2.length c0_2) := (blk_cell BK219.out 2).trans rfl
    have hcz13_3 : w7.cell? ⟨gb219, 3, none⟩ = some (.slice A0_3 l0_3.length c0_3) := (blk_cell BK219.out 3).trans rfl
    have hfz13_0 := blk_frozen BK219.out 0
    have hfz13_1 := blk_frozen BK219.out 1
    have hfz13_2 := blk_frozen BK219.out 2
    have hfz13_3 := blk_frozen BK219.out 3
    go_wp2_with (first | ((with_reducible refine gate_callee (f := 17) rfl ?_); refine goesL_ (some 10) rfl rfl Try.func17 (by kernel_rfl) rfl #[.agg #[.int .i64 a0_0, .int .i64 a0_1, .slice A0_2 l0_2.length c0_2, .slice A0_3 l0_3.length c0_3]] rfl (by (try simp only [List.map_toArray, List.map_cons, List.map_nil]); first | done | rfl | (simp only [List.length_drop, List.length_take]; rfl)) ?_; (with_reducible refine (semigrouplaw07_valid.calls k a0_0 a0_1 _ _ l0_2 _ _ l0_3 true _ ?side1 ?side2 ?side3 ?side4 A8.out).mono ?_); (case side1 => repeat (first | exact (Kd.C_below HR0_2.out HB.out) | (with_reducible refine Kd.C_alloc ?_ _) | (with_reducible refine Kd.C_drewN ?_ _) | (with_reducible refine Kd.C_drew ?_))); (case side2 => exact HC0_2.out); (case side3 => repeat (first | exact (Kd.C_below HR0_3.out HB.out) | (with_reducible refine Kd.C_alloc ?_ _) | (with_reducible refine Kd.C_drewN ?_ _) | (with_reducible refine Kd.C_drew ?_))); (case side4 => exact HC0_3.out); rintro e w14 ⟨rfl, hb⟩; refine ⟨_, rfl, ?_⟩; have n0_ := Aside0.mk (blk_below (g := gb219) (o := .cells #[.int .i64 a0_0, .int .i64 a0_1, .slice A0_2 l0_2.length c0_2, .slice A0_3 l0_3.length c0_3] 25 (0, 0)) (by (with_reducible repeat (first | refine blk_drewN ?_ _ | refine blk_drew ?_ | refine blk_alloc ?_ _)); exact BK219.out) hb); have n1_ := Aside0.mk (below_step (by repeat (first | (with_reducible first | exact HB.out | apply below_alloc | apply pw_below_drewN | apply below_drew1 | refine below_set ?_ GE219.out) | exact HB.out)) hb); clear BK219; clear HB; have BK219 := n0_; have HB := n1_; clear n0_ n1_; (try clear hb); (try clear hb2); (try clear hk); (try clear hi)))
    go_meet
    case rel => exact ⟨_, (decide (a1 > 10000)), (by first | rfl | (simp; done) | (simp [*]; done)), H', ⟨by first | omega | exact Nat.le_refl _⟩, ⟨by (with_reducible repeat (first | refine blk_drewN ?_ _ | refine blk_drew ?_ | refine blk_alloc ?_ _)); exact BK219.out⟩, ⟨by repeat (first | (with_reducible first | exact HB.out | apply below_alloc | apply pw_below_drewN | apply below_drew1 | refine below_set ?_ GE219.out) | exact HB.out)⟩⟩
    )
    )
    (focus
    replace c9 := Bool.eq_false_iff.mpr c9
    subst c9
    have H1 : (semigrouplaw07_DfaCounts.j0 k a1 t220 true a0_0 a0_1 l0_2 l0_3) = some r := by rw [if_neg (show ¬ (false = true) by decide)] at H; exact H
    clear H
    have H := H1
    clear H1
    have H' := Aside0.mk H
    clear H
    have hcz15_0 : w7.cell? ⟨gb219, 0, none⟩ = some (.int .i64 a0_0) := (blk_cell BK219.out 0).trans rfl
    have hcz15_1 : w7.cell? ⟨gb219, 1, none⟩ = some (.int .i64 a0_1) := (blk_cell BK219.out 1).trans rfl
    have hcz15_2 : w7.cell? ⟨gb219, 2, none⟩ = some (.slice A0_2 l0_2.length c0_2) := (blk_cell BK219.out 2).trans rfl
    have hcz15_3 : w7.cell? ⟨gb219, 3, none⟩ = some (.slice A0_3 l0_3.length c0_3) := (blk_cell BK219.out 3).trans rfl
    have hfz15_0 := blk_frozen BK219.out 0
    have hfz15_1 := blk_frozen BK219.out 1
    have hfz15_2 := blk_frozen BK219.out 2
    have hfz15_3 := blk_frozen BK219.out 3
    go_wp2_with (first | ((with_reducible refine gate_callee (f := 17) rfl ?_); refine goesL_ (some 10) rfl rfl Try.func17 (by kernel_rfl) rfl #[.agg #[.int .i64 a0_0, .int .i64 a0_1, .slice A0_2 l0_2.length c0_2, .slice A0_3 l0_3.length c0_3]] rfl (by (try simp only [List.map_toArray, List.map_cons, List.map_nil]); first | done | rfl | (simp only [List.length_drop, List.length_take]; rfl)) ?_; (with_reducible refine (semigrouplaw07_valid.calls k a0_0 a0_1 _ _ l0_2 _ _ l0_3 false _ ?side1 ?side2 ?side3 ?side4 A8.out).mono ?_); (case side1 => repeat (first | exact (Kd.C_below HR0_2.out HB.out) | (with_reducible refine Kd.C_alloc ?_ _) | (with_reducible refine Kd.C_drewN ?_ _) | (with_reducible refine Kd.C_drew ?_))); (case side2 => exact HC0_2.out); (case side3 => repeat (first | exact (Kd.C_below HR0_3.out HB.out) | (with_reducible refine Kd.C_alloc ?_ _) | (with_reducible refine Kd.C_drewN ?_ _) | (with_reducible refine Kd.C_drew ?_))); (case side4 => exact HC0_3.out); rintro e w16 ⟨rfl, hb⟩; refine ⟨_, rfl, ?_⟩; have n0_ := Aside0.mk (blk_below (g := gb219) (o := .cells #[.int .i64 a0_0, .int .i64 a0_1, .slice A0_2 l0_2.length c0_2, .slice A0_3 l0_3.length c0_3] 25 (0, 0)) (by (with_reducible repeat (first | refine blk_drewN ?_ _ | refine blk_drew ?_ | refine blk_alloc ?_ _)); exact BK219.out) hb); have n1_ := Aside0.mk (below_step (by repeat (first | (with_reducible first | exact HB.out | apply below_alloc | apply pw_below_drewN | apply below_drew1 | refine below_set ?_ GE219.out) | exact HB.out)) hb); clear BK219; clear HB; have BK219 := n0_; have HB := n1_; clear n0_ n1_; (try clear hb); (try clear hb2); (try clear hk); (try clear hi)))
    go_meet
    case rel => exact ⟨_, (true), (by first | rfl | (simp; done) | (simp [*]; done)), H', ⟨by first | omega | exact Nat.le_refl _⟩, ⟨by (with_reducible repeat (first | refine blk_drewN ?_ _ | refine blk_drew ?_ | refine blk_alloc ?_ _)); exact BK219.out⟩, ⟨by repeat (first | (with_reducible first | exact HB.out | apply below_alloc | apply pw_below_drewN | apply below_drew1 | refine below_set ?_ GE219.out) | exact HB.out)⟩⟩
    )
  case rest =>
    clear HC4
    try clear c1
    try clear c2
    try clear p2
    try clear c5
    try clear c9
    try clear c10
    try clear c10b0
    try clear hcz11_0
    try clear hcz11_1
    try clear hcz11_2
    try clear hcz11_3
    try clear hcz13_0
    try clear hcz13_1
    try clear hcz13_2
    try clear hcz13_3
    try clear hcz15_0
    try clear hcz15_1
    try clear hcz15_2
    try clear hcz15_3
    try clear hcz6_0
    try clear hcz6_1
    try clear hcz6_2
    try clear hcz6_3
    try clear hfz11_0
    try clear hfz11_1
    try clear hfz11_2
    try clear hfz11_3
    try clear hfz13_0
    try clear hfz13_1
    try clear hfz13_2
    try clear hfz13_3
    try clear hfz15_0
    try clear hfz15_1
    try clear hfz15_2
    try clear hfz15_3
    try clear hfz6_0
    try clear hfz6_1
    try clear hfz6_2
    try clear hfz6_3
    obtain ⟨kq, x19_3, rfl, HA, HJ3, BK219, HB⟩ := hcut
    cases kq with
    | zero => exact absurd HA.out (by simp [semigrouplaw07_DfaCounts.j0])
    | succ kj3 =>
      have H := HA.out
      clear HA
      simp only [semigrouplaw07_DfaCounts.j0] at H
      by_cases c17 : x19_3 = true
      (focus
      subst c17
      have H1 : (if t220 = 0 then ((semigrouplaw07_awake.f kj3).bind fun t222 => (some t222)) else (some false)) = some r := by rw [if_pos rfl] at H; exact H
      clear H
      have H := H1
      clear H1
      by_cases c18 : t220 = 0
      (focus
      rw [if_pos c18] at H
      have c18b0 : (t220 == 0) = true := beq_iff_eq.mpr c18
      have c18b1 : (t220 != 0) = false := bne_eq_false_iff_eq.mpr c18
      clear c18
      replace H := Option.bind_eq_some_iff.mp H
      obtain ⟨t222, A190, H⟩ := H
      replace H : (some t222) = some r := H
      have A19 := Aside0.mk A190
      clear A190
      obtain rfl := Option.some.inj H
      go_wp2_with (first | (go_at_call 16; (with_reducible refine (semigrouplaw07_awake.calls kj3  t222 _ A19.out).mono ?_); rintro e w20 ⟨rfl, hb⟩; have n0_ := Aside0.mk (blk_below (g := gb219) (o := .cells #[.int .i64 a0_0, .int .i64 a0_1, .slice A0_2 l0_2.length c0_2, .slice A0_3 l0_3.length c0_3] 25 (0, 0)) (by (with_reducible repeat (first | refine blk_drewN ?_ _ | refine blk_drew ?_ | refine blk_alloc ?_ _)); exact BK219.out) hb); have n1_ := Aside0.mk (below_step (by repeat (first | (with_reducible first | exact HB.out | apply below_alloc | apply pw_below_drewN | apply below_drew1 | refine below_set ?_ GE219.out) | exact HB.out)) hb); clear BK219; clear HB; have BK219 := n0_; have HB := n1_; clear n0_ n1_; (try clear hb); (try clear hb2); (try clear hk); (try clear hi)))
      go_ret
      exact ⟨by first | rfl | (simp [errW_none, errW_some] <;> rfl) | (simp [*, errW_none, errW_some] <;> rfl), by repeat (first | (with_reducible first | exact HB.out | apply below_alloc | apply pw_below_drewN | apply below_drew1 | refine below_set ?_ GE219.out) | exact HB.out)⟩
      )
      (focus
      rw [if_neg c18] at H
      have c18b0 : (t220 == 0) = false := beq_eq_false_iff_ne.mpr c18
      have c18b1 : (t220 != 0) = true := bne_iff_ne.mpr c18
      obtain rfl := Option.some.inj H
      go_wp2
      go_ret
      exact ⟨by first | rfl | (simp [errW_none, errW_some] <;> rfl) | (simp [*, errW_none, errW_some] <;> rfl), by repeat (first | (with_reducible first | exact HB.out | apply below_alloc | apply pw_below_drewN | apply below_drew1 | refine below_set ?_ GE219.out) | exact HB.out)⟩
      )
      )
      (focus
      replace c17 := Bool.eq_false_iff.mpr c17
      subst c17
      have H1 : (if (l0_2.length : Int) > 20 then (semigrouplaw07_DfaCounts.j1 kj3 a1 t220 true a0_0 a0_1 l0_2 l0_3) else (semigrouplaw07_DfaCounts.j1 kj3 a1 t220 (decide (a1 > 500)) a0_0 a0_1 l0_2 l0_3)) = some r := by rw [if_neg (show ¬ (false = true) by decide)] at H; exact H
      clear H
      have H := H1
      clear H1
      have HC21 := Aside0.mk H
      clear H
      go_upto_region 4 with (fail)
      go_cut [32] (fun v32 wc => ∃ (kq : Nat) (x32_20 : Bool), v32 = .bool x32_20 ∧ Aside0 (semigrouplaw07_DfaCounts.j1 kq a1 t220 x32_20 a0_0 a0_1 l0_2 l0_3 = some r) ∧ Aside0 (kq ≤ kj3) ∧ Aside0 (wc.heap[gb219]? = some (.cells #[.int .i64 a0_0, .int .i64 a0_1, (.slice A0_2 l0_2.length c0_2), (.slice A0_3 l0_3.length c0_3)] 25 (0, 0))) ∧ Aside0 (Below w.heap.size w wc))
      case first =>
        have H := HC21.out
        clear HC21
        by_cases c22 : (l0_2.length : Int) > 20
        (focus
        rw [if_pos c22] at H
        have c22b0 : decide (20 < (l0_2.length : Int)) = true := decide_eq_true c22
        have c22b1 : decide (20 < l0_2.length) = true := decide_eq_true (by omega)
        clear c22
        (first | rw [c22b0] | (simp only [i64_w, i32_w]; rw [c22b0]) | skip)
        have H' := Aside0.mk H
        clear H
        have hcz23_0 : wc.cell? ⟨gb219, 0, none⟩ = some (.int .i64 a0_0) := (blk_cell BK219.out 0).trans rfl
        have hcz23_1 : wc.cell? ⟨gb219, 1, none⟩ = some (.int .i64 a0_1) := (blk_cell BK219.out 1).trans rfl
        have hcz23_2 : wc.cell? ⟨gb219, 2, none⟩ = some (.slice A0_2 l0_2.length c0_2) := (blk_cell BK219.out 2).trans rfl
        have hcz23_3 : wc.cell? ⟨gb219, 3, none⟩ = some (.slice A0_3 l0_3.length c0_3) := (blk_cell BK219.out 3).trans rfl
        have hfz23_0 := blk_frozen BK219.out 0
        have hfz23_1 := blk_frozen BK219.out 1
        have hfz23_2 := blk_frozen BK219.out 2
        have hfz23_3 := blk_frozen BK219.out 3
        go_wp2
        go_meet
        case rel => exact ⟨_, (true), (by first | rfl | (simp; done) | (simp [*]; done)), H', ⟨by have := HJ3.out; first | omega | exact Nat.le_refl _⟩, ⟨by (with_reducible repeat (first | refine blk_drewN ?_ _ | refine blk_drew ?_ | refine blk_alloc ?_ _)); exact BK219.out⟩, ⟨by repeat (first | (with_reducible first | exact HB.out | apply below_alloc | apply pw_below_drewN | apply below_drew1 | refine below_set ?_ GE219.out) | exact HB.out)⟩⟩
        )
        (focus
        rw [if_neg c22] at H
        have c22b0 : decide (20 < (l0_2.length : Int)) = false := decide_eq_false c22
        have c22b1 : decide (20 < l0_2.length) = false := decide_eq_false (by omega)
        clear c22
        (first | rw [c22b0] | (simp only [i64_w, i32_w]; rw [c22b0]) | skip)
        have H' := Aside0.mk H
        clear H
        have hcz24_0 : wc.cell? ⟨gb219, 0, none⟩ = some (.int .i64 a0_0) := (blk_cell BK219.out 0).trans rfl
        have hcz24_1 : wc.cell? ⟨gb219, 1, none⟩ = some (.int .i64 a0_1) := (blk_cell BK219.out 1).trans rfl
        have hcz24_2 : wc.cell? ⟨gb219, 2, none⟩ = some (.slice A0_2 l0_2.length c0_2) := (blk_cell BK219.out 2).trans rfl
        have hcz24_3 : wc.cell? ⟨gb219, 3, none⟩ = some (.slice A0_3 l0_3.length c0_3) := (blk_cell BK219.out 3).trans rfl
        have hfz24_0 := blk_frozen BK219.out 0
        have hfz24_1 := blk_frozen BK219.out 1
        have hfz24_2 := blk_frozen BK219.out 2
        have hfz24_3 := blk_frozen BK219.out 3
        go_wp2
        go_meet
        case rel => exact ⟨_, (decide (a1 > 500)), (by first | rfl | (simp; done) | (simp [*]; done)), H', ⟨by have := HJ3.out; first | omega | exact Nat.le_refl _⟩, ⟨by (with_reducible repeat (first | refine blk_drewN ?_ _ | refine blk_drew ?_ | refine blk_alloc ?_ _)); exact BK219.out⟩, ⟨by repeat (first | (with_reducible first | exact HB.out | apply below_alloc | apply pw_below_drewN | apply below_drew1 | refine below_set ?_ GE219.out) | exact HB.out)⟩⟩
        )
      case rest =>
        clear HC21
        try clear c1
        try clear c2
        try clear p2
        try clear c5
        try clear c9
        try clear c10
        try clear c10b0
        try clear c17
        try clear c18
        try clear c18b0
        try clear c18b1
        try clear c21
        try clear c22
        try clear c22b0
        try clear c22b1
        try clear hcz11_0
        try clear hcz11_1
        try clear hcz11_2
        try clear hcz11_3
        try clear hcz13_0
        try clear hcz13_1
        try clear hcz13_2
        try clear hcz13_3
        try clear hcz15_0
        try clear hcz15_1
        try clear hcz15_2
        try clear hcz15_3
        try clear hcz23_0
        try clear hcz23_1
        try clear hcz23_2
        try clear hcz23_3
        try clear hcz24_0
        try clear hcz24_1
        try clear hcz24_2
        try clear hcz24_3
        try clear hcz6_0
        try clear hcz6_1
        try clear hcz6_2
        try clear hcz6_3
        try clear hfz11_0
        try clear hfz11_1
        try clear hfz11_2
        try clear hfz11_3
        try clear hfz13_0
        try clear hfz13_1
        try clear hfz13_2
        try clear hfz13_3
        try clear hfz15_0
        try clear hfz15_1
        try clear hfz15_2
        try clear hfz15_3
        try clear hfz23_0
        try clear hfz23_1
        try clear hfz23_2
        try clear hfz23_3
        try clear hfz24_0
        try clear hfz24_1
        try clear hfz24_2
        try clear hfz24_3
        try clear hfz6_0
        try clear hfz6_1
        try clear hfz6_2
        try clear hfz6_3
        try clear p2
        obtain ⟨kq, x32_20, rfl, HA, HJ20, BK219, HB⟩ := hcut
        cases kq with
        | zero => exact absurd HA.out (by simp [semigrouplaw07_DfaCounts.j1])
        | succ kj20 =>
          have H := HA.out
          clear HA
          simp only [semigrouplaw07_DfaCounts.j1] at H
          by_cases c25 : x32_20 = true
          (focus
          subst c25
          have H1 : ((semigrouplaw07_awake.f kj20).bind fun t223 => (some t223)) = some r := by rw [if_pos rfl] at H; exact H
          clear H
          have H := H1
          clear H1
          replace H := Option.bind_eq_some_iff.mp H
          obtain ⟨t223, A260, H⟩ := H
          replace H : (some t223) = some r := H
          have A26 := Aside0.mk A260
          clear A260
          obtain rfl := Option.some.inj H
          go_wp2_with (first | ((with_reducible refine gate_callee (f := 16) rfl ?_); refine goesL_ (some 33) rfl rfl Try.func16 (by kernel_rfl) rfl #[] rfl (by (try simp only [List.map_toArray, List.map_cons, List.map_nil]); first | done | rfl | (simp only [List.length_drop, List.length_take]; rfl)) ?_; (with_reducible refine (semigrouplaw07_awake.calls kj20  t223 _ A26.out).mono ?_); rintro e w27 ⟨rfl, hb⟩; refine ⟨_, rfl, ?_⟩; have n0_ := Aside0.mk (blk_below (g := gb219) (o := .cells #[.int .i64 a0_0, .int .i64 a0_1, .slice A0_2 l0_2.length c0_2, .slice A0_3 l0_3.length c0_3] 25 (0, 0)) (by (with_reducible repeat (first | refine blk_drewN ?_ _ | refine blk_drew ?_ | refine blk_alloc ?_ _)); exact BK219.out) hb); have n1_ := Aside0.mk (below_step (by repeat (first | (with_reducible first | exact HB.out | apply below_alloc | apply pw_below_drewN | apply below_drew1 | refine below_set ?_ GE219.out) | exact HB.out)) hb); clear BK219; clear HB; have BK219 := n0_; have HB := n1_; clear n0_ n1_; (try clear hb); (try clear hb2); (try clear hk); (try clear hi)))
          go_ret
          exact ⟨by first | rfl | (simp [errW_none, errW_some] <;> rfl) | (simp [*, errW_none, errW_some] <;> rfl), by repeat (first | (with_reducible first | exact HB.out | apply below_alloc | apply pw_below_drewN | apply below_drew1 | refine below_set ?_ GE219.out) | exact HB.out)⟩
          )
          (focus
          replace c25 := Bool.eq_false_iff.mpr c25
          subst c25
          have H1 : ((semigroupref07_Count.f kj20 a0_0 a0_1 l0_2 l0_3 a1).bind fun t224 => (if t220 = t224 then ((semigrouplaw07_awake.f kj20).bind fun t225 => (some t225)) else (some false))) = some r := by rw [if_neg (show ¬ (false = true) by decide)] at H; exact H
          clear H
          have H := H1
          clear H1
          replace H := Option.bind_eq_some_iff.mp H
          obtain ⟨t224, A280, H⟩ := H
          replace H : (if t220 = t224 then ((semigrouplaw07_awake.f kj20).bind fun t225 => (some t225)) else (some false)) = some r := H
          have A28 := Aside0.mk A280
          clear A280
          by_cases c29 : t220 = t224
          (focus
          rw [if_pos c29] at H
          have c29b0 : (t220 == t224) = true := beq_iff_eq.mpr c29
          have c29b1 : (t220 != t224) = false := bne_eq_false_iff_eq.mpr c29
          clear c29
          replace H := Option.bind_eq_some_iff.mp H
          obtain ⟨t225, A300, H⟩ := H
          replace H : (some t225) = some r := H
          have A30 := Aside0.mk A300
          clear A300
          obtain rfl := Option.some.inj H
          have hcz31_0 : wc.cell? ⟨gb219, 0, none⟩ = some (.int .i64 a0_0) := (blk_cell BK219.out 0).trans rfl
          have hcz31_1 : wc.cell? ⟨gb219, 1, none⟩ = some (.int .i64 a0_1) := (blk_cell BK219.out 1).trans rfl
          have hcz31_2 : wc.cell? ⟨gb219, 2, none⟩ = some (.slice A0_2 l0_2.length c0_2) := (blk_cell BK219.out 2).trans rfl
          have hcz31_3 : wc.cell? ⟨gb219, 3, none⟩ = some (.slice A0_3 l0_3.length c0_3) := (blk_cell BK219.out 3).trans rfl
          have hfz31_0 := blk_frozen BK219.out 0
          have hfz31_1 := blk_frozen BK219.out 1
          have hfz31_2 := blk_frozen BK219.out 2
          have hfz31_3 := blk_frozen BK219.out 3
          go_wp2_with (first | ((with_reducible refine gate_callee (f := 22) rfl ?_); refine goesL_ (some 37) rfl rfl Try.func22 (by kernel_rfl) rfl #[.agg #[.int .i64 a0_0, .int .i64 a0_1, .slice A0_2 l0_2.length c0_2, .slice A0_3 l0_3.length c0_3], .int .i64 a1] rfl (by (try simp only [List.map_toArray, List.map_cons, List.map_nil]); first | done | rfl | (simp only [List.length_drop, List.length_take]; rfl)) ?_; (with_reducible refine (semigroupref07_Count.calls kj20 a0_0 a0_1 _ _ l0_2 _ _ l0_3 a1 t224 _ ?side1 ?side2 ?side3 ?side4 A28.out).mono ?_); (case side1 => repeat (first | exact (Kd.C_below HR0_2.out HB.out) | (with_reducible refine Kd.C_alloc ?_ _) | (with_reducible refine Kd.C_drewN ?_ _) | (with_reducible refine Kd.C_drew ?_))); (case side2 => exact HC0_2.out); (case side3 => repeat (first | exact (Kd.C_below HR0_3.out HB.out) | (with_reducible refine Kd.C_alloc ?_ _) | (with_reducible refine Kd.C_drewN ?_ _) | (with_reducible refine Kd.C_drew ?_))); (case side4 => exact HC0_3.out); rintro e w32 ⟨rfl, hb⟩; refine ⟨_, rfl, ?_⟩; have n0_ := Aside0.mk (blk_below (g := gb219) (o := .cells #[.int .i64 a0_0, .int .i64 a0_1, .slice A0_2 l0_2.length c0_2, .slice A0_3 l0_3.length c0_3] 25 (0, 0)) (by (with_reducible repeat (first | refine blk_drewN ?_ _ | refine blk_drew ?_ | refine blk_alloc ?_ _)); exact BK219.out) hb); have n1_ := Aside0.mk (below_step (by repeat (first | (with_reducible first | exact HB.out | apply below_alloc | apply pw_below_drewN | apply below_drew1 | refine below_set ?_ GE219.out) | exact HB.out)) hb); clear BK219; clear HB; have BK219 := n0_; have HB := n1_; clear n0_ n1_; (try clear hb); (try clear hb2); (try clear hk); (try clear hi)) | (go_at_call 16; (with_reducible refine (semigrouplaw07_awake.calls kj20  t225 _ A30.out).mono ?_); rintro e w33 ⟨rfl, hb⟩; have n0_ := Aside0.mk (blk_below (g := gb219) (o := .cells #[.int .i64 a0_0, .int .i64 a0_1, .slice A0_2 l0_2.length c0_2, .slice A0_3 l0_3.length c0_3] 25 (0, 0)) (by (with_reducible repeat (first | refine blk_drewN ?_ _ | refine blk_drew ?_ | refine blk_alloc ?_ _)); exact BK219.out) hb); have n1_ := Aside0.mk (below_step (by repeat (first | (with_reducible first | exact HB.out | apply below_alloc | apply pw_below_drewN | apply below_drew1 | refine below_set ?_ GE219.out) | exact HB.out)) hb); clear BK219; clear HB; have BK219 := n0_; have HB := n1_; clear n0_ n1_; (try clear hb); (try clear hb2); (try clear hk); (try clear hi)))
          go_ret
          exact ⟨by first | rfl | (simp [errW_none, errW_some] <;> rfl) | (simp [*, errW_none, errW_some] <;> rfl), by repeat (first | (with_reducible first | exact HB.out | apply below_alloc | apply pw_below_drewN | apply below_drew1 | refine below_set ?_ GE219.out) | exact HB.out)⟩
          )
          (focus
          rw [if_neg c29] at H
          have c29b0 : (t220 == t224) = false := beq_eq_false_iff_ne.mpr c29
          have c29b1 : (t220 != t224) = true := bne_iff_ne.mpr c29
          obtain rfl := Option.some.inj H
          have hcz34_0 : wc.cell? ⟨gb219, 0, none⟩ = some (.int .i64 a0_0) := (blk_cell BK219.out 0).trans rfl
          have hcz34_1 : wc.cell? ⟨gb219, 1, none⟩ = some (.int .i64 a0_1) := (blk_cell BK219.out 1).trans rfl
          have hcz34_2 : wc.cell? ⟨gb219, 2, none⟩ = some (.slice A0_2 l0_2.length c0_2) := (blk_cell BK219.out 2).trans rfl
          have hcz34_3 : wc.cell? ⟨gb219, 3, none⟩ = some (.slice A0_3 l0_3.length c0_3) := (blk_cell BK219.out 3).trans rfl
          have hfz34_0 := blk_frozen BK219.out 0
          have hfz34_1 := blk_frozen BK219.out 1
          have hfz34_2 := blk_frozen BK219.out 2
          have hfz34_3 := blk_frozen BK219.out 3
          go_wp2_with (first | ((with_reducible refine gate_callee (f := 22) rfl ?_); refine goesL_ (some 37) rfl rfl Try.func22 (by kernel_rfl) rfl #[.agg #[.int .i64 a0_0, .int .i64 a0_1, .slice A0_2 l0_2.length c0_2, .slice A0_3 l0_3.length c0_3], .int .i64 a1] rfl (by (try simp only [List.map_toArray, List.map_cons, List.map_nil]); first | done | rfl | (simp only [List.length_drop, List.length_take]; rfl)) ?_; (with_reducible refine (semigroupref07_Count.calls kj20 a0_0 a0_1 _ _ l0_2 _ _ l0_3 a1 t224 _ ?side1 ?side2 ?side3 ?side4 A28.out).mono ?_); (case side1 => repeat (first | exact (Kd.C_below HR0_2.out HB.out) | (with_reducible refine Kd.C_alloc ?_ _) | (with_reducible refine Kd.C_drewN ?_ _) | (with_reducible refine Kd.C_drew ?_))); (case side2 => exact HC0_2.out); (case side3 => repeat (first | exact (Kd.C_below HR0_3.out HB.out) | (with_reducible refine Kd.C_alloc ?_ _) | (with_reducible refine Kd.C_drewN ?_ _) | (with_reducible refine Kd.C_drew ?_))); (case side4 => exact HC0_3.out); rintro e w35 ⟨rfl, hb⟩; refine ⟨_, rfl, ?_⟩; have n0_ := Aside0.mk (blk_below (g := gb219) (o := .cells #[.int .i64 a0_0, .int .i64 a0_1, .slice A0_2 l0_2.length c0_2, .slice A0_3 l0_3.length c0_3] 25 (0, 0)) (by (with_reducible repeat (first | refine blk_drewN ?_ _ | refine blk_drew ?_ | refine blk_alloc ?_ _)); exact BK219.out) hb); have n1_ := Aside0.mk (below_step (by repeat (first | (with_reducible first | exact HB.out | apply below_alloc | apply pw_below_drewN | apply below_drew1 | refine below_set ?_ GE219.out) | exact HB.out)) hb); clear BK219; clear HB; have BK219 := n0_; have HB := n1_; clear n0_ n1_; (try clear hb); (try clear hb2); (try clear hk); (try clear hi)))
          go_ret
          exact ⟨by first | rfl | (simp [errW_none, errW_some] <;> rfl) | (simp [*, errW_none, errW_some] <;> rfl), by repeat (first | (with_reducible first | exact HB.out | apply below_alloc | apply pw_below_drewN | apply below_drew1 | refine below_set ?_ GE219.out) | exact HB.out)⟩

          )
          )
      )
end Go.Proofs.Ytpjbmgoagehjkaa.PDfaCounts
