import Derived.Test.YtpjbmgoagehjkaaZDfaEnumeratesx0
import Derived.Test.YtpjbmgoagehjkaaZDfaEnumeratesx1
namespace Go.Proofs.Ytpjbmgoagehjkaa.PDfaEnumerates
open Go.RowKit Go.Proofs.YtpjbmgoagehjkaaH Go.Proofs.YtpjbmgoagehjkaaW.PrintWords Go.Proofs.YtpjbmgoagehjkaaW.PrintLast Go.Proofs.YtpjbmgoagehjkaaW.PrintMore
attribute [local go_sem] max2_int min2_int max_two min_two max_three min_three max_four min_four   -- for this text's walks alone
set_option linter.unusedVariables false
set_option linter.unusedSimpArgs false
/-! ### dfa_Count: function 21 -/
mutual
def dfa_Count.j0 : Nat → Int → Bool → Int → Int → List Bool → List (List Int) → Option (Int)
 | 0, _, _, _, _, _, _ => none
 | k + 1, x1, x24, x183000, x183001, x183002, x183003 => if x24 = true then (some 0) else (if 0 ≤ (x183002.length : Int) then (if ((x183002.length : Int) : Int).toNat ≤ 35184372088832 then ((some (List.replicate ((x183002.length : Int) : Int).toNat 0 : List Int)).bind fun y184 => (if 0 ≤ x183001 then (if x183001 < (y184.length : Int) then (dfa_Count.l0 k x1 (y184.set (x183001 : Int).toNat 1) x183000 x183001 x183002 x183003) else (none)) else (none))) else (none)) else (none))
def dfa_Count.l0 : Nat → Int → List Int → Int → Int → List Bool → List (List Int) → Option (Int)
 | 0, _, _, _, _, _, _ => none
 | k + 1, x1, x5, x183000, x183001, x183002, x183003 => if x1 > 0 then (if 0 ≤ (x5.length : Int) then (if ((x5.length : Int) : Int).toNat ≤ 35184372088832 then (dfa_Count.l1 k x1 (List.replicate ((x5.length : Int) : Int).toNat 0) x5 (x5.length : Int) 0 x183000 x183001 x183002 x183003) else (none)) else (none)) else (dfa_Count.l3 k 0 x5 (x5.length : Int) 0 x183000 x183001 x183002 x183003)
def dfa_Count.l1 : Nat → Int → List Int → List Int → Int → Int → Int → Int → List Bool → List (List Int) → Option (Int)
 | 0, _, _, _, _, _, _, _, _, _ => none
 | k + 1, x1, x6, x40, x41, x42, x183000, x183001, x183002, x183003 => if x42 < x41 then (if 0 ≤ x42 then (if x42 < (x40.length : Int) then (if x42 < (x183003.length : Int) then (dfa_Count.l2 k x1 x6 (rd x40 x42) x40 x41 x42 (rd_L1 x183003 x42) ((rd_L1 x183003 x42).length : Int) 0 x183000 x183001 x183002 x183003) else (none)) else (none)) else (none)) else (dfa_Count.l0 k (wrap64 (x1 - 1)) x6 x183000 x183001 x183002 x183003)
def dfa_Count.l2 : Nat → Int → List Int → Int → List Int → Int → Int → List Int → Int → Int → Int → Int → List Bool → List (List Int) → Option (Int)
 | 0, _, _, _, _, _, _, _, _, _, _, _, _, _ => none
 | k + 1, x1, x6, x8, x40, x41, x42, x51, x52, x53, x183000, x183001, x183002, x183003 => if x53 < x52 then (if 0 ≤ x53 then (if x53 < (x51.length : Int) then (if 0 ≤ (rd x51 x53) then (if (rd x51 x53) < (x6.length : Int) then (dfa_Count.l2 k x1 (x6.set ((rd x51 x53) : Int).toNat (Int.tmod (wrap64 ((rd x6 (rd x51 x53)) + x8)) 2305843009213693951)) x8 x40 x41 x42 x51 x52 (wrap64 (x53 + 1)) x183000 x183001 x183002 x183003) else (none)) else (none)) else (none)) else (none)) else (dfa_Count.l1 k x1 x6 x40 x41 (wrap64 (x42 + 1)) x183000 x183001 x183002 x183003)
def dfa_Count.l3 : Nat → Int → List Int → Int → Int → Int → Int → List Bool → List (List Int) → Option (Int)
 | 0, _, _, _, _, _, _, _, _ => none
 | k + 1, x11, x70, x71, x72, x183000, x183001, x183002, x183003 => if x72 < x71 then (if 0 ≤ x72 then (if x72 < (x70.length : Int) then (if x72 < (x183002.length : Int) then (if rdOf false x183002 x72 = true then (dfa_Count.l3 k (Int.tmod (wrap64 (x11 + (rd x70 x72))) 2305843009213693951) x70 x71 (wrap64 (x72 + 1)) x183000 x183001 x183002 x183003) else (dfa_Count.l3 k x11 x70 x71 (wrap64 (x72 + 1)) x183000 x183001 x183002 x183003)) else (none)) else (none)) else (none)) else (some x11)
end
def dfa_Count.f (k : Nat) (a0_0 : Int) (a0_1 : Int) (l0_2 : List Bool) (l0_3 : List (List Int)) (a1 : Int) : Option (Int) := (dfa_Validate.f k a0_0 a0_1 l0_2 l0_3).bind fun t183 => (if t183 = 0 then (if a1 < 0 then (dfa_Count.j0 k a1 true a0_0 a0_1 l0_2 l0_3) else (dfa_Count.j0 k a1 (decide (a1 > 10000)) a0_0 a0_1 l0_2 l0_3)) else (dfa_Count.j0 k a1 true a0_0 a0_1 l0_2 l0_3))
theorem dfa_Count.mono_l : ∀ k, (∀ y0 y1 y2 y3 y4 y5, LeO (dfa_Count.j0 k y0 y1 y2 y3 y4 y5) (dfa_Count.j0 (k + 1) y0 y1 y2 y3 y4 y5)) ∧ (∀ y0 y1 y2 y3 y4 y5, LeO (dfa_Count.l0 k y0 y1 y2 y3 y4 y5) (dfa_Count.l0 (k + 1) y0 y1 y2 y3 y4 y5)) ∧ (∀ y0 y1 y2 y3 y4 y5 y6 y7 y8, LeO (dfa_Count.l1 k y0 y1 y2 y3 y4 y5 y6 y7 y8) (dfa_Count.l1 (k + 1) y0 y1 y2 y3 y4 y5 y6 y7 y8)) ∧ (∀ y0 y1 y2 y3 y4 y5 y6 y7 y8 y9 y10 y11 y12, LeO (dfa_Count.l2 k y0 y1 y2 y3 y4 y5 y6 y7 y8 y9 y10 y11 y12) (dfa_Count.l2 (k + 1) y0 y1 y2 y3 y4 y5 y6 y7 y8 y9 y10 y11 y12)) ∧ (∀ y0 y1 y2 y3 y4 y5 y6 y7, LeO (dfa_Count.l3 k y0 y1 y2 y3 y4 y5 y6 y7) (dfa_Count.l3 (k + 1) y0 y1 y2 y3 y4 y5 y6 y7))
 | 0 => ⟨fun _ _ _ _ _ _ r h => by simp [dfa_Count.j0] at h, fun _ _ _ _ _ _ r h => by simp [dfa_Count.l0] at h, fun _ _ _ _ _ _ _ _ _ r h => by simp [dfa_Count.l1] at h, fun _ _ _ _ _ _ _ _ _ _ _ _ _ r h => by simp [dfa_Count.l2] at h, fun _ _ _ _ _ _ _ _ r h => by simp [dfa_Count.l3] at h⟩
 | k + 1 => by
  obtain ⟨ih0, ih1, ih2, ih3, ih4⟩ := dfa_Count.mono_l k
  refine ⟨?_, ?_, ?_, ?_, ?_⟩
  (focus
  intro y0 y1 y2 y3 y4 y5
  unfold dfa_Count.j0
  repeat' first
  | (with_reducible exact ih0 _ _ _ _ _ _)
  | (with_reducible exact ih1 _ _ _ _ _ _)
  | (with_reducible exact ih2 _ _ _ _ _ _ _ _ _)
  | (with_reducible exact ih3 _ _ _ _ _ _ _ _ _ _ _ _ _)
  | (with_reducible exact ih4 _ _ _ _ _ _ _ _)
  | (with_reducible exact dfa_Validate.mono _ _ _ _ _)
  | (with_reducible exact LeO.refl _)
  | (with_reducible exact LeO.none _)
  | (with_reducible refine LeO.ite ?_ ?_)
  | (with_reducible refine LeO.bind ?_ (fun _ => ?_))
  | exact ih0 _ _ _ _ _ _
  | exact ih1 _ _ _ _ _ _
  | exact ih2 _ _ _ _ _ _ _ _ _
  | exact ih3 _ _ _ _ _ _ _ _ _ _ _ _ _
  | exact ih4 _ _ _ _ _ _ _ _
  | exact dfa_Validate.mono _ _ _ _ _
  | exact LeO.none _
  | refine LeO.ite ?_ ?_
  | refine LeO.bind ?_ (fun _ => ?_)
  )
  (focus
  intro y0 y1 y2 y3 y4 y5
  unfold dfa_Count.l0
  repeat' first
  | (with_reducible exact ih0 _ _ _ _ _ _)
  | (with_reducible exact ih1 _ _ _ _ _ _)
  | (with_reducible exact ih2 _ _ _ _ _ _ _ _ _)
  | (with_reducible exact ih3 _ _ _ _ _ _ _ _ _ _ _ _ _)
  | (with_reducible exact ih4 _ _ _ _ _ _ _ _)
  | (with_reducible exact dfa_Validate.mono _ _ _ _ _)
  | (with_reducible exact LeO.refl _)
  | (with_reducible exact LeO.none _)
  | (with_reducible refine LeO.ite ?_ ?_)
  | (with_reducible refine LeO.bind ?_ (fun _ => ?_))
  | exact ih0 _ _ _ _ _ _
  | exact ih1 _ _ _ _ _ _
  | exact ih2 _ _ _ _ _ _ _ _ _
  | exact ih3 _ _ _ _ _ _ _ _ _ _ _ _ _
  | exact ih4 _ _ _ _ _ _ _ _
  | exact dfa_Validate.mono _ _ _ _ _
  | exact LeO.none _
  | refine LeO.ite ?_ ?_
  | refine LeO.bind ?_ (fun _ => ?_)
  )
  (focus
  intro y0 y1 y2 y3 y4 y5 y6 y7 y8
  unfold dfa_Count.l1
  repeat' first
  | (with_reducible exact ih0 _ _ _ _ _ _)
  | (with_reducible exact ih1 _ _ _ _ _ _)
  | (with_reducible exact ih2 _ _ _ _ _ _ _ _ _)
  | (with_reducible exact ih3 _ _ _ _ _ _ _ _ _ _ _ _ _)
  | (with_reducible exact ih4 _ _ _ _ _ _ _ _)
  | (with_reducible exact dfa_Validate.mono _ _ _ _ _)
  | (with_reducible exact LeO.refl _)
  | (with_reducible exact LeO.none _)
  | (with_reducible refine LeO.ite ?_ ?_)
  | (with_reducible refine LeO.bind ?_ (fun _ => ?_))
  | exact ih0 _ _ _ _ _ _
  | exact ih1 _ _ _ _ _ _
  | exact ih2 _ _ _ _ _ _ _ _ _
  | exact ih3 _ _ _ _ _ _ _ _ _ _ _ _ _
  | exact ih4 _ _ _ _ _ _ _ _
  | exact dfa_Validate.mono _ _ _ _ _
  | exact LeO.none _
  | refine LeO.ite ?_ ?_
  | refine LeO.bind ?_ (fun _ => ?_)
  )
  (focus
  intro y0 y1 y2 y3 y4 y5 y6 y7 y8 y9 y10 y11 y12
  unfold dfa_Count.l2
  repeat' first
  | (with_reducible exact ih0 _ _ _ _ _ _)
  | (with_reducible exact ih1 _ _ _ _ _ _)
  | (with_reducible exact ih2 _ _ _ _ _ _ _ _ _)
  | (with_reducible exact ih3 _ _ _ _ _ _ _ _ _ _ _ _ _)
  | (with_reducible exact ih4 _ _ _ _ _ _ _ _)
  | (with_reducible exact dfa_Validate.mono _ _ _ _ _)
  | (with_reducible exact LeO.refl _)
  | (with_reducible exact LeO.none _)
  | (with_reducible refine LeO.ite ?_ ?_)
  | (with_reducible refine LeO.bind ?_ (fun _ => ?_))
  | exact ih0 _ _ _ _ _ _
  | exact ih1 _ _ _ _ _ _
  | exact ih2 _ _ _ _ _ _ _ _ _
  | exact ih3 _ _ _ _ _ _ _ _ _ _ _ _ _
  | exact ih4 _ _ _ _ _ _ _ _
  | exact dfa_Validate.mono _ _ _ _ _
  | exact LeO.none _
  | refine LeO.ite ?_ ?_
  | refine LeO.bind ?_ (fun _ => ?_)
  )
  (focus
  intro y0 y1 y2 y3 y4 y5 y6 y7
  unfold dfa_Count.l3
  repeat' first
  | (with_reducible exact ih0 _ _ _ _ _ _)
  | (with_reducible exact ih1 _ _ _ _ _ _)
  | (with_reducible exact ih2 _ _ _ _ _ _ _ _ _)
  | (with_reducible exact ih3 _ _ _ _ _ _ _ _ _ _ _ _ _)
  | (with_reducible exact ih4 _ _ _ _ _ _ _ _)
  | (with_reducible exact dfa_Validate.mono _ _ _ _ _)
  | (with_reducible exact LeO.refl _)
  | (with_reducible exact LeO.none _)
  | (with_reducible refine LeO.ite ?_ ?_)
  | (with_reducible refine LeO.bind ?_ (fun _ => ?_))
  | exact ih0 _ _ _ _ _ _
  | exact ih1 _ _ _ _ _ _
  | exact ih2 _ _ _ _ _ _ _ _ _
  | exact ih3 _ _ _ _ _ _ _ _ _ _ _ _ _
  | exact ih4 _ _ _ _ _ _ _ _
  | exact dfa_Validate.mono _ _ _ _ _
  | exact LeO.none _
  | refine LeO.ite ?_ ?_
  | refine LeO.bind ?_ (fun _ => ?_)
  )
theorem dfa_Count.mono : ∀ a0 a1 a2 a3 a4 k, LeO (dfa_Count.f k a0 a1 a2 a3 a4) (dfa_Count.f (k + 1) a0 a1 a2 a3 a4) := by
 intro a0 a1 a2 a3 a4 k
 obtain ⟨ih0, ih1, ih2, ih3, ih4⟩ := dfa_Count.mono_l k
 unfold dfa_Count.f
 repeat' first
  | (with_reducible exact ih0 _ _ _ _ _ _)
  | (with_reducible exact ih1 _ _ _ _ _ _)
  | (with_reducible exact ih2 _ _ _ _ _ _ _ _ _)
  | (with_reducible exact ih3 _ _ _ _ _ _ _ _ _ _ _ _ _)
  | (with_reducible exact ih4 _ _ _ _ _ _ _ _)
  | (with_reducible exact dfa_Validate.mono _ _ _ _ _)
  | (with_reducible exact LeO.refl _)
  | (with_reducible exact LeO.none _)
  | (with_reducible refine LeO.ite ?_ ?_)
  | (with_reducible refine LeO.bind ?_ (fun _ => ?_))
  | exact ih0 _ _ _ _ _ _
  | exact ih1 _ _ _ _ _ _
  | exact ih2 _ _ _ _ _ _ _ _ _
  | exact ih3 _ _ _ _ _ _ _ _ _ _ _ _ _
  | exact ih4 _ _ _ _ _ _ _ _
  | exact dfa_Validate.mono _ _ _ _ _
  | exact LeO.none _
  | refine LeO.ite ?_ ?_
  | refine LeO.bind ?_ (fun _ => ?_)
set_option maxHeartbeats 8000000 in
set_option maxRecDepth 100000 in
theorem dfa_Count.calls (k : Nat) (a0_0 : Int) (a0_1 : Int) (A0_2 : Option Addr) (c0_2 : Nat) (l0_2 : List Bool) (A0_3 : Option Addr) (c0_3 : Nat) (l0_3 : List (List Int)) (a1 : Int) (r : Int) (w : World) (hr0_2 : Kd.C Kd.bool w A0_2 l0_2.length l0_2) (hc0_2 : l0_2.length ≤ c0_2) (hr0_3 : Kd.C (Kd.slice 3 (Kd.int .i64)) w A0_3 l0_3.length l0_3) (hc0_3 : l0_3.length ≤ c0_3) (h : dfa_Count.f k a0_0 a0_1 l0_2 l0_3 a1 = some r) :
 Calls Try.prog 21 #[.agg #[.int .i64 a0_0, .int .i64 a0_1, .slice A0_2 l0_2.length c0_2, .slice A0_3 l0_3.length c0_3], .int .i64 a1] w fun e w' => e = .returned (.int .i64 r) ∧ Below w.heap.size w w' := by
 have hu25 := Try.underlying25
 have HR0_2 := Aside0.mk hr0_2
 have HC0_2 := Aside0.mk hc0_2
 clear hr0_2 hc0_2
 have HR0_3 := Aside0.mk hr0_3
 have HC0_3 := Aside0.mk hc0_3
 clear hr0_3 hc0_3
 have HB := Aside0.mk (Below.refl w.heap.size w)
 have H : ((dfa_Validate.f k a0_0 a0_1 l0_2 l0_3).bind fun t183 => (if t183 = 0 then (if a1 < 0 then (dfa_Count.j0 k a1 true a0_0 a0_1 l0_2 l0_3) else (dfa_Count.j0 k a1 (decide (a1 > 10000)) a0_0 a0_1 l0_2 l0_3)) else (dfa_Count.j0 k a1 true a0_0 a0_1 l0_2 l0_3))) = some r := h
 clear h
 have HC3 := Aside0.mk H
 clear H
 go_enter Try.func21, Try.ntmps21
 go_upto_region 1 with (first | ((with_reducible refine gate_dst (N := 2) rfl ?_); refine box_event ?hg (N := 2) ?hd (cs := #[.int .i64 a0_0, .int .i64 a0_1, .slice A0_2 l0_2.length c0_2, .slice A0_3 l0_3.length c0_3]) (t := 25) ?hr ?_; (case hd => rfl); (case hg => rfl); (case hr => first | (go_simp; done) | (go_simp; rfl)); intro gb182 hg w4 hbox hb; have n0_ := Aside0.mk (below_step (by repeat (first | (with_reducible first | exact HB.out | apply below_alloc | apply pw_below_drewN | apply below_drew1) | exact HB.out)) hb); have n1_ := Aside0.mk (hbox); have n2_ := Aside0.mk ((by rw [hg]; exact (below_size (by repeat (first | (with_reducible first | exact HB.out | apply below_alloc | apply pw_below_drewN | apply below_drew1) | exact HB.out))) : w.heap.size ≤ gb182)); have n3_ := Aside0.mk ((by rw [hg]; exact (below_size (by repeat (first | (with_reducible first | exact HB.out | apply below_alloc | apply pw_below_drewN | apply below_drew1) | exact HB.out))) : w.heap.size ≤ gb182)); clear HB; have HB := n0_; have BK182 := n1_; have GW182 := n2_; have GE182 := n3_; clear n0_ n1_ n2_ n3_; clear hb hbox hg))
 (try simp only [Act.put, List.setIfInBounds_toArray, List.set_cons_zero, List.set_cons_succ])
 go_cut [24] (fun v24 wc => ∃ (kq : Nat) (x24_2 : Bool), v24 = .bool x24_2 ∧ Aside0 (dfa_Count.j0 kq a1 x24_2 a0_0 a0_1 l0_2 l0_3 = some r) ∧ Aside0 (kq ≤ k) ∧ Aside0 (wc.heap[gb182]? = some (.cells #[.int .i64 a0_0, .int .i64 a0_1, (.slice A0_2 l0_2.length c0_2), (.slice A0_3 l0_3.length c0_3)] 25 (0, 0))) ∧ Aside0 (Below w.heap.size w wc))
 case first =>
  have H := HC3.out
  clear HC3
  replace H := Option.bind_eq_some_iff.mp H
  obtain ⟨t183, A50, H⟩ := H
  replace H : (if t183 = 0 then (if a1 < 0 then (dfa_Count.j0 k a1 true a0_0 a0_1 l0_2 l0_3) else (dfa_Count.j0 k a1 (decide (a1 > 10000)) a0_0 a0_1 l0_2 l0_3)) else (dfa_Count.j0 k a1 true a0_0 a0_1 l0_2 l0_3)) = some r := H
  have A5 := Aside0.mk A50
  clear A50
  by_cases c6 : t183 = 0
  (focus
  rw [if_pos c6] at H
  have c6b0 : (t183 == 0) = true := beq_iff_eq.mpr c6
  have c6b1 : (t183 != 0) = false := bne_eq_false_iff_eq.mpr c6
  clear c6
  (first | rw [c6b0] | (simp only [i64_w, i32_w]; rw [c6b0]) | skip)
  by_cases c7 : a1 < 0
  (focus
  rw [if_pos c7] at H
  have c7b0 : decide (a1 < 0) = true := decide_eq_true c7
  clear c7
  have H' := Aside0.mk H
  clear H
  have hcz8_0 : w4.cell? ⟨gb182, 0, none⟩ = some (.int .i64 a0_0) := (blk_cell BK182.out 0).trans rfl
  have hcz8_1 : w4.cell? ⟨gb182, 1, none⟩ = some (.int .i64 a0_1) := (blk_cell BK182.out 1).trans rfl
  have hcz8_2 : w4.cell? ⟨gb182, 2, none⟩ = some (.slice A0_2 l0_2.length c0_2) := (blk_cell BK182.out 2).trans rfl
  have hcz8_3 : w4.cell? ⟨gb182, 3, none⟩ = some (.slice A0_3 l0_3.length c0_3) := (blk_cell BK182.out 3).trans rfl
  have hfz8_0 := blk_frozen BK182.out 0
  have hfz8_1 := blk_frozen BK182.out 1
  have hfz8_2 := blk_frozen BK182.out 2
  have hfz8_3 := blk_frozen BK182.out 3
  go_wp2_with (first | ((with_reducible refine gate_callee (f := 14) rfl ?_); refine goesL_ (some 15) rfl rfl Try.func14 (by kernel_rfl) rfl #[.agg #[.int .i64 a0_0, .int .i64 a0_1, .slice A0_2 l0_2.length c0_2, .slice A0_3 l0_3.length c0_3]] rfl (by (try simp only [List.map_toArray, List.map_cons, List.map_nil]); first | done | rfl | (simp only [List.length_drop, List.length_take]; rfl)) ?_; (with_reducible refine (dfa_Validate.calls k a0_0 a0_1 _ _ l0_2 _ _ l0_3 t183 _ ?side1 ?side2 ?side3 ?side4 A5.out).mono ?_); (case side1 => repeat (first | exact (Kd.C_below HR0_2.out HB.out) | (with_reducible refine Kd.C_alloc ?_ _) | (with_reducible refine Kd.C_drewN ?_ _) | (with_reducible refine Kd.C_drew ?_))); (case side2 => exact HC0_2.out); (case side3 => repeat (first | exact (Kd.C_below HR0_3.out HB.out) | (with_reducible refine Kd.C_alloc ?_ _) | (with_reducible refine Kd.C_drewN ?_ _) | (with_reducible refine Kd.C_drew ?_))); (case side4 => exact HC0_3.out); rintro e w9 ⟨rfl, hb⟩; refine ⟨_, rfl, ?_⟩; have n0_ := Aside0.mk (blk_below (g := gb182) (o := .cells #[.int .i64 a0_0, .int .i64 a0_1, .slice A0_2 l0_2.length c0_2, .slice A0_3 l0_3.length c0_3] 25 (0, 0)) (uB BK182.out) hb); have n1_ := Aside0.mk (below_step (by repeat (first | (with_reducible first | exact HB.out | apply below_alloc | apply pw_below_drewN | apply below_drew1 | refine below_set ?_ GE182.out) | exact HB.out)) hb); clear BK182; clear HB; have BK182 := n0_; have HB := n1_; clear n0_ n1_; (try clear hb); (try clear hb2); (try clear hk); (try clear hi)))
  go_meet
  case rel => exact ⟨_, (true), (by first | rfl | (simp; done) | (simp [*]; done)), H', ⟨by first | omega | exact Nat.le_refl _⟩, ⟨by (with_reducible repeat (first | refine blk_drewN ?_ _ | refine blk_drew ?_ | refine blk_alloc ?_ _)); exact BK182.out⟩, ⟨by repeat (first | (with_reducible first | exact HB.out | apply below_alloc | apply pw_below_drewN | apply below_drew1 | refine below_set ?_ GE182.out) | exact HB.out)⟩⟩
  )
  (focus
  rw [if_neg c7] at H
  have c7b0 : decide (a1 < 0) = false := decide_eq_false c7
  clear c7
  have H' := Aside0.mk H
  clear H
  have hcz10_0 : w4.cell? ⟨gb182, 0, none⟩ = some (.int .i64 a0_0) := (blk_cell BK182.out 0).trans rfl
  have hcz10_1 : w4.cell? ⟨gb182, 1, none⟩ = some (.int .i64 a0_1) := (blk_cell BK182.out 1).trans rfl
  have hcz10_2 : w4.cell? ⟨gb182, 2, none⟩ = some (.slice A0_2 l0_2.length c0_2) := (blk_cell BK182.out 2).trans rfl
  have hcz10_3 : w4.cell? ⟨gb182, 3, none⟩ = some (.slice A0_3 l0_3.length c0_3) := (blk_cell BK182.out 3).trans rfl
  have hfz10_0 := blk_frozen BK182.out 0
  have hfz10_1 := blk_frozen BK182.out 1
  have hfz10_2 := blk_frozen BK182.out 2
  have hfz10_3 := blk_frozen BK182.out 3
  go_wp2_with (first | ((with_reducible refine gate_callee (f := 14) rfl ?_); refine goesL_ (some 15) rfl rfl Try.func14 (by kernel_rfl) rfl #[.agg #[.int .i64 a0_0, .int .i64 a0_1, .slice A0_2 l0_2.length c0_2, .slice A0_3 l0_3.length c0_3]] rfl (by (try simp only [List.map_toArray, List.map_cons, List.map_nil]); first | done | rfl | (simp only [List.length_drop, List.length_take]; rfl)) ?_; (with_reducible refine (dfa_Validate.calls k a0_0 a0_1 _ _ l0_2 _ _ l0_3 t183 _ ?side1 ?side2 ?side3 ?side4 A5.out).mono ?_); (case side1 => repeat (first | exact (Kd.C_below HR0_2.out HB.out) | (with_reducible refine Kd.C_alloc ?_ _) | (with_reducible refine Kd.C_drewN ?_ _) | (with_reducible refine Kd.C_drew ?_))); (case side2 => exact HC0_2.out); (case side3 => repeat (first | exact (Kd.C_below HR0_3.out HB.out) | (with_reducible refine Kd.C_alloc ?_ _) | (with_reducible refine Kd.C_drewN ?_ _) | (with_reducible refine Kd.C_drew ?_))); (case side4 => exact HC0_3.out); rintro e w11 ⟨rfl, hb⟩; refine ⟨_, rfl, ?_⟩; have n0_ := Aside0.mk (blk_below (g := gb182) (o := .cells #[.int .i64 a0_0, .int .i64 a0_1, .slice A0_2 l0_2.length c0_2, .slice A0_3 l0_3.length c0_3] 25 (0, 0)) (uB BK182.out) hb); have n1_ := Aside0.mk (below_step (by repeat (first | (with_reducible first | exact HB.out | apply below_alloc | apply pw_below_drewN | apply below_drew1 | refine below_set ?_ GE182.out) | exact HB.out)) hb); clear BK182; clear HB; have BK182 := n0_; have HB := n1_; clear n0_ n1_; (try clear hb); (try clear hb2); (try clear hk); (try clear hi)))
  go_meet
  case rel => exact ⟨_, (decide (a1 > 10000)), (by first | rfl | (simp; done) | (simp [*]; done)), H', ⟨by first | omega | exact Nat.le_refl _⟩, ⟨by (with_reducible repeat (first | refine blk_drewN ?_ _ | refine blk_drew ?_ | refine blk_alloc ?_ _)); exact BK182.out⟩, ⟨by repeat (first | (with_reducible first | exact HB.out | apply below_alloc | apply pw_below_drewN | apply below_drew1 | refine below_set ?_ GE182.out) | exact HB.out)⟩⟩
  )
  )
  (focus
  rw [if_neg c6] at H
  have c6b0 : (t183 == 0) = false := beq_eq_false_iff_ne.mpr c6
  have c6b1 : (t183 != 0) = true := bne_iff_ne.mpr c6
  (first | rw [c6b0] | (simp only [i64_w, i32_w]; rw [c6b0]) | skip)
  have H' := Aside0.mk H
  clear H
  have hcz12_0 : w4.cell? ⟨gb182, 0, none⟩ = some (.int .i64 a0_0) := (blk_cell BK182.out 0).trans rfl
  have hcz12_1 : w4.cell? ⟨gb182, 1, none⟩ = some (.int .i64 a0_1) := (blk_cell BK182.out 1).trans rfl
  have hcz12_2 : w4.cell? ⟨gb182, 2, none⟩ = some (.slice A0_2 l0_2.length c0_2) := (blk_cell BK182.out 2).trans rfl
  have hcz12_3 : w4.cell? ⟨gb182, 3, none⟩ = some (.slice A0_3 l0_3.length c0_3) := (blk_cell BK182.out 3).trans rfl
  have hfz12_0 := blk_frozen BK182.out 0
  have hfz12_1 := blk_frozen BK182.out 1
  have hfz12_2 := blk_frozen BK182.out 2
  have hfz12_3 := blk_frozen BK182.out 3
  go_wp2_with (first | ((with_reducible refine gate_callee (f := 14) rfl ?_); refine goesL_ (some 15) rfl rfl Try.func14 (by kernel_rfl) rfl #[.agg #[.int .i64 a0_0, .int .i64 a0_1, .slice A0_2 l0_2.length c0_2, .slice A0_3 l0_3.length c0_3]] rfl (by (try simp only [List.map_toArray, List.map_cons, List.map_nil]); first | done | rfl | (simp only [List.length_drop, List.length_take]; rfl)) ?_; (with_reducible refine (dfa_Validate.calls k a0_0 a0_1 _ _ l0_2 _ _ l0_3 t183 _ ?side1 ?side2 ?side3 ?side4 A5.out).mono ?_); (case side1 => repeat (first | exact (Kd.C_below HR0_2.out HB.out) | (with_reducible refine Kd.C_alloc ?_ _) | (with_reducible refine Kd.C_drewN ?_ _) | (with_reducible refine Kd.C_drew ?_))); (case side2 => exact HC0_2.out); (case side3 => repeat (first | exact (Kd.C_below HR0_3.out HB.out) | (with_reducible refine Kd.C_alloc ?_ _) | (with_reducible refine Kd.C_drewN ?_ _) | (with_reducible refine Kd.C_drew ?_))); (case side4 => exact HC0_3.out); rintro e w13 ⟨rfl, hb⟩; refine ⟨_, rfl, ?_⟩; have n0_ := Aside0.mk (blk_below (g := gb182) (o := .cells #[.int .i64 a0_0, .int .i64 a0_1, .slice A0_2 l0_2.length c0_2, .slice A0_3 l0_3.length c0_3] 25 (0, 0)) (uB BK182.out) hb); have n1_ := Aside0.mk (below_step (by repeat (first | (with_reducible first | exact HB.out | apply below_alloc | apply pw_below_drewN | apply below_drew1 | refine below_set ?_ GE182.out) | exact HB.out)) hb); clear BK182; clear HB; have BK182 := n0_; have HB := n1_; clear n0_ n1_; (try clear hb); (try clear hb2); (try clear hk); (try clear hi)))
  go_meet
  case rel => exact ⟨_, (true), (by first | rfl | (simp; done) | (simp [*]; done)), H', ⟨by first | omega | exact Nat.le_refl _⟩, ⟨by (with_reducible repeat (first | refine blk_drewN ?_ _ | refine blk_drew ?_ | refine blk_alloc ?_ _)); exact BK182.out⟩, ⟨by repeat (first | (with_reducible first | exact HB.out | apply below_alloc | apply pw_below_drewN | apply below_drew1 | refine below_set ?_ GE182.out) | exact HB.out)⟩⟩
  )
 case rest =>
  clear HC3
  try clear c1
  try clear c2
  try clear p2
  try clear c6
  try clear c6b0
  try clear c6b1
  try clear c7
  try clear c7b0
  try clear hcz10_0
  try clear hcz10_1
  try clear hcz10_2
  try clear hcz10_3
  try clear hcz12_0
  try clear hcz12_1
  try clear hcz12_2
  try clear hcz12_3
  try clear hcz8_0
  try clear hcz8_1
  try clear hcz8_2
  try clear hcz8_3
  try clear hfz10_0
  try clear hfz10_1
  try clear hfz10_2
  try clear hfz10_3
  try clear hfz12_0
  try clear hfz12_1
  try clear hfz12_2
  try clear hfz12_3
  try clear hfz8_0
  try clear hfz8_1
  try clear hfz8_2
  try clear hfz8_3
  obtain ⟨kq, x24_2, rfl, HA, HJ2, BK182, HB⟩ := hcut
  cases kq with
  | zero => exact absurd HA.out (by simp [dfa_Count.j0])
  | succ kj2 =>
   have H := HA.out
   clear HA
   simp only [dfa_Count.j0] at H
   by_cases c14 : x24_2 = true
   (focus
   subst c14
   have H1 : (some 0) = some r := by rw [if_pos rfl] at H; exact H
   clear H
   have H := H1
   clear H1
   obtain rfl := Option.some.inj H
   go_wp2
   go_ret
   exact ⟨by first | rfl | (simp [errW_none, errW_some] <;> rfl) | (simp [*, errW_none, errW_some] <;> rfl), by repeat (first | (with_reducible first | exact HB.out | apply below_alloc | apply pw_below_drewN | apply below_drew1 | refine below_set ?_ GE182.out) | exact HB.out)⟩
   )
   (focus
   replace c14 := Bool.eq_false_iff.mpr c14
   subst c14
   have H1 : (if 0 ≤ (l0_2.length : Int) then (if ((l0_2.length : Int) : Int).toNat ≤ 35184372088832 then ((some (List.replicate ((l0_2.length : Int) : Int).toNat 0 : List Int)).bind fun y184 => (if 0 ≤ a0_1 then (if a0_1 < (y184.length : Int) then (dfa_Count.l0 kj2 a1 (y184.set (a0_1 : Int).toNat 1) a0_0 a0_1 l0_2 l0_3) else (none)) else (none))) else (none)) else (none)) = some r := by rw [if_neg (show ¬ (false = true) by decide)] at H; exact H
   clear H
   have H := H1
   clear H1
   by_cases c15 : 0 ≤ (l0_2.length : Int)
   (focus
   rw [if_pos c15] at H
   have c15b0 := eq_true c15
   have c15b1 : decide (0 ≤ (l0_2.length : Int)) = true := decide_eq_true c15
   clear c15
   by_cases c16 : ((l0_2.length : Int) : Int).toNat ≤ 35184372088832
   (focus
   rw [if_pos c16] at H
   have c16b0 := eq_true c16
   have c16b1 : decide (((l0_2.length : Int) : Int).toNat ≤ 35184372088832) = true := decide_eq_true c16
   clear c16
   obtain ⟨y184, hy184⟩ : ∃ y_ : List Int, y_ = (List.replicate ((l0_2.length : Int) : Int).toNat 0) := ⟨_, rfl⟩
   replace H : (if 0 ≤ a0_1 then (if a0_1 < (y184.length : Int) then (dfa_Count.l0 kj2 a1 (y184.set (a0_1 : Int).toNat 1) a0_0 a0_1 l0_2 l0_3) else (none)) else (none)) = some r := by first | (rw [hy184]; with_reducible exact H) | (have H2_ := (Option.bind_some _ _).symm.trans H; rw [hy184]; with_reducible exact H2_) | (have H2_ := (Option.bind_some _ _).symm.trans H; with_reducible exact H2_) | with_reducible exact H | (rw [hy184]; exact H) | exact H
   have Ny184 := Aside0.mk hy184
   clear hy184
   by_cases c17 : 0 ≤ a0_1
   (focus
   rw [if_pos c17] at H
   have c17b0 : decide (0 ≤ a0_1) = true := decide_eq_true c17
   clear c17
   by_cases c18 : a0_1 < (y184.length : Int)
   (focus
   rw [if_pos c18] at H
   have c18b0 : decide (a0_1 < (y184.length : Int)) = true := decide_eq_true c18
   clear c18
   obtain ⟨y187, hy187⟩ : ∃ y_ : List Int, y_ = (y184.set (a0_1 : Int).toNat 1) := ⟨_, rfl⟩
   replace H : (dfa_Count.l0 kj2 a1 y187 a0_0 a0_1 l0_2 l0_3) = some r := by first | (rw [hy187]; with_reducible exact H) | (have H2_ := (Option.bind_some _ _).symm.trans H; rw [hy187]; with_reducible exact H2_) | (have H2_ := (Option.bind_some _ _).symm.trans H; with_reducible exact H2_) | with_reducible exact H | (rw [hy187]; exact H) | exact H
   have Ny187 := Aside0.mk hy187
   clear hy187
   have H' := Aside0.mk H
   clear H
   have hcz20_0 : wc.cell? ⟨gb182, 0, none⟩ = some (.int .i64 a0_0) := (blk_cell BK182.out 0).trans rfl
   have hcz20_1 : wc.cell? ⟨gb182, 1, none⟩ = some (.int .i64 a0_1) := (blk_cell BK182.out 1).trans rfl
   have hcz20_2 : wc.cell? ⟨gb182, 2, none⟩ = some (.slice A0_2 l0_2.length c0_2) := (blk_cell BK182.out 2).trans rfl
   have hcz20_3 : wc.cell? ⟨gb182, 3, none⟩ = some (.slice A0_3 l0_3.length c0_3) := (blk_cell BK182.out 3).trans rfl
   have hfz20_0 := blk_frozen BK182.out 0
   have hfz20_1 := blk_frozen BK182.out 1
   have hfz20_2 := blk_frozen BK182.out 2
   have hfz20_3 := blk_frozen BK182.out 3
   go_wp2_with (first | ((with_reducible refine gate_dst (N := 28) rfl ?_); refine Kd.R_make (Kd.int .i64) _ 3 rfl (N := 28) rfl 38 _ _ rfl (l0_2.length : Int) rfl rfl Try.underlying38 (.int .i64 0) 8 info3 rfl (by decide) (by omega) 0 (ok := fun _ => True) (okp := fun _ => True) rfl (fun _ hk => hk) trivial (of_decide_eq_true (by first | (with_reducible assumption) | assumption)) (Nat.le_trans (Nat.mul_le_mul_right _ (of_decide_eq_true (by first | (with_reducible assumption) | assumption) : (l0_2.length : Int).toNat ≤ 35184372088832)) (by omega)) (Below.refl _ _) (Nat.le_refl _) ?_; intro v185 w21 ho22 hb hg_ hnew_; clear hg_ hnew_; (first | rw [← Ny184.out] at ho22 | (simp only [Int.reduceToNat] at ho22; rw [← Ny184.out] at ho22)); have n0_ := Aside0.mk (Kd.R_lower ho22 (below_size (by repeat (first | (with_reducible first | exact HB.out | apply below_alloc | apply pw_below_drewN | apply below_drew1 | refine below_set ?_ GE182.out) | exact HB.out)))); have n1_ := Aside0.mk (blk_below (g := gb182) (o := .cells #[.int .i64 a0_0, .int .i64 a0_1, .slice A0_2 l0_2.length c0_2, .slice A0_3 l0_3.length c0_3] 25 (0, 0)) (uB BK182.out) hb); have n2_ := Aside0.mk (below_step (by repeat (first | (with_reducible first | exact HB.out | apply below_alloc | apply pw_below_drewN | apply below_drew1 | refine below_set ?_ GE182.out) | exact HB.out)) hb); clear BK182; clear HB; have HO186 := n0_; have BK182 := n1_; have HB := n2_; clear n0_ n1_ n2_; clear hb ho22; have hcz23_0 : w21.cell? ⟨gb182, 0, none⟩ = some (.int .i64 a0_0) := (blk_cell BK182.out 0).trans rfl; have hcz23_1 : w21.cell? ⟨gb182, 1, none⟩ = some (.int .i64 a0_1) := (blk_cell BK182.out 1).trans rfl; have hcz23_2 : w21.cell? ⟨gb182, 2, none⟩ = some (.slice A0_2 l0_2.length c0_2) := (blk_cell BK182.out 2).trans rfl; have hcz23_3 : w21.cell? ⟨gb182, 3, none⟩ = some (.slice A0_3 l0_3.length c0_3) := (blk_cell BK182.out 3).trans rfl; have hfz23_0 := blk_frozen BK182.out 0; have hfz23_1 := blk_frozen BK182.out 1; have hfz23_2 := blk_frozen BK182.out 2; have hfz23_3 := blk_frozen BK182.out 3; have p19 : 0 ≤ (a0_1 : Int) := of_decide_eq_true (by first | (with_reducible assumption) | assumption); have q19 : (a0_1 : Int) < ((y184.length : Int) : Int) := of_decide_eq_true (by first | (with_reducible assumption) | assumption); obtain ⟨go19, co19, eo19, gb19, gl19, cl19, HG19⟩ := Kd.R_form HO186.out (by first | omega | (have e_ := (Kd.R_reads' HO186.out).1; omega)); (first | cases eo19 | (injection eo19 with ea_ en_ ec_; (first | subst ea_ | (injection ea_ with ea_; subst ea_)); subst ec_; clear en_)); have GB19 := Aside0.mk gb19; have GG19 := Aside0.mk HG19; clear gb19 gl19 HG19; obtain ⟨hx19_0, hf19_0⟩ := Kd.R_celln 0 HO186.out (a0_1 : Int) p19 q19; replace p19 := eq_true p19; replace q19 := eq_true q19; obtain ⟨hy24_, hz24_⟩ := Kd.R_celln 0 HO186.out (a0_1 : Int) (of_decide_eq_true (by first | (with_reducible assumption) | assumption)) (of_decide_eq_true (by first | (with_reducible assumption) | assumption)); have HP24 := Kd.R_putg HO186.out (a0_1 : Int) 1) | ((with_reducible refine gate_store (t := 3) (p := 32) rfl ?_); refine store_event (t := 3) (p := 32) (v := ?vo_w25) (w1 := (w21.setCell ⟨go19, (a0_1 : Int).toNat, none⟩ (.int .i64 1))) ?hg ?ho ?hn ?hr ?_; (case ho => rfl); (case hg => rfl); (case hn => rfl); (case hr => first | (go_simp; done) | (go_simp; rfl)); intro w25 hw; have hg : w21.grownBy w25 (some go19) := (by rw [hw]; exact HP24.2); have hp_ : Kd.R (Kd.int .i64) 3 w25 w.heap.size (fun _ => True) (.slice (some ⟨go19, 0, none⟩) y184.length co19) y187 := (by rw [hw, Ny187.out]; exact HP24.1); clear HP24; have n0_ := Aside0.mk (blk_grown (g := gb182) (o := .cells #[.int .i64 a0_0, .int .i64 a0_1, .slice A0_2 l0_2.length c0_2, .slice A0_3 l0_3.length c0_3] 25 (0, 0)) (uB BK182.out) hg (Kd.R_ne HO186.out BK182.out (by decide))); have n1_ := Aside0.mk (hp_); have n2_ := Aside0.mk ((by rw [hw]; exact below_set (HB.out) GB19.out : Below w.heap.size w w25)); clear BK182; clear HO186; clear HB; have BK182 := n0_; have HO186 := n1_; have HB := n2_; clear n0_ n1_ n2_; clear hg hw hp_))
   go_loopg [1, 5] kj2 (fun kq v1 v5 w' => ∃ (x1_2 : Int) (x5_2 : List Int), v1 = .int .i64 x1_2 ∧ Aside0 (dfa_Count.l0 kq x1_2 x5_2 a0_0 a0_1 l0_2 l0_3 = some r) ∧ Aside0 (kq ≤ kj2) ∧ Aside0 (Kd.R (Kd.int .i64) 3 w' w.heap.size (fun _ => True) v5 x5_2) ∧ Aside0 (w'.heap[gb182]? = some (.cells #[.int .i64 a0_0, .int .i64 a0_1, (.slice A0_2 l0_2.length c0_2), (.slice A0_3 l0_3.length c0_3)] 25 (0, 0))) ∧ Aside0 (Below w.heap.size w w'))
   case atStart => exact ⟨(a1), (y187), (by first | rfl | (simp; done) | (simp [*]; done)), H', ⟨Nat.le_refl _⟩, ⟨by (with_reducible repeat (first | apply Kd.R_alloc | apply Kd.R_drewN | apply Kd.R_drew)); exact HO186.out⟩, ⟨by (with_reducible repeat (first | refine blk_drewN ?_ _ | refine blk_drew ?_ | refine blk_alloc ?_ _)); exact BK182.out⟩, ⟨by repeat (first | (with_reducible first | exact HB.out | apply below_alloc | apply pw_below_drewN | apply below_drew1 | refine below_set ?_ GE182.out) | exact HB.out)⟩⟩
   case round =>
    clear H'
    try clear c1
    try clear p1
    try clear q1
    try clear hx1
    try clear c2
    try clear p2
    try clear c6
    try clear c6b0
    try clear c6b1
    try clear c7
    try clear c7b0
    try clear c14
    try clear c15
    try clear c15b0
    try clear c15b1
    try clear c16
    try clear c16b0
    try clear c16b1
    try clear c17
    try clear c17b0
    try clear c18
    try clear c18b0
    try clear p19
    try clear q19
    try clear hx19
    try clear hf19
    try clear c21
    try clear hcz10_0
    try clear hcz10_1
    try clear hcz10_2
    try clear hcz10_3
    try clear hcz12_0
    try clear hcz12_1
    try clear hcz12_2
    try clear hcz12_3
    try clear hcz20_0
    try clear hcz20_1
    try clear hcz20_2
    try clear hcz20_3
    try clear hcz23_0
    try clear hcz23_1
    try clear hcz23_2
    try clear hcz23_3
    try clear hcz8_0
    try clear hcz8_1
    try clear hcz8_2
    try clear hcz8_3
    try clear hfz10_0
    try clear hfz10_1
    try clear hfz10_2
    try clear hfz10_3
    try clear hfz12_0
    try clear hfz12_1
    try clear hfz12_2
    try clear hfz12_3
    try clear hfz20_0
    try clear hfz20_1
    try clear hfz20_2
    try clear hfz20_3
    try clear hfz23_0
    try clear hfz23_1
    try clear hfz23_2
    try clear hfz23_3
    try clear hfz8_0
    try clear hfz8_1
    try clear hfz8_2
    try clear hfz8_3
    try clear hx19_0
    try clear p19
    try clear p2
    try clear q19
    obtain ⟨x1_2, x5_2, rfl, HA, HK2, HO_5, BK182, HB⟩ := hrel
    cases gk with
    | zero => exact absurd HA.out (by simp [dfa_Count.l0])
    | succ k2 =>
     have H := HA.out
     clear HA
     simp only [dfa_Count.l0] at H
     by_cases c26 : x1_2 > 0
     (focus
     rw [if_pos c26] at H
     have c26b0 : decide (0 < x1_2) = true := decide_eq_true c26
     clear c26
     by_cases c27 : 0 ≤ (x5_2.length : Int)
     (focus
     rw [if_pos c27] at H
     have c27b0 := eq_true c27
     have c27b1 : decide (0 ≤ (x5_2.length : Int)) = true := decide_eq_true c27
     clear c27
     by_cases c28 : ((x5_2.length : Int) : Int).toNat ≤ 35184372088832
     (focus
     rw [if_pos c28] at H
     have c28b0 := eq_true c28
     have c28b1 : decide (((x5_2.length : Int) : Int).toNat ≤ 35184372088832) = true := decide_eq_true c28
     clear c28
     obtain ⟨y188, hy188⟩ : ∃ y_ : List Int, y_ = (List.replicate ((x5_2.length : Int) : Int).toNat 0) := ⟨_, rfl⟩
     replace H : (dfa_Count.l1 k2 x1_2 y188 x5_2 (x5_2.length : Int) 0 a0_0 a0_1 l0_2 l0_3) = some r := by first | (rw [hy188]; with_reducible exact H) | (have H2_ := (Option.bind_some _ _).symm.trans H; rw [hy188]; with_reducible exact H2_) | (have H2_ := (Option.bind_some _ _).symm.trans H; with_reducible exact H2_) | with_reducible exact H | (rw [hy188]; exact H) | exact H
     have Ny188 := Aside0.mk hy188
     clear hy188
     have H' := Aside0.mk H
     clear H
     obtain ⟨Ao29, co29, eo29⟩ := Kd.R_slice HO_5.out
     subst eo29
     go_wp2_with (first | ((with_reducible refine gate_dst (N := 39) rfl ?_); refine Kd.R_make (Kd.int .i64) _ 3 rfl (N := 39) rfl 38 _ _ rfl (x5_2.length : Int) rfl rfl Try.underlying38 (.int .i64 0) 8 info3 rfl (by decide) (by omega) 0 (ok := fun _ => True) (okp := fun _ => True) rfl (fun _ hk => hk) trivial (of_decide_eq_true (by first | (with_reducible assumption) | assumption)) (Nat.le_trans (Nat.mul_le_mul_right _ (of_decide_eq_true (by first | (with_reducible assumption) | assumption) : (x5_2.length : Int).toNat ≤ 35184372088832)) (by omega)) (Below.refl _ _) (Nat.le_refl _) ?_; intro v189 w30 ho31 hb hg_ hnew_; clear hg_ hnew_; (first | rw [← Ny188.out] at ho31 | (simp only [Int.reduceToNat] at ho31; rw [← Ny188.out] at ho31)); have n0_ := Aside0.mk (Kd.R_elder' (uR HO_5.out) (Kd.R_base ho31) hb); have n1_ := Aside0.mk (Kd.R_lower (Kd.R_new' ho31 (Kd.R_lt (uR HO_5.out))) (below_size (by repeat (first | (with_reducible first | exact HB.out | apply below_alloc | apply pw_below_drewN | apply below_drew1 | refine below_set ?_ GE182.out) | exact HB.out)))); have n2_ := Aside0.mk (blk_below (g := gb182) (o := .cells #[.int .i64 a0_0, .int .i64 a0_1, .slice A0_2 l0_2.length c0_2, .slice A0_3 l0_3.length c0_3] 25 (0, 0)) (uB BK182.out) hb); have n3_ := Aside0.mk (below_step (by repeat (first | (with_reducible first | exact HB.out | apply below_alloc | apply pw_below_drewN | apply below_drew1 | refine below_set ?_ GE182.out) | exact HB.out)) hb); clear HO_5; clear BK182; clear HB; have HO_5 := n0_; have HO190 := n1_; have BK182 := n2_; have HB := n3_; clear n0_ n1_ n2_ n3_; clear hb ho31))
     go_loopg [42] k2 (fun kq v42 w' => ∃ (x6_3 : List Int) (x42_3 : Int), v42 = .int .i64 x42_3 ∧ Aside0 (dfa_Count.l1 kq x1_2 x6_3 x5_2 (x5_2.length : Int) x42_3 a0_0 a0_1 l0_2 l0_3 = some r) ∧ Aside0 (kq ≤ k2) ∧ Aside0 (Kd.R (Kd.int .i64) 3 w' w.heap.size (fun k_ => some k_ ≠ ((.slice Ao29 x5_2.length co29) : Value).ownBlock) v189 x6_3) ∧ Aside0 (Kd.R (Kd.int .i64) 3 w' w.heap.size (fun k_ => some k_ ≠ (v189 : Value).ownBlock) (.slice Ao29 x5_2.length co29) x5_2) ∧ Aside0 (w'.heap[gb182]? = some (.cells #[.int .i64 a0_0, .int .i64 a0_1, (.slice A0_2 l0_2.length c0_2), (.slice A0_3 l0_3.length c0_3)] 25 (0, 0))) ∧ Aside0 (Below w.heap.size w w'))
     case atStart => exact ⟨(y188), (0), (by first | rfl | (simp; done) | (simp [*]; done)), H', ⟨Nat.le_refl _⟩, ⟨by (with_reducible repeat (first | apply Kd.R_alloc | apply Kd.R_drewN | apply Kd.R_drew)); exact Kd.R_mono HO190.out (fun _ hk => hk.2)⟩, ⟨by (with_reducible repeat (first | apply Kd.R_alloc | apply Kd.R_drewN | apply Kd.R_drew)); exact Kd.R_mono HO_5.out (fun _ hk => hk.2)⟩, ⟨by (with_reducible repeat (first | refine blk_drewN ?_ _ | refine blk_drew ?_ | refine blk_alloc ?_ _)); exact BK182.out⟩, ⟨by repeat (first | (with_reducible first | exact HB.out | apply below_alloc | apply pw_below_drewN | apply below_drew1 | refine below_set ?_ GE182.out) | exact HB.out)⟩⟩
     case round =>
      clear H'
      try clear c1
      try clear p1
      try clear q1
      try clear hx1
      try clear c2
      try clear p2
      try clear c6
      try clear c6b0
      try clear c6b1
      try clear c7
      try clear c7b0
      try clear c14
      try clear c15
      try clear c15b0
      try clear c15b1
      try clear c16
      try clear c16b0
      try clear c16b1
      try clear c17
      try clear c17b0
      try clear c18
      try clear c18b0
      try clear p19
      try clear q19
      try clear hx19
      try clear hf19
      try clear c21
      try clear c26
      try clear c26b0
      try clear c27
      try clear c27b0
      try clear c27b1
      try clear c28
      try clear c28b0
      try clear c28b1
      try clear hcz10_0
      try clear hcz10_1
      try clear hcz10_2
      try clear hcz10_3
      try clear hcz12_0
      try clear hcz12_1
      try clear hcz12_2
      try clear hcz12_3
      try clear hcz20_0
      try clear hcz20_1
      try clear hcz20_2
      try clear hcz20_3
      try clear hcz23_0
      try clear hcz23_1
      try clear hcz23_2
      try clear hcz23_3
      try clear hcz8_0
      try clear hcz8_1
      try clear hcz8_2
      try clear hcz8_3
      try clear hfz10_0
      try clear hfz10_1
      try clear hfz10_2
      try clear hfz10_3
      try clear hfz12_0
      try clear hfz12_1
      try clear hfz12_2
      try clear hfz12_3
      try clear hfz20_0
      try clear hfz20_1
      try clear hfz20_2
      try clear hfz20_3
      try clear hfz23_0
      try clear hfz23_1
      try clear hfz23_2
      try clear hfz23_3
      try clear hfz8_0
      try clear hfz8_1
      try clear hfz8_2
      try clear hfz8_3
      try clear hx19_0
      try clear p1
      try clear p19
      try clear p2
      try clear q1
      try clear q19
      obtain ⟨x6_3, x42_3, rfl, HA, HK3, HO_6, HO_40, BK182, HB⟩ := hrel
      cases gk with
      | zero => exact absurd HA.out (by simp [dfa_Count.l1])
      | succ k3 =>
       have H := HA.out
       clear HA
       simp only [dfa_Count.l1] at H
       by_cases c32 : x42_3 < (x5_2.length : Int)
       (focus
       rw [if_pos c32] at H
       have c32b0 : decide (x42_3 < (x5_2.length : Int)) = true := decide_eq_true c32
       clear c32
       by_cases c33 : 0 ≤ x42_3
       (focus
       rw [if_pos c33] at H
       have c33b0 : decide (0 ≤ x42_3) = true := decide_eq_true c33
       clear c33
       by_cases c34 : x42_3 < (x5_2.length : Int)
       (focus
       rw [if_pos c34] at H
       have c34b0 : decide (x42_3 < (x5_2.length : Int)) = true := decide_eq_true c34
       clear c34
       by_cases c35 : x42_3 < (l0_3.length : Int)
       (focus
       rw [if_pos c35] at H
       have c35b0 : decide (x42_3 < (l0_3.length : Int)) = true := decide_eq_true c35
       clear c35
       have H' := Aside0.mk H
       clear H
       have p191 : 0 ≤ (x42_3 : Int) := of_decide_eq_true (by first | (with_reducible assumption) | assumption)
       have q191 : x42_3 < (x5_2.length : Int) := of_decide_eq_true (by first | (with_reducible assumption) | assumption)
       obtain ⟨ad191, e191, hx191_0⟩ := Kd.at_int (Kd.R_reads' HO_40.out).2.2 x42_3 p191 q191
       cases e191
       replace p191 := eq_true p191
       replace q191 := eq_true q191
       have hcz36_0 : wr.cell? ⟨gb182, 0, none⟩ = some (.int .i64 a0_0) := (blk_cell BK182.out 0).trans rfl
       have hcz36_1 : wr.cell? ⟨gb182, 1, none⟩ = some (.int .i64 a0_1) := (blk_cell BK182.out 1).trans rfl
       have hcz36_2 : wr.cell? ⟨gb182, 2, none⟩ = some (.slice A0_2 l0_2.length c0_2) := (blk_cell BK182.out 2).trans rfl
       have hcz36_3 : wr.cell? ⟨gb182, 3, none⟩ = some (.slice A0_3 l0_3.length c0_3) := (blk_cell BK182.out 3).trans rfl
       have hfz36_0 := blk_frozen BK182.out 0
       have hfz36_1 := blk_frozen BK182.out 1
       have hfz36_2 := blk_frozen BK182.out 2
       have hfz36_3 := blk_frozen BK182.out 3
       have p192 : 0 ≤ (x42_3 : Int) := of_decide_eq_true (by first | (with_reducible assumption) | assumption)
       have q192 : x42_3 < (l0_3.length : Int) := of_decide_eq_true (by first | (with_reducible assumption) | assumption)
       obtain ⟨ad192, A192_0, c192_0, e192, hx192_0, hl192_0, hi192_0⟩ := at_L1 HR0_3.out x42_3 p192 q192
       cases e192
       (try replace hx192_0 := (HB.out.cell (World.block_lt_of_cell? w _ hx192_0)).trans hx192_0)
       have HR192_0 := Aside0.mk hi192_0
       have HC192_0 := Aside0.mk hl192_0
       clear hi192_0 hl192_0
       replace p192 := eq_true p192
       replace q192 := eq_true q192
       go_wp2
       go_loopg [53] k3 (fun kq v53 w' => ∃ (x6_4 : List Int) (x53_4 : Int), v53 = .int .i64 x53_4 ∧ Aside0 (dfa_Count.l2 kq x1_2 x6_4 (rd x5_2 x42_3) x5_2 (x5_2.length : Int) x42_3 (rd_L1 l0_3 x42_3) ((rd_L1 l0_3 x42_3).length : Int) x53_4 a0_0 a0_1 l0_2 l0_3 = some r) ∧ Aside0 (kq ≤ k3) ∧ Aside0 (Kd.R (Kd.int .i64) 3 w' w.heap.size (fun k_ => some k_ ≠ ((.slice (some ad191) x5_2.length co29) : Value).ownBlock) v189 x6_4) ∧ Aside0 (Kd.R (Kd.int .i64) 3 w' w.heap.size (fun k_ => some k_ ≠ (v189 : Value).ownBlock) (.slice (some ad191) x5_2.length co29) x5_2) ∧ Aside0 (w'.heap[gb182]? = some (.cells #[.int .i64 a0_0, .int .i64 a0_1, (.slice A0_2 l0_2.length c0_2), (.slice (some ad192) l0_3.length c0_3)] 25 (0, 0))) ∧ Aside0 (Below w.heap.size w w'))
       case atStart => exact ⟨(x6_3), (0), (by first | rfl | (simp; done) | (simp [*]; done)), H', ⟨Nat.le_refl _⟩, ⟨by (with_reducible repeat (first | apply Kd.R_alloc | apply Kd.R_drewN | apply Kd.R_drew)); exact HO_6.out⟩, ⟨by (with_reducible repeat (first | apply Kd.R_alloc | apply Kd.R_drewN | apply Kd.R_drew)); exact HO_40.out⟩, ⟨by (with_reducible repeat (first | refine blk_drewN ?_ _ | refine blk_drew ?_ | refine blk_alloc ?_ _)); exact BK182.out⟩, ⟨by repeat (first | (with_reducible first | exact HB.out | apply below_alloc | apply pw_below_drewN | apply below_drew1 | refine below_set ?_ GE182.out) | exact HB.out)⟩⟩
       case round =>
        clear H'
        try clear c1
        try clear p1
        try clear q1
        try clear hx1
        try clear c2
        try clear p2
        try clear c3
        try clear c6
        try clear c6b0
        try clear c6b1
        try clear c7
        try clear c7b0
        try clear c14
        try clear c15
        try clear c15b0
        try clear c15b1
        try clear c16
        try clear c16b0
        try clear c16b1
        try clear c17
        try clear c17b0
        try clear c18
        try clear c18b0
        try clear c19
        try clear p19
        try clear q19
        try clear hx19
        try clear hf19
        try clear c21
        try clear c26
        try clear c26b0
        try clear c27
        try clear c27b0
        try clear c27b1
        try clear c28
        try clear c28b0
        try clear c28b1
        try clear c32
        try clear c32b0
        try clear c33
        try clear c33b0
        try clear c34
        try clear c34b0
        try clear c35
        try clear c35b0
        try clear hcz10_0
        try clear hcz10_1
        try clear hcz10_2
        try clear hcz10_3
        try clear hcz12_0
        try clear hcz12_1
        try clear hcz12_2
        try clear hcz12_3
        try clear hcz20_0
        try clear hcz20_1
        try clear hcz20_2
        try clear hcz20_3
        try clear hcz23_0
        try clear hcz23_1
        try clear hcz23_2
        try clear hcz23_3
        try clear hcz36_0
        try clear hcz36_1
        try clear hcz36_2
        try clear hcz36_3
        try clear hcz8_0
        try clear hcz8_1
        try clear hcz8_2
        try clear hcz8_3
        try clear hfz10_0
        try clear hfz10_1
        try clear hfz10_2
        try clear hfz10_3
        try clear hfz12_0
        try clear hfz12_1
        try clear hfz12_2
        try clear hfz12_3
        try clear hfz20_0
        try clear hfz20_1
        try clear hfz20_2
        try clear hfz20_3
        try clear hfz23_0
        try clear hfz23_1
        try clear hfz23_2
        try clear hfz23_3
        try clear hfz36_0
        try clear hfz36_1
        try clear hfz36_2
        try clear hfz36_3
        try clear hfz8_0
        try clear hfz8_1
        try clear hfz8_2
        try clear hfz8_3
        try clear hx191_0
        try clear hx192_0
        try clear hx19_0
        try clear p1
        try clear p19
        try clear p191
        try clear p192
        try clear p2
        try clear q1
        try clear q19
        try clear q191
        try clear q192
        obtain ⟨x6_4, x53_4, rfl, HA, HK4, HO_6, HO_40, BK182, HB⟩ := hrel
        cases gk with
        | zero => exact absurd HA.out (by simp [dfa_Count.l2])
        | succ k4 =>
         have H := HA.out
         clear HA
         simp only [dfa_Count.l2] at H
         by_cases c37 : x53_4 < ((rd_L1 l0_3 x42_3).length : Int)
         (focus
         rw [if_pos c37] at H
         have c37b0 : decide (x53_4 < ((rd_L1 l0_3 x42_3).length : Int)) = true := decide_eq_true c37
         clear c37
         by_cases c38 : 0 ≤ x53_4
         (focus
         rw [if_pos c38] at H
         have c38b0 : decide (0 ≤ x53_4) = true := decide_eq_true c38
         clear c38
         by_cases c39 : x53_4 < ((rd_L1 l0_3 x42_3).length : Int)
         (focus
         rw [if_pos c39] at H
         have c39b0 : decide (x53_4 < ((rd_L1 l0_3 x42_3).length : Int)) = true := decide_eq_true c39
         clear c39
         by_cases c40 : 0 ≤ (rd (rd_L1 l0_3 x42_3) x53_4)
         (focus
         rw [if_pos c40] at H
         have c40b0 : decide (0 ≤ (rd (rd_L1 l0_3 x42_3) x53_4)) = true := decide_eq_true c40
         clear c40
         by_cases c41 : (rd (rd_L1 l0_3 x42_3) x53_4) < (x6_4.length : Int)
         (focus
         rw [if_pos c41] at H
         have c41b0 : decide ((rd (rd_L1 l0_3 x42_3) x53_4) < (x6_4.length : Int)) = true := decide_eq_true c41
         clear c41
         obtain ⟨y195, hy195⟩ : ∃ y_ : List Int, y_ = (x6_4.set ((rd (rd_L1 l0_3 x42_3) x53_4) : Int).toNat (Int.tmod (wrap64 ((rd x6_4 (rd (rd_L1 l0_3 x42_3) x53_4)) + (rd x5_2 x42_3))) 2305843009213693951)) := ⟨_, rfl⟩
         replace H : (dfa_Count.l2 k4 x1_2 y195 (rd x5_2 x42_3) x5_2 (x5_2.length : Int) x42_3 (rd_L1 l0_3 x42_3) ((rd_L1 l0_3 x42_3).length : Int) (wrap64 (x53_4 + 1)) a0_0 a0_1 l0_2 l0_3) = some r := by first | (rw [hy195]; with_reducible exact H) | (have H2_ := (Option.bind_some _ _).symm.trans H; rw [hy195]; with_reducible exact H2_) | (have H2_ := (Option.bind_some _ _).symm.trans H; with_reducible exact H2_) | with_reducible exact H | (rw [hy195]; exact H) | exact H
         have Ny195 := Aside0.mk hy195
         clear hy195
         have H' := Aside0.mk H
         clear H
         have p193 : 0 ≤ (x53_4 : Int) := of_decide_eq_true (by first | (with_reducible assumption) | assumption)
         have q193 : x53_4 < ((rd_L1 l0_3 x42_3).length : Int) := of_decide_eq_true (by first | (with_reducible assumption) | assumption)
         obtain ⟨ad193, e193, hx193_0⟩ := Kd.at_int HR192_0.out x53_4 p193 q193
         cases e193
         (try replace hx193_0 := (HB.out.cell (World.block_lt_of_cell? w _ hx193_0)).trans hx193_0)
         replace p193 := eq_true p193
         replace q193 := eq_true q193
         obtain ⟨Ao43, co43, eo43⟩ := Kd.R_slice HO_6.out
         subst eo43
         have p194 : 0 ≤ ((rd (rd_L1 l0_3 x42_3) x53_4) : Int) := of_decide_eq_true (by first | (with_reducible assumption) | assumption)
         have q194 : (rd (rd_L1 l0_3 x42_3) x53_4) < (x6_4.length : Int) := of_decide_eq_true (by first | (with_reducible assumption) | assumption)
         obtain ⟨ad194, e194, hx194_0⟩ := Kd.at_int (Kd.R_reads' HO_6.out).2.2 (rd (rd_L1 l0_3 x42_3) x53_4) p194 q194
         cases e194
         replace p194 := eq_true p194
         replace q194 := eq_true q194
         have p42 : 0 ≤ ((rd (rd_L1 l0_3 x42_3) x53_4) : Int) := of_decide_eq_true (by first | (with_reducible assumption) | assumption)
         have q42 : ((rd (rd_L1 l0_3 x42_3) x53_4) : Int) < ((x6_4.length : Int) : Int) := of_decide_eq_true (by first | (with_reducible assumption) | assumption)
         obtain ⟨go42, co42, eo42, gb42, gl42, cl42, HG42⟩ := Kd.R_form HO_6.out (by first | omega | (have e_ := (Kd.R_reads' HO_6.out).1; omega))
         (first | cases eo42 | (injection eo42 with ea_ en_ ec_; (first | subst ea_ | (injection ea_ with ea_; subst ea_)); subst ec_; clear en_))
         have GB42 := Aside0.mk gb42
         have GG42 := Aside0.mk HG42
         clear gb42 gl42 HG42
         (first | simp only [add_plain] at hx194_0 | skip)
         (try simp only [Int.toNat_natCast] at hx194_0)
         obtain ⟨hx42_0, hf42_0⟩ := Kd.R_celln 0 HO_6.out ((rd (rd_L1 l0_3 x42_3) x53_4) : Int) p42 q42
         replace p42 := eq_true p42
         replace q42 := eq_true q42
         have HP44 := Kd.R_putg HO_6.out ((rd (rd_L1 l0_3 x42_3) x53_4) : Int) (Int.tmod (wrap64 ((rd x6_4 (rd (rd_L1 l0_3 x42_3) x53_4)) + (rd x5_2 x42_3))) 2305843009213693951)
         go_wp2_with (first | ((with_reducible refine gate_store (t := 3) (p := 66) rfl ?_); refine store_event (t := 3) (p := 66) (v := ?vo_w45) (w1 := (wr.setCell ⟨go42, ((rd (rd_L1 l0_3 x42_3) x53_4) : Int).toNat, none⟩ (.int .i64 (Int.tmod (wrap64 ((rd x6_4 (rd (rd_L1 l0_3 x42_3) x53_4)) + (rd x5_2 x42_3))) 2305843009213693951)))) ?hg ?ho ?hn ?hr ?_; (case ho => rfl); (case hg => rfl); (case hn => rfl); (case hr => first | (go_simp; done) | (go_simp; rfl)); intro w45 hw; have hg : wr.grownBy w45 (some go42) := (by rw [hw]; exact HP44.2); have hp_ : Kd.R (Kd.int .i64) 3 w45 w.heap.size (fun k_ => some k_ ≠ (.slice (some ad191) x5_2.length co29 : Value).ownBlock) (.slice (some ⟨go42, 0, none⟩) x6_4.length co43) y195 := (by rw [hw, Ny195.out]; exact HP44.1); clear HP44; have n0_ := Aside0.mk (hp_); have n1_ := Aside0.mk (Kd.R_after (v := (.slice (some ⟨go42, 0, none⟩) x6_4.length co43)) (v1 := (.slice (some ⟨go42, 0, none⟩) x6_4.length co43)) (ok := (fun _ => True)) (uR (Kd.R_mono HO_40.out (fun _ hk => ⟨trivial, hk⟩))) hg (.inl rfl)); have n2_ := Aside0.mk (blk_grown (g := gb182) (o := .cells #[.int .i64 a0_0, .int .i64 a0_1, .slice A0_2 l0_2.length c0_2, .slice (some ad192) l0_3.length c0_3] 25 (0, 0)) (uB BK182.out) hg (Kd.R_ne HO_6.out BK182.out (by decide))); have n3_ := Aside0.mk ((by rw [hw]; exact below_set (HB.out) GB42.out : Below w.heap.size w w45)); clear HO_6; clear HO_40; clear BK182; clear HB; have HO_6 := n0_; have HO_40 := n1_; have BK182 := n2_; have HB := n3_; clear n0_ n1_ n2_ n3_; clear hg hw hp_))
         go_roundg k4
         case measure => have := HJ2.out; have := HK2.out; have := HK3.out; have := HK4.out; omega
         case rel => exact ⟨(y195), (wrap64 (x53_4 + 1)), (by first | rfl | (simp; done) | (simp [*]; done)), H', ⟨by have := HJ2.out; have := HK2.out; have := HK3.out; have := HK4.out; omega⟩, ⟨by (with_reducible repeat (first | apply Kd.R_alloc | apply Kd.R_drewN | apply Kd.R_drew)); exact HO_6.out⟩, ⟨by (with_reducible repeat (first | apply Kd.R_alloc | apply Kd.R_drewN | apply Kd.R_drew)); exact Kd.R_mono HO_40.out (fun _ hk => hk.2)⟩, ⟨by (with_reducible repeat (first | refine blk_drewN ?_ _ | refine blk_drew ?_ | refine blk_alloc ?_ _)); exact BK182.out⟩, ⟨by repeat (first | (with_reducible first | exact HB.out | apply below_alloc | apply pw_below_drewN | apply below_drew1 | refine below_set ?_ GE182.out) | exact HB.out)⟩⟩
         )
         (focus
         rw [if_neg c41] at H
         exact absurd H (by simp)
         )
         )
         (focus
         rw [if_neg c40] at H
         exact absurd H (by simp)
         )
         )
         (focus
         rw [if_neg c39] at H
         exact absurd H (by simp)
         )
         )
         (focus
         rw [if_neg c38] at H
         exact absurd H (by simp)
         )
         )
         (focus
         rw [if_neg c37] at H
         have c37b0 : decide (x53_4 < ((rd_L1 l0_3 x42_3).length : Int)) = false := decide_eq_false c37
         clear c37
         have H' := Aside0.mk H
         clear H
         go_wp2
         go_roundg k4
         case measure => have := HJ2.out; have := HK2.out; have := HK3.out; have := HK4.out; omega
         case rel => exact ⟨(x6_4), (wrap64 (x42_3 + 1)), (by first | rfl | (simp; done) | (simp [*]; done)), H', ⟨by have := HJ2.out; have := HK2.out; have := HK3.out; have := HK4.out; omega⟩, ⟨by (with_reducible repeat (first | apply Kd.R_alloc | apply Kd.R_drewN | apply Kd.R_drew)); exact HO_6.out⟩, ⟨by (with_reducible repeat (first | apply Kd.R_alloc | apply Kd.R_drewN | apply Kd.R_drew)); exact HO_40.out⟩, ⟨by (with_reducible repeat (first | refine blk_drewN ?_ _ | refine blk_drew ?_ | refine blk_alloc ?_ _)); exact BK182.out⟩, ⟨by repeat (first | (with_reducible first | exact HB.out | apply below_alloc | apply pw_below_drewN | apply below_drew1 | refine below_set ?_ GE182.out) | exact HB.out)⟩⟩
         )
       )
       (focus
       rw [if_neg c35] at H
       exact absurd H (by simp)
       )
       )
       (focus
       rw [if_neg c34] at H
       exact absurd H (by simp)
       )
       )
       (focus
       rw [if_neg c33] at H
       exact absurd H (by simp)
       )
       )
       (focus
       rw [if_neg c32] at H
       have c32b0 : decide (x42_3 < (x5_2.length : Int)) = false := decide_eq_false c32
       clear c32
       have H' := Aside0.mk H
       clear H
       go_wp2
       go_roundg k3
       case measure => have := HJ2.out; have := HK2.out; have := HK3.out; omega
       case rel => exact ⟨(wrap64 (x1_2 - 1)), (x6_3), (by first | rfl | (simp; done) | (simp [*]; done)), H', ⟨by have := HJ2.out; have := HK2.out; have := HK3.out; omega⟩, ⟨by (with_reducible repeat (first | apply Kd.R_alloc | apply Kd.R_drewN | apply Kd.R_drew)); exact Kd.R_mono HO_6.out (fun _ hk => trivial)⟩, ⟨by (with_reducible repeat (first | refine blk_drewN ?_ _ | refine blk_drew ?_ | refine blk_alloc ?_ _)); exact BK182.out⟩, ⟨by repeat (first | (with_reducible first | exact HB.out | apply below_alloc | apply pw_below_drewN | apply below_drew1 | refine below_set ?_ GE182.out) | exact HB.out)⟩⟩
       )
     )
     (focus
     rw [if_neg c28] at H
     exact absurd H (by simp)
     )
     )
     (focus
     rw [if_neg c27] at H
     exact absurd H (by simp)
     )
     )
     (focus
     rw [if_neg c26] at H
     have c26b0 : decide (0 < x1_2) = false := decide_eq_false c26
     clear c26
     have H' := Aside0.mk H
     clear H
     obtain ⟨Ao46, co46, eo46⟩ := Kd.R_slice HO_5.out
     subst eo46
     go_wp2
     go_loopg [11, 72] k2 (fun kq v11 v72 w' => ∃ (x11_3 : Int) (x72_3 : Int), v11 = .int .i64 x11_3 ∧ v72 = .int .i64 x72_3 ∧ Aside0 (dfa_Count.l3 kq x11_3 x5_2 (x5_2.length : Int) x72_3 a0_0 a0_1 l0_2 l0_3 = some r) ∧ Aside0 (kq ≤ k2) ∧ Aside0 (Kd.R (Kd.int .i64) 3 w' w.heap.size (fun _ => True) (.slice Ao46 x5_2.length co46) x5_2) ∧ Aside0 (w'.heap[gb182]? = some (.cells #[.int .i64 a0_0, .int .i64 a0_1, (.slice A0_2 l0_2.length c0_2), (.slice A0_3 l0_3.length c0_3)] 25 (0, 0))) ∧ Aside0 (Below w.heap.size w w'))
     case atStart => exact ⟨(0), (0), (by first | rfl | (simp; done) | (simp [*]; done)), (by first | rfl | (simp; done) | (simp [*]; done)), H', ⟨Nat.le_refl _⟩, ⟨by (with_reducible repeat (first | apply Kd.R_alloc | apply Kd.R_drewN | apply Kd.R_drew)); exact HO_5.out⟩, ⟨by (with_reducible repeat (first | refine blk_drewN ?_ _ | refine blk_drew ?_ | refine blk_alloc ?_ _)); exact BK182.out⟩, ⟨by repeat (first | (with_reducible first | exact HB.out | apply below_alloc | apply pw_below_drewN | apply below_drew1 | refine below_set ?_ GE182.out) | exact HB.out)⟩⟩
     case round =>
      clear H'
      try clear c1
      try clear p1
      try clear q1
      try clear hx1
      try clear c2
      try clear p2
      try clear c3
      try clear c4
      try clear p4
      try clear q4
      try clear hx4
      try clear hf4
      try clear c6
      try clear c6b0
      try clear c6b1
      try clear p6
      try clear c7
      try clear c7b0
      try clear c14
      try clear c15
      try clear c15b0
      try clear c15b1
      try clear c16
      try clear c16b0
      try clear c16b1
      try clear c17
      try clear c17b0
      try clear c18
      try clear c18b0
      try clear c19
      try clear p19
      try clear q19
      try clear hx19
      try clear hf19
      try clear c21
      try clear c26
      try clear c26b0
      try clear c27
      try clear c27b0
      try clear c27b1
      try clear c28
      try clear c28b0
      try clear c28b1
      try clear c32
      try clear c32b0
      try clear c33
      try clear c33b0
      try clear c34
      try clear c34b0
      try clear c35
      try clear c35b0
      try clear c37
      try clear c37b0
      try clear c38
      try clear c38b0
      try clear c39
      try clear c39b0
      try clear c40
      try clear c40b0
      try clear c41
      try clear c41b0
      try clear p42
      try clear q42
      try clear hx42
      try clear hf42
      try clear hcz10_0
      try clear hcz10_1
      try clear hcz10_2
      try clear hcz10_3
      try clear hcz12_0
      try clear hcz12_1
      try clear hcz12_2
      try clear hcz12_3
      try clear hcz20_0
      try clear hcz20_1
      try clear hcz20_2
      try clear hcz20_3
      try clear hcz23_0
      try clear hcz23_1
      try clear hcz23_2
      try clear hcz23_3
      try clear hcz36_0
      try clear hcz36_1
      try clear hcz36_2
      try clear hcz36_3
      try clear hcz8_0
      try clear hcz8_1
      try clear hcz8_2
      try clear hcz8_3
      try clear hfz10_0
      try clear hfz10_1
      try clear hfz10_2
      try clear hfz10_3
      try clear hfz12_0
      try clear hfz12_1
      try clear hfz12_2
      try clear hfz12_3
      try clear hfz20_0
      try clear hfz20_1
      try clear hfz20_2
      try clear hfz20_3
      try clear hfz23_0
      try clear hfz23_1
      try clear hfz23_2
      try clear hfz23_3
      try clear hfz36_0
      try clear hfz36_1
      try clear hfz36_2
      try clear hfz36_3
      try clear hfz8_0
      try clear hfz8_1
      try clear hfz8_2
      try clear hfz8_3
      try clear hx191_0
      try clear hx192_0
      try clear hx193_0
      try clear hx194_0
      try clear hx19_0
      try clear hx42_0
      try clear p1
      try clear p19
      try clear p191
      try clear p192
      try clear p193
      try clear p194
      try clear p2
      try clear p42
      try clear q1
      try clear q19
      try clear q191
      try clear q192
      try clear q193
      try clear q194
      try clear q42
      obtain ⟨x11_3, x72_3, rfl, rfl, HA, HK3, HO_70, BK182, HB⟩ := hrel
      cases gk with
      | zero => exact absurd HA.out (by simp [dfa_Count.l3])
      | succ k3 =>
       have H := HA.out
       clear HA
       simp only [dfa_Count.l3] at H
       by_cases c47 : x72_3 < (x5_2.length : Int)
       (focus
       rw [if_pos c47] at H
       have c47b0 : decide (x72_3 < (x5_2.length : Int)) = true := decide_eq_true c47
       clear c47
       by_cases c48 : 0 ≤ x72_3
       (focus
       rw [if_pos c48] at H
       have c48b0 : decide (0 ≤ x72_3) = true := decide_eq_true c48
       clear c48
       by_cases c49 : x72_3 < (x5_2.length : Int)
       (focus
       rw [if_pos c49] at H
       have c49b0 : decide (x72_3 < (x5_2.length : Int)) = true := decide_eq_true c49
       clear c49
       by_cases c50 : x72_3 < (l0_2.length : Int)
       (focus
       rw [if_pos c50] at H
       have c50b0 : decide (x72_3 < (l0_2.length : Int)) = true := decide_eq_true c50
       clear c50
       obtain ⟨bq51, hbq51⟩ : ∃ b_ : Bool, b_ = (rdOf false l0_2 x72_3) := ⟨_, rfl⟩
       replace H : (if bq51 = true then (dfa_Count.l3 k3 (Int.tmod (wrap64 (x11_3 + (rd x5_2 x72_3))) 2305843009213693951) x5_2 (x5_2.length : Int) (wrap64 (x72_3 + 1)) a0_0 a0_1 l0_2 l0_3) else (dfa_Count.l3 k3 x11_3 x5_2 (x5_2.length : Int) (wrap64 (x72_3 + 1)) a0_0 a0_1 l0_2 l0_3)) = some r := by rw [← hbq51] at H; exact H
       have Nbq51 := Aside0.mk hbq51
       clear hbq51
       by_cases c52 : bq51 = true
       (focus
       subst c52
       have H1 : (dfa_Count.l3 k3 (Int.tmod (wrap64 (x11_3 + (rd x5_2 x72_3))) 2305843009213693951) x5_2 (x5_2.length : Int) (wrap64 (x72_3 + 1)) a0_0 a0_1 l0_2 l0_3) = some r := by rw [if_pos rfl] at H; exact H
       clear H
       have H := H1
       clear H1
       have H' := Aside0.mk H
       clear H
       have p196 : 0 ≤ (x72_3 : Int) := of_decide_eq_true (by first | (with_reducible assumption) | assumption)
       have q196 : x72_3 < (x5_2.length : Int) := of_decide_eq_true (by first | (with_reducible assumption) | assumption)
       obtain ⟨ad196, e196, hx196_0⟩ := Kd.at_int (Kd.R_reads' HO_70.out).2.2 x72_3 p196 q196
       cases e196
       replace p196 := eq_true p196
       replace q196 := eq_true q196
       have hcz53_0 : wr.cell? ⟨gb182, 0, none⟩ = some (.int .i64 a0_0) := (blk_cell BK182.out 0).trans rfl
       have hcz53_1 : wr.cell? ⟨gb182, 1, none⟩ = some (.int .i64 a0_1) := (blk_cell BK182.out 1).trans rfl
       have hcz53_2 : wr.cell? ⟨gb182, 2, none⟩ = some (.slice A0_2 l0_2.length c0_2) := (blk_cell BK182.out 2).trans rfl
       have hcz53_3 : wr.cell? ⟨gb182, 3, none⟩ = some (.slice A0_3 l0_3.length c0_3) := (blk_cell BK182.out 3).trans rfl
       have hfz53_0 := blk_frozen BK182.out 0
       have hfz53_1 := blk_frozen BK182.out 1
       have hfz53_2 := blk_frozen BK182.out 2
       have hfz53_3 := blk_frozen BK182.out 3
       have p197 : 0 ≤ (x72_3 : Int) := of_decide_eq_true (by first | (with_reducible assumption) | assumption)
       have q197 : x72_3 < (l0_2.length : Int) := of_decide_eq_true (by first | (with_reducible assumption) | assumption)
       obtain ⟨ad197, e197, hx197_0⟩ := Kd.at_bool HR0_2.out x72_3 p197 q197
       (try rw [← Nbq51.out] at hx197_0)
       cases e197
       (try replace hx197_0 := (HB.out.cell (World.block_lt_of_cell? w _ hx197_0)).trans hx197_0)
       replace p197 := eq_true p197
       replace q197 := eq_true q197
       go_wp2
       go_roundg k3
       case measure => have := HJ2.out; have := HK2.out; have := HK3.out; omega
       case rel => exact ⟨(Int.tmod (wrap64 (x11_3 + (rd x5_2 x72_3))) 2305843009213693951), (wrap64 (x72_3 + 1)), (by first | rfl | (simp; done) | (simp [*]; done)), (by first | rfl | (simp; done) | (simp [*]; done)), H', ⟨by have := HJ2.out; have := HK2.out; have := HK3.out; omega⟩, ⟨by (with_reducible repeat (first | apply Kd.R_alloc | apply Kd.R_drewN | apply Kd.R_drew)); exact HO_70.out⟩, ⟨by (with_reducible repeat (first | refine blk_drewN ?_ _ | refine blk_drew ?_ | refine blk_alloc ?_ _)); exact BK182.out⟩, ⟨by repeat (first | (with_reducible first | exact HB.out | apply below_alloc | apply pw_below_drewN | apply below_drew1 | refine below_set ?_ GE182.out) | exact HB.out)⟩⟩
       )
       (focus
       replace c52 := Bool.eq_false_iff.mpr c52
       subst c52
       have H1 : (dfa_Count.l3 k3 x11_3 x5_2 (x5_2.length : Int) (wrap64 (x72_3 + 1)) a0_0 a0_1 l0_2 l0_3) = some r := by rw [if_neg (show ¬ (false = true) by decide)] at H; exact H
       clear H
       have H := H1
       clear H1
       have H' := Aside0.mk H
       clear H
       have p196 : 0 ≤ (x72_3 : Int) := of_decide_eq_true (by first | (with_reducible assumption) | assumption)
       have q196 : x72_3 < (x5_2.length : Int) := of_decide_eq_true (by first | (with_reducible assumption) | assumption)
       obtain ⟨ad196, e196, hx196_0⟩ := Kd.at_int (Kd.R_reads' HO_70.out).2.2 x72_3 p196 q196
       cases e196
       replace p196 := eq_true p196
       replace q196 := eq_true q196
       have hcz54_0 : wr.cell? ⟨gb182, 0, none⟩ = some (.int .i64 a0_0) := (blk_cell BK182.out 0).trans rfl
       have hcz54_1 : wr.cell? ⟨gb182, 1, none⟩ = some (.int .i64 a0_1) := (blk_cell BK182.out 1).trans rfl
       have hcz54_2 : wr.cell? ⟨gb182, 2, none⟩ = some (.slice A0_2 l0_2.length c0_2) := (blk_cell BK182.out 2).trans rfl
       have hcz54_3 : wr.cell? ⟨gb182, 3, none⟩ = some (.slice A0_3 l0_3.length c0_3) := (blk_cell BK182.out 3).trans rfl
       have hfz54_0 := blk_frozen BK182.out 0
       have hfz54_1 := blk_frozen BK182.out 1
       have hfz54_2 := blk_frozen BK182.out 2
       have hfz54_3 := blk_frozen BK182.out 3
       have p197 : 0 ≤ (x72_3 : Int) := of_decide_eq_true (by first | (with_reducible assumption) | assumption)
       have q197 : x72_3 < (l0_2.length : Int) := of_decide_eq_true (by first | (with_reducible assumption) | assumption)
       obtain ⟨ad197, e197, hx197_0⟩ := Kd.at_bool HR0_2.out x72_3 p197 q197
       (try rw [← Nbq51.out] at hx197_0)
       cases e197
       (try replace hx197_0 := (HB.out.cell (World.block_lt_of_cell? w _ hx197_0)).trans hx197_0)
       replace p197 := eq_true p197
       replace q197 := eq_true q197
       go_wp2
       go_roundg k3
       case measure => have := HJ2.out; have := HK2.out; have := HK3.out; omega
       case rel => exact ⟨(x11_3), (wrap64 (x72_3 + 1)), (by first | rfl | (simp; done) | (simp [*]; done)), (by first | rfl | (simp; done) | (simp [*]; done)), H', ⟨by have := HJ2.out; have := HK2.out; have := HK3.out; omega⟩, ⟨by (with_reducible repeat (first | apply Kd.R_alloc | apply Kd.R_drewN | apply Kd.R_drew)); exact HO_70.out⟩, ⟨by (with_reducible repeat (first | refine blk_drewN ?_ _ | refine blk_drew ?_ | refine blk_alloc ?_ _)); exact BK182.out⟩, ⟨by repeat (first | (with_reducible first | exact HB.out | apply below_alloc | apply pw_below_drewN | apply below_drew1 | refine below_set ?_ GE182.out) | exact HB.out)⟩⟩
       )
       )
       (focus
       rw [if_neg c50] at H
       exact absurd H (by simp)
       )
       )
       (focus
       rw [if_neg c49] at H
       exact absurd H (by simp)
       )
       )
       (focus
       rw [if_neg c48] at H
       exact absurd H (by simp)
       )
       )
       (focus
       rw [if_neg c47] at H
       have c47b0 : decide (x72_3 < (x5_2.length : Int)) = false := decide_eq_false c47
       clear c47
       obtain rfl := Option.some.inj H
       go_wp2
       go_ret
       exact ⟨by first | rfl | (simp [errW_none, errW_some] <;> rfl) | (simp [*, errW_none, errW_some] <;> rfl), by repeat (first | (with_reducible first | exact HB.out | apply below_alloc | apply pw_below_drewN | apply below_drew1 | refine below_set ?_ GE182.out) | exact HB.out)⟩
       )
     )
   )
   (focus
   rw [if_neg c18] at H
   exact absurd H (by simp)
   )
   )
   (focus
   rw [if_neg c17] at H
   exact absurd H (by simp)
   )
   )
   (focus
   rw [if_neg c16] at H
   exact absurd H (by simp)
   )
   )
   (focus
   rw [if_neg c15] at H
   exact absurd H (by simp)
   )
   )
end Go.Proofs.Ytpjbmgoagehjkaa.PDfaEnumerates
