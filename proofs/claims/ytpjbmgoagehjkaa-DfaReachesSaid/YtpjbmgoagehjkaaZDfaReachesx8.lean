import Derived.Test.YtpjbmgoagehjkaaZDfaReachesx0
import Derived.Test.YtpjbmgoagehjkaaZDfaReachesx1
import Derived.Test.YtpjbmgoagehjkaaZDfaReachesx7
namespace Go.Proofs.Ytpjbmgoagehjkaa.PDfaReaches
open Go.RowKit Go.Proofs.YtpjbmgoagehjkaaH Go.Proofs.YtpjbmgoagehjkaaW.PrintWords Go.Proofs.YtpjbmgoagehjkaaW.PrintLast Go.Proofs.YtpjbmgoagehjkaaW.PrintMore
attribute [local go_sem] max2_int min2_int max_two min_two max_three min_three max_four min_four   -- for this text's walks alone
set_option linter.unusedVariables false
set_option linter.unusedSimpArgs false
/-! ### dfa_Trim: function 27 -/
mutual
def dfa_Trim.l0 : Nat → List Int → List Int → Int → Int → Int → Int → List Bool → List (List Int) → Int → Int → List Bool → List (List Int) → Option (Int × Int × List Bool × (List (List Int)) × List Int)
 | 0, _, _, _, _, _, _, _, _, _, _, _, _ => none
 | k + 1, x7, x27, x28, x29, x225000, x225001, x225002, x225003, x240000, x240001, x240002, x240003 => if x29 < x28 then (if 0 ≤ x29 then (if x29 < (x27.length : Int) then (if 0 ≤ x225000 then (if (x225000 : Int).toNat ≤ 35184372088832 then ((some (List.replicate (x225000 : Int).toNat 0 : List Int)).bind fun y241 => (dfa_Trim.l1 k x7 (rd x27 x29) y241 x27 x28 x29 (y241.length : Int) 0 x225000 x225001 x225002 x225003 x240000 x240001 x240002 x240003)) else (none)) else (none)) else (none)) else (none)) else (some (x240000, x240001, x240002, x240003, x7))
def dfa_Trim.l1 : Nat → List Int → Int → List Int → List Int → Int → Int → Int → Int → Int → Int → List Bool → List (List Int) → Int → Int → List Bool → List (List Int) → Option (Int × Int × List Bool × (List (List Int)) × List Int)
 | 0, _, _, _, _, _, _, _, _, _, _, _, _, _, _, _, _ => none
 | k + 1, x7, x10, x11, x27, x28, x29, x37, x38, x225000, x225001, x225002, x225003, x240000, x240001, x240002, x240003 => if x38 < x37 then (if 0 ≤ x10 then (if x10 < (x225003.length : Int) then (if 0 ≤ x38 then (if x38 < ((rd_L1 x225003 x10).length : Int) then (if 0 ≤ (rd (rd_L1 x225003 x10) x38) then (if (rd (rd_L1 x225003 x10) x38) < (x7.length : Int) then (if x38 < (x11.length : Int) then (dfa_Trim.l1 k x7 x10 (x11.set (x38 : Int).toNat (rd x7 (rd (rd_L1 x225003 x10) x38))) x27 x28 x29 x37 (wrap64 (x38 + 1)) x225000 x225001 x225002 x225003 x240000 x240001 x240002 x240003) else (none)) else (none)) else (none)) else (none)) else (none)) else (none)) else (none)) else (if 0 ≤ x10 then (if x10 < (x225002.length : Int) then (if x240002.length < 140737488355328 then (if x240003.length < 5864062014805 then (dfa_Trim.l0 k x7 x27 x28 (wrap64 (x29 + 1)) x225000 x225001 x225002 x225003 x240000 x240001 (x240002 ++ [rdOf false x225002 x10]) (x240003 ++ [x11])) else (none)) else (none)) else (none)) else (none))
end
def dfa_Trim.f (k : Nat) (a0_0 : Int) (a0_1 : Int) (l0_2 : List Bool) (l0_3 : List (List Int)) : Option (Int × Int × List Bool × (List (List Int)) × List Int) := (dfa_Validate.f k a0_0 a0_1 l0_2 l0_3).bind fun t226 => (if t226 = 0 then ((dfa_search.f k a0_0 a0_1 l0_2 l0_3).bind fun bt227 => (dfa_Trim.l0 k bt227.2.2.2 bt227.1 (bt227.1.length : Int) 0 a0_0 a0_1 l0_2 l0_3 a0_0 0 ([] : List Bool) ([] : List (List Int)))) else (some (0, 0, ([] : List Bool), ([] : List (List Int)), ([] : List Int))))
theorem dfa_Trim.mono_l : ∀ k, (∀ y0 y1 y2 y3 y4 y5 y6 y7 y8 y9 y10 y11, LeO (dfa_Trim.l0 k y0 y1 y2 y3 y4 y5 y6 y7 y8 y9 y10 y11) (dfa_Trim.l0 (k + 1) y0 y1 y2 y3 y4 y5 y6 y7 y8 y9 y10 y11)) ∧ (∀ y0 y1 y2 y3 y4 y5 y6 y7 y8 y9 y10 y11 y12 y13 y14 y15, LeO (dfa_Trim.l1 k y0 y1 y2 y3 y4 y5 y6 y7 y8 y9 y10 y11 y12 y13 y14 y15) (dfa_Trim.l1 (k + 1) y0 y1 y2 y3 y4 y5 y6 y7 y8 y9 y10 y11 y12 y13 y14 y15))
 | 0 => ⟨fun _ _ _ _ _ _ _ _ _ _ _ _ r h => by simp [dfa_Trim.l0] at h, fun _ _ _ _ _ _ _ _ _ _ _ _ _ _ _ _ r h => by simp [dfa_Trim.l1] at h⟩
 | k + 1 => by
  obtain ⟨ih0, ih1⟩ := dfa_Trim.mono_l k
  refine ⟨?_, ?_⟩
  (focus
  intro y0 y1 y2 y3 y4 y5 y6 y7 y8 y9 y10 y11
  unfold dfa_Trim.l0
  repeat' first
  | (with_reducible exact ih0 _ _ _ _ _ _ _ _ _ _ _ _)
  | (with_reducible exact ih1 _ _ _ _ _ _ _ _ _ _ _ _ _ _ _ _)
  | (with_reducible exact dfa_Validate.mono _ _ _ _ _)
  | (with_reducible exact dfa_search.mono _ _ _ _ _)
  | (with_reducible exact LeO.refl _)
  | (with_reducible exact LeO.none _)
  | (with_reducible refine LeO.ite ?_ ?_)
  | (with_reducible refine LeO.bind ?_ (fun _ => ?_))
  | exact ih0 _ _ _ _ _ _ _ _ _ _ _ _
  | exact ih1 _ _ _ _ _ _ _ _ _ _ _ _ _ _ _ _
  | exact dfa_Validate.mono _ _ _ _ _
  | exact dfa_search.mono _ _ _ _ _
  | exact LeO.none _
  | refine LeO.ite ?_ ?_
  | refine LeO.bind ?_ (fun _ => ?_)
  )
  (focus
  intro y0 y1 y2 y3 y4 y5 y6 y7 y8 y9 y10 y11 y12 y13 y14 y15
  unfold dfa_Trim.l1
  repeat' first
  | (with_reducible exact ih0 _ _ _ _ _ _ _ _ _ _ _ _)
  | (with_reducible exact ih1 _ _ _ _ _ _ _ _ _ _ _ _ _ _ _ _)
  | (with_reducible exact dfa_Validate.mono _ _ _ _ _)
  | (with_reducible exact dfa_search.mono _ _ _ _ _)
  | (with_reducible exact LeO.refl _)
  | (with_reducible exact LeO.none _)
  | (with_reducible refine LeO.ite ?_ ?_)
  | (with_reducible refine LeO.bind ?_ (fun _ => ?_))
  | exact ih0 _ _ _ _ _ _ _ _ _ _ _ _
  | exact ih1 _ _ _ _ _ _ _ _ _ _ _ _ _ _ _ _
  | exact dfa_Validate.mono _ _ _ _ _
  | exact dfa_search.mono _ _ _ _ _
  | exact LeO.none _
  | refine LeO.ite ?_ ?_
  | refine LeO.bind ?_ (fun _ => ?_)
  )
theorem dfa_Trim.mono : ∀ a0 a1 a2 a3 k, LeO (dfa_Trim.f k a0 a1 a2 a3) (dfa_Trim.f (k + 1) a0 a1 a2 a3) := by
 intro a0 a1 a2 a3 k
 obtain ⟨ih0, ih1⟩ := dfa_Trim.mono_l k
 unfold dfa_Trim.f
 repeat' first
  | (with_reducible exact ih0 _ _ _ _ _ _ _ _ _ _ _ _)
  | (with_reducible exact ih1 _ _ _ _ _ _ _ _ _ _ _ _ _ _ _ _)
  | (with_reducible exact dfa_Validate.mono _ _ _ _ _)
  | (with_reducible exact dfa_search.mono _ _ _ _ _)
  | (with_reducible exact LeO.refl _)
  | (with_reducible exact LeO.none _)
  | (with_reducible refine LeO.ite ?_ ?_)
  | (with_reducible refine LeO.bind ?_ (fun _ => ?_))
  | exact ih0 _ _ _ _ _ _ _ _ _ _ _ _
  | exact ih1 _ _ _ _ _ _ _ _ _ _ _ _ _ _ _ _
  | exact dfa_Validate.mono _ _ _ _ _
  | exact dfa_search.mono _ _ _ _ _
  | exact LeO.none _
  | refine LeO.ite ?_ ?_
  | refine LeO.bind ?_ (fun _ => ?_)
def dfa_Trim.T14 : Bool × List (List Nat × List Nat) := (true, [([], []), ([0], [0]), ([], []), ([2], [2]), ([], []), ([3, 4], [3, 4]), ([5], [5]), ([6], [6]), ([1, 7], [1, 7]), ([0, 1, 2, 3, 4, 5, 6, 7, 8], []), ([9, 8, 8, 0, 1, 2, 3, 4, 5, 6, 7, 8], [8, 9])])
def dfa_Trim.B14 : List Nat := [0, 1, 0, 4, 0, 28, 60, 124, 255, 511, 1023]
theorem dfa_Trim.tab14 : rtab .any (opsOf Try.f27 14) = dfa_Trim.T14 := by kernel_rfl
theorem dfa_Trim.bits14 : waitsOk dfa_Trim.T14.2 dfa_Trim.B14 = true := by kernel_rfl
set_option maxHeartbeats 8000000 in
set_option maxRecDepth 100000 in
theorem dfa_Trim.calls (k : Nat) (a0_0 : Int) (a0_1 : Int) (A0_2 : Option Addr) (c0_2 : Nat) (l0_2 : List Bool) (A0_3 : Option Addr) (c0_3 : Nat) (l0_3 : List (List Int)) (r1 : Int) (r2 : Int) (r3 : List Bool) (r4 : List (List Int)) (r5 : List Int) (w : World) (hr0_2 : Kd.C Kd.bool w A0_2 l0_2.length l0_2) (hc0_2 : l0_2.length ≤ c0_2) (hr0_3 : Kd.C (Kd.slice 3 (Kd.int .i64)) w A0_3 l0_3.length l0_3) (hc0_3 : l0_3.length ≤ c0_3) (h : dfa_Trim.f k a0_0 a0_1 l0_2 l0_3 = some (r1, r2, r3, r4, r5)) :
 Calls Try.prog 27 #[.agg #[.int .i64 a0_0, .int .i64 a0_1, .slice A0_2 l0_2.length c0_2, .slice A0_3 l0_3.length c0_3]] w fun e w' => ∃ v2_ v3_ v4_ : Value, e = .returned (.tuple #[.agg #[.int .i64 r1, .int .i64 r2, v2_, v3_], v4_]) ∧ Kd.R Kd.bool 4 w' w.heap.size (fun _ => True) v2_ r3 ∧ Kd.S (Kd.slice 3 (Kd.int .i64)) 38 w' w.heap.size (fun k_ => some k_ ≠ (v4_ : Value).ownBlock) v3_ r4 ∧ Kd.R (Kd.int .i64) 3 w' w.heap.size (fun _ => True) v4_ r5 ∧ Below w.heap.size w w' := by
 have hu25 := Try.underlying25
 have HR0_2 := Aside0.mk hr0_2
 have HC0_2 := Aside0.mk hc0_2
 clear hr0_2 hc0_2
 have HR0_3 := Aside0.mk hr0_3
 have HC0_3 := Aside0.mk hc0_3
 clear hr0_3 hc0_3
 have HB := Aside0.mk (Below.refl w.heap.size w)
 have H : ((dfa_Validate.f k a0_0 a0_1 l0_2 l0_3).bind fun t226 => (if t226 = 0 then ((dfa_search.f k a0_0 a0_1 l0_2 l0_3).bind fun bt227 => (dfa_Trim.l0 k bt227.2.2.2 bt227.1 (bt227.1.length : Int) 0 a0_0 a0_1 l0_2 l0_3 a0_0 0 ([] : List Bool) ([] : List (List Int)))) else (some (0, 0, ([] : List Bool), ([] : List (List Int)), ([] : List Int))))) = some (r1, r2, r3, r4, r5) := h
 clear h
 replace H := Option.bind_eq_some_iff.mp H
 obtain ⟨t226, A20, H⟩ := H
 replace H : (if t226 = 0 then ((dfa_search.f k a0_0 a0_1 l0_2 l0_3).bind fun bt227 => (dfa_Trim.l0 k bt227.2.2.2 bt227.1 (bt227.1.length : Int) 0 a0_0 a0_1 l0_2 l0_3 a0_0 0 ([] : List Bool) ([] : List (List Int)))) else (some (0, 0, ([] : List Bool), ([] : List (List Int)), ([] : List Int)))) = some (r1, r2, r3, r4, r5) := H
 have A2 := Aside0.mk A20
 clear A20
 by_cases c3 : t226 = 0
 (focus
 rw [if_pos c3] at H
 have c3b0 : (t226 == 0) = true := beq_iff_eq.mpr c3
 have c3b1 : (t226 != 0) = false := bne_eq_false_iff_eq.mpr c3
 clear c3
 replace H := Option.bind_eq_some_iff.mp H
 obtain ⟨⟨t227, t230, t233, t236⟩, A40, H⟩ := H
 replace H : (dfa_Trim.l0 k t236 t227 (t227.length : Int) 0 a0_0 a0_1 l0_2 l0_3 a0_0 0 ([] : List Bool) ([] : List (List Int))) = some (r1, r2, r3, r4, r5) := H
 have A4 := Aside0.mk A40
 clear A40
 have H' := Aside0.mk H
 clear H
 go_enter Try.func27, Try.ntmps27
 go_wp2_with (first | ((with_reducible refine gate_dst (N := 1) rfl ?_); refine box_event ?hg (N := 1) ?hd (cs := #[.int .i64 a0_0, .int .i64 a0_1, .slice A0_2 l0_2.length c0_2, .slice A0_3 l0_3.length c0_3]) (t := 25) ?hr ?_; (case hd => rfl); (case hg => rfl); (case hr => first | (go_simp; done) | (go_simp; rfl)); intro gb224 hg w5 hbox hb; have n0_ := Aside0.mk (below_step (by repeat (first | (with_reducible first | exact HB.out | apply below_alloc | apply pw_below_drewN | apply below_drew1) | exact HB.out)) hb); have n1_ := Aside0.mk (hbox); have n2_ := Aside0.mk ((by rw [hg]; exact (below_size (by repeat (first | (with_reducible first | exact HB.out | apply below_alloc | apply pw_below_drewN | apply below_drew1) | exact HB.out))) : w.heap.size ≤ gb224)); have n3_ := Aside0.mk ((by rw [hg]; exact (below_size (by repeat (first | (with_reducible first | exact HB.out | apply below_alloc | apply pw_below_drewN | apply below_drew1) | exact HB.out))) : w.heap.size ≤ gb224)); clear HB; have HB := n0_; have BK224 := n1_; have GW224 := n2_; have GE224 := n3_; clear n0_ n1_ n2_ n3_; clear hb hbox hg) | ((with_reducible refine gate_dst (N := 2) rfl ?_); refine box_event ?hg (N := 2) ?hd (cs := #[.int .i64 0, .int .i64 0, .slice none 0 0, .slice none 0 0]) (t := 25) ?hr ?_; (case hd => rfl); (case hg => rfl); (case hr => first | (go_simp; done) | (go_simp; rfl)); intro gb225 hg w6 hbox hb; have n0_ := Aside0.mk (blk_below (g := gb224) (o := .cells #[.int .i64 a0_0, .int .i64 a0_1, .slice A0_2 l0_2.length c0_2, .slice A0_3 l0_3.length c0_3] 25 (0, 0)) (uB BK224.out) hb); have n1_ := Aside0.mk (below_step (by repeat (first | (with_reducible first | exact HB.out | apply below_alloc | apply pw_below_drewN | apply below_drew1 | refine below_set ?_ GE224.out) | exact HB.out)) hb); have n2_ := Aside0.mk (hbox); have n3_ := Aside0.mk ((by rw [hg]; exact (below_size (by repeat (first | (with_reducible first | exact HB.out | apply below_alloc | apply pw_below_drewN | apply below_drew1 | refine below_set ?_ GE224.out) | exact HB.out))) : w.heap.size ≤ gb225)); have n4_ := Aside0.mk ((by rw [hg]; exact (below_size (by repeat (first | (with_reducible first | exact HB.out | apply below_alloc | apply pw_below_drewN | apply below_drew1 | refine below_set ?_ GE224.out) | exact HB.out))) : w.heap.size ≤ gb225)); have n5_ := Aside0.mk ((by rw [hg]; exact Nat.ne_of_lt (blk_lt (g := gb224) (o := .cells #[.int .i64 a0_0, .int .i64 a0_1, .slice A0_2 l0_2.length c0_2, .slice A0_3 l0_3.length c0_3] 25 (0, 0)) (uB BK224.out)) : gb224 ≠ gb225)); have n6_ := Aside0.mk ((by rw [hg]; exact Nat.ne_of_gt (blk_lt (g := gb224) (o := .cells #[.int .i64 a0_0, .int .i64 a0_1, .slice A0_2 l0_2.length c0_2, .slice A0_3 l0_3.length c0_3] 25 (0, 0)) (uB BK224.out)) : gb225 ≠ gb224)); clear BK224; clear HB; have BK224 := n0_; have HB := n1_; have BK225 := n2_; have GW225 := n3_; have GE225 := n4_; have NB224_225 := n5_; have NB225_224 := n6_; clear n0_ n1_ n2_ n3_ n4_ n5_ n6_; clear hb hbox hg; have hnb7 := NB224_225.out; have hnc7 := NB225_224.out; have hcz8_0 : w6.cell? ⟨gb224, 0, none⟩ = some (.int .i64 a0_0) := (blk_cell BK224.out 0).trans rfl; have hcz8_1 : w6.cell? ⟨gb224, 1, none⟩ = some (.int .i64 a0_1) := (blk_cell BK224.out 1).trans rfl; have hcz8_2 : w6.cell? ⟨gb224, 2, none⟩ = some (.slice A0_2 l0_2.length c0_2) := (blk_cell BK224.out 2).trans rfl; have hcz8_3 : w6.cell? ⟨gb224, 3, none⟩ = some (.slice A0_3 l0_3.length c0_3) := (blk_cell BK224.out 3).trans rfl; have hfz8_0 := blk_frozen BK224.out 0; have hfz8_1 := blk_frozen BK224.out 1; have hfz8_2 := blk_frozen BK224.out 2; have hfz8_3 := blk_frozen BK224.out 3) | ((with_reducible refine gate_callee (f := 14) rfl ?_); refine goesL_ (some 14) rfl rfl Try.func14 (by kernel_rfl) rfl #[.agg #[.int .i64 a0_0, .int .i64 a0_1, .slice A0_2 l0_2.length c0_2, .slice A0_3 l0_3.length c0_3]] rfl (by (try simp only [List.map_toArray, List.map_cons, List.map_nil]); first | done | rfl | (simp only [List.length_drop, List.length_take]; rfl)) ?_; (with_reducible refine (dfa_Validate.calls k a0_0 a0_1 _ _ l0_2 _ _ l0_3 t226 _ ?side1 ?side2 ?side3 ?side4 A2.out).mono ?_); (case side1 => repeat (first | exact (Kd.C_below HR0_2.out HB.out) | (with_reducible refine Kd.C_alloc ?_ _) | (with_reducible refine Kd.C_drewN ?_ _) | (with_reducible refine Kd.C_drew ?_))); (case side2 => exact HC0_2.out); (case side3 => repeat (first | exact (Kd.C_below HR0_3.out HB.out) | (with_reducible refine Kd.C_alloc ?_ _) | (with_reducible refine Kd.C_drewN ?_ _) | (with_reducible refine Kd.C_drew ?_))); (case side4 => exact HC0_3.out); rintro e w9 ⟨rfl, hb⟩; refine ⟨_, rfl, ?_⟩; have n0_ := Aside0.mk (blk_below (g := gb224) (o := .cells #[.int .i64 a0_0, .int .i64 a0_1, .slice A0_2 l0_2.length c0_2, .slice A0_3 l0_3.length c0_3] 25 (0, 0)) (uB BK224.out) hb); have n1_ := Aside0.mk (blk_below (g := gb225) (o := .cells #[.int .i64 0, .int .i64 0, .slice none 0 0, .slice none 0 0] 25 (0, 0)) (uB BK225.out) hb); have n2_ := Aside0.mk (below_step (by repeat (first | (with_reducible first | exact HB.out | apply below_alloc | apply pw_below_drewN | apply below_drew1 | refine below_set ?_ GE224.out | refine below_set ?_ GE225.out) | exact HB.out)) hb); clear BK224; clear BK225; clear HB; have BK224 := n0_; have BK225 := n1_; have HB := n2_; clear n0_ n1_ n2_; (try clear hb); (try clear hb2); (try clear hk); (try clear hi); have hcz10_0 : w9.cell? ⟨gb224, 0, none⟩ = some (.int .i64 a0_0) := (blk_cell BK224.out 0).trans rfl; have hcz10_1 : w9.cell? ⟨gb224, 1, none⟩ = some (.int .i64 a0_1) := (blk_cell BK224.out 1).trans rfl; have hcz10_2 : w9.cell? ⟨gb224, 2, none⟩ = some (.slice A0_2 l0_2.length c0_2) := (blk_cell BK224.out 2).trans rfl; have hcz10_3 : w9.cell? ⟨gb224, 3, none⟩ = some (.slice A0_3 l0_3.length c0_3) := (blk_cell BK224.out 3).trans rfl; have hfz10_0 := blk_frozen BK224.out 0; have hfz10_1 := blk_frozen BK224.out 1; have hfz10_2 := blk_frozen BK224.out 2; have hfz10_3 := blk_frozen BK224.out 3) | ((with_reducible refine gate_callee (f := 48) rfl ?_); refine goesL_ (some 19) rfl rfl Try.func48 (by kernel_rfl) rfl #[.agg #[.int .i64 a0_0, .int .i64 a0_1, .slice A0_2 l0_2.length c0_2, .slice A0_3 l0_3.length c0_3]] rfl (by (try simp only [List.map_toArray, List.map_cons, List.map_nil]); first | done | rfl | (simp only [List.length_drop, List.length_take]; rfl)) ?_; (with_reducible refine (dfa_search.calls k a0_0 a0_1 _ _ l0_2 _ _ l0_3 t227 t230 t233 t236 _ ?side1 ?side2 ?side3 ?side4 A4.out).mono ?_); (case side1 => repeat (first | exact (Kd.C_below HR0_2.out HB.out) | (with_reducible refine Kd.C_alloc ?_ _) | (with_reducible refine Kd.C_drewN ?_ _) | (with_reducible refine Kd.C_drew ?_))); (case side2 => exact HC0_2.out); (case side3 => repeat (first | exact (Kd.C_below HR0_3.out HB.out) | (with_reducible refine Kd.C_alloc ?_ _) | (with_reducible refine Kd.C_drewN ?_ _) | (with_reducible refine Kd.C_drew ?_))); (case side4 => exact HC0_3.out); rintro e w11 ⟨v228, v231, v234, v237, rfl, ho0, ho1, ho2, ho3, hb⟩; refine ⟨_, rfl, ?_⟩; have n0_ := Aside0.mk (Kd.R_lower ho0 (below_size (by repeat (first | (with_reducible first | exact HB.out | apply below_alloc | apply pw_below_drewN | apply below_drew1 | refine below_set ?_ GE224.out | refine below_set ?_ GE225.out) | exact HB.out)))); have n1_ := Aside0.mk (Kd.R_lower ho1 (below_size (by repeat (first | (with_reducible first | exact HB.out | apply below_alloc | apply pw_below_drewN | apply below_drew1 | refine below_set ?_ GE224.out | refine below_set ?_ GE225.out) | exact HB.out)))); have n2_ := Aside0.mk (Kd.R_lower ho2 (below_size (by repeat (first | (with_reducible first | exact HB.out | apply below_alloc | apply pw_below_drewN | apply below_drew1 | refine below_set ?_ GE224.out | refine below_set ?_ GE225.out) | exact HB.out)))); have n3_ := Aside0.mk (Kd.R_lower ho3 (below_size (by repeat (first | (with_reducible first | exact HB.out | apply below_alloc | apply pw_below_drewN | apply below_drew1 | refine below_set ?_ GE224.out | refine below_set ?_ GE225.out) | exact HB.out)))); have n4_ := Aside0.mk (blk_below (g := gb224) (o := .cells #[.int .i64 a0_0, .int .i64 a0_1, .slice A0_2 l0_2.length c0_2, .slice A0_3 l0_3.length c0_3] 25 (0, 0)) (uB BK224.out) hb); have n5_ := Aside0.mk (blk_below (g := gb225) (o := .cells #[.int .i64 0, .int .i64 0, .slice none 0 0, .slice none 0 0] 25 (0, 0)) (uB BK225.out) hb); have n6_ := Aside0.mk (below_step (by repeat (first | (with_reducible first | exact HB.out | apply below_alloc | apply pw_below_drewN | apply below_drew1 | refine below_set ?_ GE224.out | refine below_set ?_ GE225.out) | exact HB.out)) hb); clear BK224; clear BK225; clear HB; have HO229 := n0_; have HO232 := n1_; have HO235 := n2_; have HO238 := n3_; have BK224 := n4_; have BK225 := n5_; have HB := n6_; clear n0_ n1_ n2_ n3_ n4_ n5_ n6_; (try clear hb); (try clear hb2); (try clear hk); (try clear hi); (try clear ho0); (try clear ho1); (try clear ho2); (try clear ho3); have hcz12_0 : w11.cell? ⟨gb224, 0, none⟩ = some (.int .i64 a0_0) := (blk_cell BK224.out 0).trans rfl; have hcz12_1 : w11.cell? ⟨gb224, 1, none⟩ = some (.int .i64 a0_1) := (blk_cell BK224.out 1).trans rfl; have hcz12_2 : w11.cell? ⟨gb224, 2, none⟩ = some (.slice A0_2 l0_2.length c0_2) := (blk_cell BK224.out 2).trans rfl; have hcz12_3 : w11.cell? ⟨gb224, 3, none⟩ = some (.slice A0_3 l0_3.length c0_3) := (blk_cell BK224.out 3).trans rfl; have hfz12_0 := blk_frozen BK224.out 0; have hfz12_1 := blk_frozen BK224.out 1; have hfz12_2 := blk_frozen BK224.out 2; have hfz12_3 := blk_frozen BK224.out 3) | ((with_reducible refine gate_dst (N := 8) rfl ?_); refine box_event ?hg (N := 8) ?hd (cs := #[.int .i64 0, .int .i64 0, .slice none 0 0, .slice none 0 0]) (t := 25) ?hr ?_; (case hd => rfl); (case hg => rfl); (case hr => first | (go_simp; done) | (go_simp; rfl)); intro gb239 hg w13 hbox hb; have n0_ := Aside0.mk (Kd.R_below (uR HO229.out) hb); have n1_ := Aside0.mk (Kd.R_below (uR HO232.out) hb); have n2_ := Aside0.mk (Kd.R_below (uR HO235.out) hb); have n3_ := Aside0.mk (Kd.R_below (uR HO238.out) hb); have n4_ := Aside0.mk (blk_below (g := gb224) (o := .cells #[.int .i64 a0_0, .int .i64 a0_1, .slice A0_2 l0_2.length c0_2, .slice A0_3 l0_3.length c0_3] 25 (0, 0)) (uB BK224.out) hb); have n5_ := Aside0.mk (blk_below (g := gb225) (o := .cells #[.int .i64 0, .int .i64 0, .slice none 0 0, .slice none 0 0] 25 (0, 0)) (uB BK225.out) hb); have n6_ := Aside0.mk (below_step (by repeat (first | (with_reducible first | exact HB.out | apply below_alloc | apply pw_below_drewN | apply below_drew1 | refine below_set ?_ GE224.out | refine below_set ?_ GE225.out) | exact HB.out)) hb); have n7_ := Aside0.mk (hbox); have n8_ := Aside0.mk ((by rw [hg]; exact (below_size (by repeat (first | (with_reducible first | exact HB.out | apply below_alloc | apply pw_below_drewN | apply below_drew1 | refine below_set ?_ GE224.out | refine below_set ?_ GE225.out) | exact HB.out))) : w.heap.size ≤ gb239)); have n9_ := Aside0.mk ((by rw [hg]; exact (below_size (by repeat (first | (with_reducible first | exact HB.out | apply below_alloc | apply pw_below_drewN | apply below_drew1 | refine below_set ?_ GE224.out | refine below_set ?_ GE225.out) | exact HB.out))) : w.heap.size ≤ gb239)); have n10_ := Aside0.mk ((by rw [hg]; exact Nat.ne_of_lt (blk_lt (g := gb224) (o := .cells #[.int .i64 a0_0, .int .i64 a0_1, .slice A0_2 l0_2.length c0_2, .slice A0_3 l0_3.length c0_3] 25 (0, 0)) (uB BK224.out)) : gb224 ≠ gb239)); have n11_ := Aside0.mk ((by rw [hg]; exact Nat.ne_of_gt (blk_lt (g := gb224) (o := .cells #[.int .i64 a0_0, .int .i64 a0_1, .slice A0_2 l0_2.length c0_2, .slice A0_3 l0_3.length c0_3] 25 (0, 0)) (uB BK224.out)) : gb239 ≠ gb224)); have n12_ := Aside0.mk ((by rw [hg]; exact Nat.ne_of_lt (blk_lt (g := gb225) (o := .cells #[.int .i64 0, .int .i64 0, .slice none 0 0, .slice none 0 0] 25 (0, 0)) (uB BK225.out)) : gb225 ≠ gb239)); have n13_ := Aside0.mk ((by rw [hg]; exact Nat.ne_of_gt (blk_lt (g := gb225) (o := .cells #[.int .i64 0, .int .i64 0, .slice none 0 0, .slice none 0 0] 25 (0, 0)) (uB BK225.out)) : gb239 ≠ gb225)); clear HO229; clear HO232; clear HO235; clear HO238; clear BK224; clear BK225; clear HB; have HO229 := n0_; have HO232 := n1_; have HO235 := n2_; have HO238 := n3_; have BK224 := n4_; have BK225 := n5_; have HB := n6_; have BK239 := n7_; have GW239 := n8_; have GE239 := n9_; have NB224_239 := n10_; have NB239_224 := n11_; have NB225_239 := n12_; have NB239_225 := n13_; clear n0_ n1_ n2_ n3_ n4_ n5_ n6_ n7_ n8_ n9_ n10_ n11_ n12_ n13_; clear hb hbox hg; have hnb14 := NB239_224.out; have hnc14 := NB224_239.out; have hnb15 := NB239_225.out; have hnc15 := NB225_239.out; have hcz16_0 : w13.cell? ⟨gb239, 0, none⟩ = some (.int .i64 0) := (blk_cell BK239.out 0).trans rfl; have hcz16_1 : w13.cell? ⟨gb239, 1, none⟩ = some (.int .i64 0) := (blk_cell BK239.out 1).trans rfl; have hcz16_2 : w13.cell? ⟨gb239, 2, none⟩ = some (.slice none 0 0) := (blk_cell BK239.out 2).trans rfl; have hcz16_3 : w13.cell? ⟨gb239, 3, none⟩ = some (.slice none 0 0) := (blk_cell BK239.out 3).trans rfl; have hfz16_0 := blk_frozen BK239.out 0; have hfz16_1 := blk_frozen BK239.out 1; have hfz16_2 := blk_frozen BK239.out 2; have hfz16_3 := blk_frozen BK239.out 3; obtain ⟨Ao17, co17, eo17⟩ := Kd.R_slice HO229.out; subst eo17))
 go_loopg [29] k (fun kq v29 w' => ∃ (x7_1 : List Int) (x27_1 : List Int) (x29_1 : Int) (x240002_1 : List Bool) (x240003_1 : List (List Int)) (u240002 : Value) (u240003 : Value), v29 = .int .i64 x29_1 ∧ Aside0 (dfa_Trim.l0 kq x7_1 x27_1 (t227.length : Int) x29_1 a0_0 a0_1 l0_2 l0_3 a0_0 0 x240002_1 x240003_1 = some (r1, r2, r3, r4, r5)) ∧ Aside0 (kq ≤ k) ∧ Aside0 (Kd.R (Kd.int .i64) 3 w' w.heap.size (fun k_ => some k_ ≠ ((.slice Ao17 t227.length co17) : Value).ownBlock) v237 x7_1) ∧ Aside0 (Kd.R (Kd.int .i64) 3 w' w.heap.size (fun k_ => some k_ ≠ (v237 : Value).ownBlock) (.slice Ao17 t227.length co17) x27_1) ∧ Aside0 (Kd.R Kd.bool 4 w' w.heap.size (fun _ => True) u240002 x240002_1) ∧ Aside0 (Kd.S (Kd.slice 3 (Kd.int .i64)) 38 w' w.heap.size (fun k_ => some k_ ≠ (v237 : Value).ownBlock ∧ some k_ ≠ ((.slice Ao17 t227.length co17) : Value).ownBlock) u240003 x240003_1) ∧ Aside0 (w'.heap[gb224]? = some (.cells #[.int .i64 a0_0, .int .i64 a0_1, (.slice A0_2 l0_2.length c0_2), (.slice A0_3 l0_3.length c0_3)] 25 (0, 0))) ∧ Aside0 (w'.heap[gb225]? = some (.cells #[.int .i64 0, .int .i64 0, (.slice none 0 0), (.slice none 0 0)] 25 (0, 0))) ∧ Aside0 (w'.heap[gb239]? = some (.cells #[.int .i64 a0_0, .int .i64 0, u240002, u240003] 25 (0, 0))) ∧ Aside0 (Below w.heap.size w w'))
 case atStart => exact ⟨(t236), (t227), (0), (([] : List Bool)), (([] : List (List Int))), (.slice none 0 0), (.slice none 0 0), (by first | rfl | (simp; done) | (simp [*]; done)), H', ⟨Nat.le_refl _⟩, ⟨by (with_reducible repeat (first | apply Kd.R_alloc | apply Kd.R_drewN | apply Kd.R_drew)); exact Kd.R_mono (Kd.R_far (p := ⟨gb239, 3, none⟩) (Kd.R_far (p := ⟨gb239, 2, none⟩) (Kd.R_far (p := ⟨gb239, 1, none⟩) (Kd.R_far (p := ⟨gb239, 0, none⟩) (Kd.R_types HO238.out BK239.out (by decide)) (fun _ hk => hk.2) (.int .i64 a0_0)) (fun _ hk => hk.2) (.int .i64 0)) (fun _ hk => hk.2) (.slice none 0 0)) (fun _ hk => hk.2) (.slice none 0 0)) (fun _ hk => hk.1.1)⟩, ⟨by (with_reducible repeat (first | apply Kd.R_alloc | apply Kd.R_drewN | apply Kd.R_drew)); exact Kd.R_mono (Kd.R_far (p := ⟨gb239, 3, none⟩) (Kd.R_far (p := ⟨gb239, 2, none⟩) (Kd.R_far (p := ⟨gb239, 1, none⟩) (Kd.R_far (p := ⟨gb239, 0, none⟩) (Kd.R_types HO229.out BK239.out (by decide)) (fun _ hk => hk.2) (.int .i64 a0_0)) (fun _ hk => hk.2) (.int .i64 0)) (fun _ hk => hk.2) (.slice none 0 0)) (fun _ hk => hk.2) (.slice none 0 0)) (fun _ hk => hk.1.2.2)⟩, ⟨by first | exact Kd.R_nil _ _ _ _ _ | exact Kd.N_nil _ _ _ _ _ | exact Kd.V_nil _ _ _ _ _ | exact Kd.Q_nil _ _ _ _ _ | exact Kd.S_nil _ _ _ _ _⟩, ⟨by first | exact Kd.S_nil _ _ _ _ _ | exact Kd.N_nil _ _ _ _ _ | exact Kd.V_nil _ _ _ _ _ | exact Kd.Q_nil _ _ _ _ _ | exact Kd.R_nil _ _ _ _ _⟩, ⟨by (with_reducible repeat (first | refine blk_drewN ?_ _ | refine blk_drew ?_ | refine blk_alloc ?_ _)); refine blk_far ?_ NB224_239.out _; (with_reducible repeat (first | refine blk_drewN ?_ _ | refine blk_drew ?_ | refine blk_alloc ?_ _)); refine blk_far ?_ NB224_239.out _; (with_reducible repeat (first | refine blk_drewN ?_ _ | refine blk_drew ?_ | refine blk_alloc ?_ _)); refine blk_far ?_ NB224_239.out _; (with_reducible repeat (first | refine blk_drewN ?_ _ | refine blk_drew ?_ | refine blk_alloc ?_ _)); refine blk_far ?_ NB224_239.out _; (with_reducible repeat (first | refine blk_drewN ?_ _ | refine blk_drew ?_ | refine blk_alloc ?_ _)); exact BK224.out⟩, ⟨by (with_reducible repeat (first | refine blk_drewN ?_ _ | refine blk_drew ?_ | refine blk_alloc ?_ _)); refine blk_far ?_ NB225_239.out _; (with_reducible repeat (first | refine blk_drewN ?_ _ | refine blk_drew ?_ | refine blk_alloc ?_ _)); refine blk_far ?_ NB225_239.out _; (with_reducible repeat (first | refine blk_drewN ?_ _ | refine blk_drew ?_ | refine blk_alloc ?_ _)); refine blk_far ?_ NB225_239.out _; (with_reducible repeat (first | refine blk_drewN ?_ _ | refine blk_drew ?_ | refine blk_alloc ?_ _)); refine blk_far ?_ NB225_239.out _; (with_reducible repeat (first | refine blk_drewN ?_ _ | refine blk_drew ?_ | refine blk_alloc ?_ _)); exact BK225.out⟩, ⟨by (with_reducible repeat (first | refine blk_drewN ?_ _ | refine blk_drew ?_ | refine blk_alloc ?_ _)); refine blk_put (cs := #[.int .i64 a0_0, .int .i64 0, .slice none 0 0, .slice none 0 0]) ?_ 3 _ rfl; (with_reducible repeat (first | refine blk_drewN ?_ _ | refine blk_drew ?_ | refine blk_alloc ?_ _)); refine blk_put (cs := #[.int .i64 a0_0, .int .i64 0, .slice none 0 0, .slice none 0 0]) ?_ 2 _ rfl; (with_reducible repeat (first | refine blk_drewN ?_ _ | refine blk_drew ?_ | refine blk_alloc ?_ _)); refine blk_put (cs := #[.int .i64 a0_0, .int .i64 0, .slice none 0 0, .slice none 0 0]) ?_ 1 _ rfl; (with_reducible repeat (first | refine blk_drewN ?_ _ | refine blk_drew ?_ | refine blk_alloc ?_ _)); refine blk_put (cs := #[.int .i64 0, .int .i64 0, .slice none 0 0, .slice none 0 0]) ?_ 0 _ rfl; (with_reducible repeat (first | refine blk_drewN ?_ _ | refine blk_drew ?_ | refine blk_alloc ?_ _)); exact BK239.out⟩, ⟨by repeat (first | (with_reducible first | exact HB.out | apply below_alloc | apply pw_below_drewN | apply below_drew1 | refine below_set ?_ GE224.out | refine below_set ?_ GE225.out | refine below_set ?_ GE239.out) | exact HB.out)⟩⟩
 case round =>
  clear H'
  try clear c1
  try clear c2
  try clear p2
  try clear c3
  try clear c3b0
  try clear c3b1
  try clear c4
  try clear c7
  try clear c14
  try clear c15
  try clear hcz10_0
  try clear hcz10_1
  try clear hcz10_2
  try clear hcz10_3
  try clear hcz12_0
  try clear hcz12_1
  try clear hcz12_2
  try clear hcz12_3
  try clear hcz16_0
  try clear hcz16_1
  try clear hcz16_2
  try clear hcz16_3
  try clear hcz8_0
  try clear hcz8_1
  try clear hcz8_2
  try clear hcz8_3
  try clear hfz10_0
  try clear hfz10_1
  try clear hfz10_2
  try clear hfz10_3
  try clear hfz12_0
  try clear hfz12_1
  try clear hfz12_2
  try clear hfz12_3
  try clear hfz16_0
  try clear hfz16_1
  try clear hfz16_2
  try clear hfz16_3
  try clear hfz8_0
  try clear hfz8_1
  try clear hfz8_2
  try clear hfz8_3
  obtain ⟨x7_1, x27_1, x29_1, x240002_1, x240003_1, u240002, u240003, rfl, HA, HK1, HO_7, HO_27, HO_240002, HO_240003, BK224, BK225, BK239, HB⟩ := hrel
  have hl27_1 := (Kd.R_reads' HO_27.out).1
  rw [hl27_1] at HO_27
  (try simp only [hl27_1])
  (try simp only [hl27_1] at BK224)
  (try simp only [hl27_1] at BK225)
  (try simp only [hl27_1] at BK239)
  (try simp only [hl27_1] at HO_7)
  (try simp only [hl27_1] at HO_240002)
  (try simp only [hl27_1] at HO_240003)
  cases gk with
  | zero => exact absurd HA.out (by simp [dfa_Trim.l0])
  | succ k1 =>
   have H := HA.out
   clear HA
   simp only [dfa_Trim.l0] at H
   by_cases c18 : x29_1 < (t227.length : Int)
   (focus
   rw [if_pos c18] at H
   have c18b0 : decide (x29_1 < (t227.length : Int)) = true := decide_eq_true c18
   (try (have c18b0_hl27_1 := c18b0; simp only [hl27_1] at c18b0_hl27_1))
   clear c18
   by_cases c19 : 0 ≤ x29_1
   (focus
   rw [if_pos c19] at H
   have c19b0 : decide (0 ≤ x29_1) = true := decide_eq_true c19
   clear c19
   by_cases c20 : x29_1 < (x27_1.length : Int)
   (focus
   rw [if_pos c20] at H
   have c20b0 : decide (x29_1 < (x27_1.length : Int)) = true := decide_eq_true c20
   (try (have c20b0_hl27_1 := c20b0; simp only [hl27_1] at c20b0_hl27_1))
   clear c20
   by_cases c21 : 0 ≤ a0_0
   (focus
   rw [if_pos c21] at H
   have c21b0 := eq_true c21
   have c21b1 : decide (0 ≤ a0_0) = true := decide_eq_true c21
   clear c21
   by_cases c22 : (a0_0 : Int).toNat ≤ 35184372088832
   (focus
   rw [if_pos c22] at H
   have c22b0 := eq_true c22
   have c22b1 : decide ((a0_0 : Int).toNat ≤ 35184372088832) = true := decide_eq_true c22
   clear c22
   obtain ⟨y241, hy241⟩ : ∃ y_ : List Int, y_ = (List.replicate (a0_0 : Int).toNat 0) := ⟨_, rfl⟩
   replace H : (dfa_Trim.l1 k1 x7_1 (rd x27_1 x29_1) y241 x27_1 (t227.length : Int) x29_1 (y241.length : Int) 0 a0_0 a0_1 l0_2 l0_3 a0_0 0 x240002_1 x240003_1) = some (r1, r2, r3, r4, r5) := by first | (rw [hy241]; with_reducible exact H) | (have H2_ := (Option.bind_some _ _).symm.trans H; rw [hy241]; with_reducible exact H2_) | (have H2_ := (Option.bind_some _ _).symm.trans H; with_reducible exact H2_) | with_reducible exact H | (rw [hy241]; exact H) | exact H
   have Ny241 := Aside0.mk hy241
   clear hy241
   have H' := Aside0.mk H
   clear H
   have p240 : 0 ≤ (x29_1 : Int) := of_decide_eq_true (by first | (with_reducible assumption) | assumption)
   have q240 : x29_1 < (x27_1.length : Int) := of_decide_eq_true (by first | (with_reducible assumption) | assumption)
   obtain ⟨ad240, e240, hx240_0⟩ := Kd.at_int (Kd.R_reads' HO_27.out).2.2 x29_1 p240 q240
   cases e240
   replace p240 := eq_true p240
   replace q240 := eq_true q240
   have hnb23 := NB224_225.out
   have hnc23 := NB225_224.out
   have hnb24 := NB224_239.out
   have hnc24 := NB239_224.out
   have hcz25_0 : wr.cell? ⟨gb224, 0, none⟩ = some (.int .i64 a0_0) := (blk_cell BK224.out 0).trans rfl
   have hcz25_1 : wr.cell? ⟨gb224, 1, none⟩ = some (.int .i64 a0_1) := (blk_cell BK224.out 1).trans rfl
   have hcz25_2 : wr.cell? ⟨gb224, 2, none⟩ = some (.slice A0_2 l0_2.length c0_2) := (blk_cell BK224.out 2).trans rfl
   have hcz25_3 : wr.cell? ⟨gb224, 3, none⟩ = some (.slice A0_3 l0_3.length c0_3) := (blk_cell BK224.out 3).trans rfl
   have hfz25_0 := blk_frozen BK224.out 0
   have hfz25_1 := blk_frozen BK224.out 1
   have hfz25_2 := blk_frozen BK224.out 2
   have hfz25_3 := blk_frozen BK224.out 3
   go_wp2_with (first | ((with_reducible refine gate_dst (N := 35) rfl ?_); refine Kd.R_make (Kd.int .i64) _ 3 rfl (N := 35) rfl 38 _ _ rfl a0_0 rfl rfl Try.underlying38 (.int .i64 0) 8 info3 rfl (by decide) (by omega) 0 (ok := fun _ => True) (okp := fun _ => True) rfl (fun _ hk => hk) trivial (of_decide_eq_true (by first | (with_reducible assumption) | assumption)) (Nat.le_trans (Nat.mul_le_mul_right _ (of_decide_eq_true (by first | (with_reducible assumption) | assumption) : a0_0.toNat ≤ 35184372088832)) (by omega)) (Below.refl _ _) (Nat.le_refl _) ?_; intro v242 w26 ho27 hb hg_ hnew_; clear hg_ hnew_; (first | rw [← Ny241.out] at ho27 | (simp only [Int.reduceToNat] at ho27; rw [← Ny241.out] at ho27)); have n0_ := Aside0.mk (Kd.R_elder' (uR HO_7.out) (Kd.R_base ho27) hb); have n1_ := Aside0.mk (Kd.R_elder' (uR HO_27.out) (Kd.R_base ho27) hb); have n2_ := Aside0.mk (Kd.R_below (uR HO_240002.out) hb); have n3_ := Aside0.mk (Kd.S_elder' (by (with_reducible repeat (first | apply Kd.S_alloc | apply Kd.S_drewN | apply Kd.S_drew)); exact HO_240003.out) (Kd.R_base ho27) hb); have n4_ := Aside0.mk (Kd.R_lower (Kd.R_new' (Kd.R_new' ho27 (Kd.R_lt (uR HO_7.out))) (Kd.R_lt (uR HO_27.out))) (below_size (by repeat (first | (with_reducible first | exact HB.out | apply below_alloc | apply pw_below_drewN | apply below_drew1 | refine below_set ?_ GE224.out | refine below_set ?_ GE225.out | refine below_set ?_ GE239.out) | exact HB.out)))); have n5_ := Aside0.mk (blk_below (g := gb224) (o := .cells #[.int .i64 a0_0, .int .i64 a0_1, .slice A0_2 l0_2.length c0_2, .slice A0_3 l0_3.length c0_3] 25 (0, 0)) (uB BK224.out) hb); have n6_ := Aside0.mk (blk_below (g := gb225) (o := .cells #[.int .i64 0, .int .i64 0, .slice none 0 0, .slice none 0 0] 25 (0, 0)) (uB BK225.out) hb); have n7_ := Aside0.mk (blk_below (g := gb239) (o := .cells #[.int .i64 a0_0, .int .i64 0, u240002, u240003] 25 (0, 0)) (uB BK239.out) hb); have n8_ := Aside0.mk (below_step (by repeat (first | (with_reducible first | exact HB.out | apply below_alloc | apply pw_below_drewN | apply below_drew1 | refine below_set ?_ GE224.out | refine below_set ?_ GE225.out | refine below_set ?_ GE239.out) | exact HB.out)) hb); clear HO_7; clear HO_27; clear HO_240002; clear HO_240003; clear BK224; clear BK225; clear BK239; clear HB; have HO_7 := n0_; have HO_27 := n1_; have HO_240002 := n2_; have HO_240003 := n3_; have HO243 := n4_; have BK224 := n5_; have BK225 := n6_; have BK239 := n7_; have HB := n8_; clear n0_ n1_ n2_ n3_ n4_ n5_ n6_ n7_ n8_; clear hb ho27; obtain ⟨Ao28, co28, eo28⟩ := Kd.R_slice HO243.out; subst eo28))
   go_loopg [38] k1 (fun kq v38 w' => ∃ (x11_2 : List Int) (x38_2 : Int), v38 = .int .i64 x38_2 ∧ Aside0 (dfa_Trim.l1 kq x7_1 (rd x27_1 x29_1) x11_2 x27_1 (t227.length : Int) x29_1 (y241.length : Int) x38_2 a0_0 a0_1 l0_2 l0_3 a0_0 0 x240002_1 x240003_1 = some (r1, r2, r3, r4, r5)) ∧ Aside0 (kq ≤ k1) ∧ Aside0 (Kd.R (Kd.int .i64) 3 w' w.heap.size (fun k_ => some k_ ≠ ((.slice Ao28 y241.length co28) : Value).ownBlock ∧ some k_ ≠ ((.slice (some ad240) x27_1.length co17) : Value).ownBlock) v237 x7_1) ∧ Aside0 (Kd.R (Kd.int .i64) 3 w' w.heap.size (fun k_ => some k_ ≠ (v237 : Value).ownBlock ∧ some k_ ≠ ((.slice (some ad240) x27_1.length co17) : Value).ownBlock) (.slice Ao28 y241.length co28) x11_2) ∧ Aside0 (Kd.R (Kd.int .i64) 3 w' w.heap.size (fun k_ => some k_ ≠ (v237 : Value).ownBlock ∧ some k_ ≠ ((.slice Ao28 y241.length co28) : Value).ownBlock) (.slice (some ad240) x27_1.length co17) x27_1) ∧ Aside0 (Kd.R Kd.bool 4 w' w.heap.size (fun _ => True) u240002 x240002_1) ∧ Aside0 (Kd.S (Kd.slice 3 (Kd.int .i64)) 38 w' w.heap.size (fun k_ => some k_ ≠ (v237 : Value).ownBlock ∧ some k_ ≠ ((.slice Ao28 y241.length co28) : Value).ownBlock ∧ some k_ ≠ ((.slice (some ad240) x27_1.length co17) : Value).ownBlock) u240003 x240003_1) ∧ Aside0 (w'.heap[gb224]? = some (.cells #[.int .i64 a0_0, .int .i64 a0_1, (.slice A0_2 l0_2.length c0_2), (.slice A0_3 l0_3.length c0_3)] 25 (0, 0))) ∧ Aside0 (w'.heap[gb225]? = some (.cells #[.int .i64 0, .int .i64 0, (.slice none 0 0), (.slice none 0 0)] 25 (0, 0))) ∧ Aside0 (w'.heap[gb239]? = some (.cells #[.int .i64 a0_0, .int .i64 0, u240002, u240003] 25 (0, 0))) ∧ Aside0 (Below w.heap.size w w'))
   case atStart => exact ⟨(y241), (0), (by first | rfl | (simp; done) | (simp [*]; done)), H', ⟨Nat.le_refl _⟩, ⟨by (try simp only [hl27_1]); (with_reducible repeat (first | apply Kd.R_alloc | apply Kd.R_drewN | apply Kd.R_drew)); exact Kd.R_mono HO_7.out (fun _ hk => ⟨hk.2, hk.1⟩)⟩, ⟨by (try simp only [hl27_1]); (with_reducible repeat (first | apply Kd.R_alloc | apply Kd.R_drewN | apply Kd.R_drew)); exact Kd.R_mono HO243.out (fun _ hk => ⟨hk.1.2, hk.2⟩)⟩, ⟨by (try simp only [hl27_1]); (with_reducible repeat (first | apply Kd.R_alloc | apply Kd.R_drewN | apply Kd.R_drew)); exact HO_27.out⟩, ⟨by (try simp only [hl27_1]); (with_reducible repeat (first | apply Kd.R_alloc | apply Kd.R_drewN | apply Kd.R_drew)); exact HO_240002.out⟩, ⟨by (try simp only [hl27_1]); (with_reducible repeat (first | apply Kd.S_alloc | apply Kd.S_drewN | apply Kd.S_drew)); exact Kd.S_mono HO_240003.out (fun _ hk => ⟨hk.1.1, ⟨hk.2, hk.1.2⟩⟩)⟩, ⟨by (try simp only [hl27_1]); (with_reducible repeat (first | refine blk_drewN ?_ _ | refine blk_drew ?_ | refine blk_alloc ?_ _)); exact BK224.out⟩, ⟨by (try simp only [hl27_1]); (with_reducible repeat (first | refine blk_drewN ?_ _ | refine blk_drew ?_ | refine blk_alloc ?_ _)); exact BK225.out⟩, ⟨by (try simp only [hl27_1]); (with_reducible repeat (first | refine blk_drewN ?_ _ | refine blk_drew ?_ | refine blk_alloc ?_ _)); exact BK239.out⟩, ⟨by repeat (first | (with_reducible first | exact HB.out | apply below_alloc | apply pw_below_drewN | apply below_drew1 | refine below_set ?_ GE224.out | refine below_set ?_ GE225.out | refine below_set ?_ GE239.out) | exact HB.out)⟩⟩
   case round =>
    clear H'
    try clear c1
    try clear c2
    try clear p2
    try clear q2
    try clear hx2
    try clear c3
    try clear c3b0
    try clear c3b1
    try clear c4
    try clear c7
    try clear c14
    try clear c15
    try clear c18
    try clear c18b0
    try clear c19
    try clear c19b0
    try clear c20
    try clear c20b0
    try clear c21
    try clear c21b0
    try clear c21b1
    try clear c22
    try clear c22b0
    try clear c22b1
    try clear c23
    try clear c24
    try clear p24
    try clear q24
    try clear hx24
    try clear c27
    try clear hcz10_0
    try clear hcz10_1
    try clear hcz10_2
    try clear hcz10_3
    try clear hcz12_0
    try clear hcz12_1
    try clear hcz12_2
    try clear hcz12_3
    try clear hcz16_0
    try clear hcz16_1
    try clear hcz16_2
    try clear hcz16_3
    try clear hcz25_0
    try clear hcz25_1
    try clear hcz25_2
    try clear hcz25_3
    try clear hcz8_0
    try clear hcz8_1
    try clear hcz8_2
    try clear hcz8_3
    try clear hfz10_0
    try clear hfz10_1
    try clear hfz10_2
    try clear hfz10_3
    try clear hfz12_0
    try clear hfz12_1
    try clear hfz12_2
    try clear hfz12_3
    try clear hfz16_0
    try clear hfz16_1
    try clear hfz16_2
    try clear hfz16_3
    try clear hfz25_0
    try clear hfz25_1
    try clear hfz25_2
    try clear hfz25_3
    try clear hfz8_0
    try clear hfz8_1
    try clear hfz8_2
    try clear hfz8_3
    try clear hx240_0
    try clear p2
    try clear p240
    try clear q240
    obtain ⟨x11_2, x38_2, rfl, HA, HK2, HO_7, HO_11, HO_27, HO_240002, HO_240003, BK224, BK225, BK239, HB⟩ := hrel
    have hl11_2 := (Kd.R_reads' HO_11.out).1
    rw [hl11_2] at HO_11
    (try simp only [hl11_2])
    (try simp only [hl11_2] at BK224)
    (try simp only [hl11_2] at BK225)
    (try simp only [hl11_2] at BK239)
    (try simp only [hl11_2] at HO_7)
    (try simp only [hl11_2] at HO_27)
    (try simp only [hl11_2] at HO_240002)
    (try simp only [hl11_2] at HO_240003)
    cases gk with
    | zero => exact absurd HA.out (by simp [dfa_Trim.l1])
    | succ k2 =>
     have H := HA.out
     clear HA
     simp only [dfa_Trim.l1] at H
     by_cases c29 : x38_2 < (y241.length : Int)
     (focus
     rw [if_pos c29] at H
     have c29b0 : decide (x38_2 < (y241.length : Int)) = true := decide_eq_true c29
     (try (have c29b0_hl27_1 := c29b0; simp only [hl27_1] at c29b0_hl27_1))
     (try (have c29b0_hl11_2 := c29b0; simp only [hl11_2] at c29b0_hl11_2))
     clear c29
     by_cases c30 : 0 ≤ (rd x27_1 x29_1)
     (focus
     rw [if_pos c30] at H
     have c30b0 : decide (0 ≤ (rd x27_1 x29_1)) = true := decide_eq_true c30
     clear c30
     by_cases c31 : (rd x27_1 x29_1) < (l0_3.length : Int)
     (focus
     rw [if_pos c31] at H
     have c31b0 : decide ((rd x27_1 x29_1) < (l0_3.length : Int)) = true := decide_eq_true c31
     (try (have c31b0_hl27_1 := c31b0; simp only [hl27_1] at c31b0_hl27_1))
     (try (have c31b0_hl11_2 := c31b0; simp only [hl11_2] at c31b0_hl11_2))
     clear c31
     by_cases c32 : 0 ≤ x38_2
     (focus
     rw [if_pos c32] at H
     have c32b0 : decide (0 ≤ x38_2) = true := decide_eq_true c32
     clear c32
     by_cases c33 : x38_2 < ((rd_L1 l0_3 (rd x27_1 x29_1)).length : Int)
     (focus
     rw [if_pos c33] at H
     have c33b0 : decide (x38_2 < ((rd_L1 l0_3 (rd x27_1 x29_1)).length : Int)) = true := decide_eq_true c33
     (try (have c33b0_hl27_1 := c33b0; simp only [hl27_1] at c33b0_hl27_1))
     (try (have c33b0_hl11_2 := c33b0; simp only [hl11_2] at c33b0_hl11_2))
     clear c33
     by_cases c34 : 0 ≤ (rd (rd_L1 l0_3 (rd x27_1 x29_1)) x38_2)
     (focus
     rw [if_pos c34] at H
     have c34b0 : decide (0 ≤ (rd (rd_L1 l0_3 (rd x27_1 x29_1)) x38_2)) = true := decide_eq_true c34
     clear c34
     by_cases c35 : (rd (rd_L1 l0_3 (rd x27_1 x29_1)) x38_2) < (x7_1.length : Int)
     (focus
     rw [if_pos c35] at H
     have c35b0 : decide ((rd (rd_L1 l0_3 (rd x27_1 x29_1)) x38_2) < (x7_1.length : Int)) = true := decide_eq_true c35
     (try (have c35b0_hl27_1 := c35b0; simp only [hl27_1] at c35b0_hl27_1))
     (try (have c35b0_hl11_2 := c35b0; simp only [hl11_2] at c35b0_hl11_2))
     clear c35
     by_cases c36 : x38_2 < (x11_2.length : Int)
     (focus
     rw [if_pos c36] at H
     have c36b0 : decide (x38_2 < (x11_2.length : Int)) = true := decide_eq_true c36
     (try (have c36b0_hl27_1 := c36b0; simp only [hl27_1] at c36b0_hl27_1))
     (try (have c36b0_hl11_2 := c36b0; simp only [hl11_2] at c36b0_hl11_2))
     clear c36
     obtain ⟨y247, hy247⟩ : ∃ y_ : List Int, y_ = (x11_2.set (x38_2 : Int).toNat (rd x7_1 (rd (rd_L1 l0_3 (rd x27_1 x29_1)) x38_2))) := ⟨_, rfl⟩
     replace H : (dfa_Trim.l1 k2 x7_1 (rd x27_1 x29_1) y247 x27_1 (t227.length : Int) x29_1 (y241.length : Int) (wrap64 (x38_2 + 1)) a0_0 a0_1 l0_2 l0_3 a0_0 0 x240002_1 x240003_1) = some (r1, r2, r3, r4, r5) := by first | (rw [hy247]; with_reducible exact H) | (have H2_ := (Option.bind_some _ _).symm.trans H; rw [hy247]; with_reducible exact H2_) | (have H2_ := (Option.bind_some _ _).symm.trans H; with_reducible exact H2_) | with_reducible exact H | (rw [hy247]; exact H) | exact H
     have Ny247 := Aside0.mk hy247
     clear hy247
     have H' := Aside0.mk H
     clear H
     have hnb38 := NB224_225.out
     have hnc38 := NB225_224.out
     have hnb39 := NB224_239.out
     have hnc39 := NB239_224.out
     have hcz40_0 : wr.cell? ⟨gb224, 0, none⟩ = some (.int .i64 a0_0) := (blk_cell BK224.out 0).trans rfl
     have hcz40_1 : wr.cell? ⟨gb224, 1, none⟩ = some (.int .i64 a0_1) := (blk_cell BK224.out 1).trans rfl
     have hcz40_2 : wr.cell? ⟨gb224, 2, none⟩ = some (.slice A0_2 l0_2.length c0_2) := (blk_cell BK224.out 2).trans rfl
     have hcz40_3 : wr.cell? ⟨gb224, 3, none⟩ = some (.slice A0_3 l0_3.length c0_3) := (blk_cell BK224.out 3).trans rfl
     have hfz40_0 := blk_frozen BK224.out 0
     have hfz40_1 := blk_frozen BK224.out 1
     have hfz40_2 := blk_frozen BK224.out 2
     have hfz40_3 := blk_frozen BK224.out 3
     have p244 : 0 ≤ ((rd x27_1 x29_1) : Int) := of_decide_eq_true (by first | (with_reducible assumption) | assumption)
     have q244 : (rd x27_1 x29_1) < (l0_3.length : Int) := of_decide_eq_true (by first | (with_reducible assumption) | assumption)
     obtain ⟨ad244, A244_0, c244_0, e244, hx244_0, hl244_0, hi244_0⟩ := at_L1 HR0_3.out (rd x27_1 x29_1) p244 q244
     cases e244
     (try replace hx244_0 := (HB.out.cell (World.block_lt_of_cell? w _ hx244_0)).trans hx244_0)
     have HR244_0 := Aside0.mk hi244_0
     have HC244_0 := Aside0.mk hl244_0
     clear hi244_0 hl244_0
     replace p244 := eq_true p244
     replace q244 := eq_true q244
     have p245 : 0 ≤ (x38_2 : Int) := of_decide_eq_true (by first | (with_reducible assumption) | assumption)
     have q245 : x38_2 < ((rd_L1 l0_3 (rd x27_1 x29_1)).length : Int) := of_decide_eq_true (by first | (with_reducible assumption) | assumption)
     obtain ⟨ad245, e245, hx245_0⟩ := Kd.at_int HR244_0.out x38_2 p245 q245
     cases e245
     (try replace hx245_0 := (HB.out.cell (World.block_lt_of_cell? w _ hx245_0)).trans hx245_0)
     replace p245 := eq_true p245
     replace q245 := eq_true q245
     obtain ⟨Ao41, co41, eo41⟩ := Kd.R_slice HO_7.out
     subst eo41
     have p246 : 0 ≤ ((rd (rd_L1 l0_3 (rd x27_1 x29_1)) x38_2) : Int) := of_decide_eq_true (by first | (with_reducible assumption) | assumption)
     have q246 : (rd (rd_L1 l0_3 (rd x27_1 x29_1)) x38_2) < (x7_1.length : Int) := of_decide_eq_true (by first | (with_reducible assumption) | assumption)
     obtain ⟨ad246, e246, hx246_0⟩ := Kd.at_int (Kd.R_reads' HO_7.out).2.2 (rd (rd_L1 l0_3 (rd x27_1 x29_1)) x38_2) p246 q246
     cases e246
     replace p246 := eq_true p246
     replace q246 := eq_true q246
     have p37 : 0 ≤ (x38_2 : Int) := of_decide_eq_true (by first | (with_reducible assumption) | assumption)
     have q37 : (x38_2 : Int) < ((x11_2.length : Int) : Int) := of_decide_eq_true (by first | (with_reducible assumption) | assumption)
     obtain ⟨go37, co37, eo37, gb37, gl37, cl37, HG37⟩ := Kd.R_form HO_11.out (by first | omega | (have e_ := (Kd.R_reads' HO_11.out).1; omega))
     (first | cases eo37 | (injection eo37 with ea_ en_ ec_; (first | subst ea_ | (injection ea_ with ea_; subst ea_)); subst ec_; clear en_))
     have GB37 := Aside0.mk gb37
     have GG37 := Aside0.mk HG37
     clear gb37 gl37 HG37
     obtain ⟨hx37_0, hf37_0⟩ := Kd.R_celln 0 HO_11.out (x38_2 : Int) p37 q37
     replace p37 := eq_true p37
     replace q37 := eq_true q37
     have HP42 := Kd.R_putg HO_11.out (x38_2 : Int) (rd x7_1 (rd (rd_L1 l0_3 (rd x27_1 x29_1)) x38_2))
     go_wp2_with (first | ((with_reducible refine gate_store (t := 3) (p := 54) rfl ?_); refine store_event (t := 3) (p := 54) (v := ?vo_w43) (w1 := (wr.setCell ⟨go37, (x38_2 : Int).toNat, none⟩ (.int .i64 (rd x7_1 (rd (rd_L1 l0_3 (rd x27_1 x29_1)) x38_2))))) ?hg ?ho ?hn ?hr ?_; (case ho => rfl); (case hg => rfl); (case hn => rfl); (case hr => first | (go_simp; done) | (go_simp; rfl)); intro w43 hw; have hg : wr.grownBy w43 (some go37) := (by rw [hw]; exact HP42.2); have hp_ : Kd.R (Kd.int .i64) 3 w43 w.heap.size (fun k_ => some k_ ≠ (.slice (some ad246) x7_1.length co41 : Value).ownBlock ∧ some k_ ≠ (.slice (some ad240) x27_1.length co17 : Value).ownBlock) (.slice (some ⟨go37, 0, none⟩) x11_2.length co28) y247 := (by rw [hw, Ny247.out]; exact HP42.1); clear HP42; have n0_ := Aside0.mk (Kd.R_after (v := (.slice (some ⟨go37, 0, none⟩) x11_2.length co28)) (v1 := (.slice (some ⟨go37, 0, none⟩) x11_2.length co28)) (ok := (fun k_ => some k_ ≠ (.slice (some ad240) x27_1.length co17 : Value).ownBlock)) (uR (Kd.R_mono HO_7.out (fun _ hk => ⟨hk.2, hk.1⟩))) hg (.inl rfl)); have n1_ := Aside0.mk (hp_); have n2_ := Aside0.mk (Kd.R_after (v := (.slice (some ⟨go37, 0, none⟩) x11_2.length co28)) (v1 := (.slice (some ⟨go37, 0, none⟩) x11_2.length co28)) (ok := (fun k_ => some k_ ≠ (.slice (some ad246) x7_1.length co41 : Value).ownBlock)) (uR HO_27.out) hg (.inl rfl)); have n3_ := Aside0.mk (Kd.R_over' (v := (.slice (some ⟨go37, 0, none⟩) x11_2.length co28)) (uR HO_240002.out) (Kd.R_typed HO_11.out) (by decide) hg); have n4_ := Aside0.mk (Kd.S_after (v := (.slice (some ⟨go37, 0, none⟩) x11_2.length co28)) (v1 := (.slice (some ⟨go37, 0, none⟩) x11_2.length co28)) (ok := (fun k_ => some k_ ≠ (.slice (some ad246) x7_1.length co41 : Value).ownBlock ∧ some k_ ≠ (.slice (some ad240) x27_1.length co17 : Value).ownBlock)) (by (with_reducible repeat (first | apply Kd.S_alloc | apply Kd.S_drewN | apply Kd.S_drew)); exact Kd.S_mono HO_240003.out (fun _ hk => ⟨⟨hk.1, hk.2.2⟩, hk.2.1⟩)) hg (.inl rfl)); have n5_ := Aside0.mk (blk_grown (g := gb224) (o := .cells #[.int .i64 a0_0, .int .i64 a0_1, .slice A0_2 l0_2.length c0_2, .slice (some ad244) l0_3.length c0_3] 25 (0, 0)) (uB BK224.out) hg (Kd.R_ne HO_11.out BK224.out (by decide))); have n6_ := Aside0.mk (blk_grown (g := gb225) (o := .cells #[.int .i64 0, .int .i64 0, .slice none 0 0, .slice none 0 0] 25 (0, 0)) (uB BK225.out) hg (Kd.R_ne HO_11.out BK225.out (by decide))); have n7_ := Aside0.mk (blk_grown (g := gb239) (o := .cells #[.int .i64 a0_0, .int .i64 0, u240002, u240003] 25 (0, 0)) (uB BK239.out) hg (Kd.R_ne HO_11.out BK239.out (by decide))); have n8_ := Aside0.mk ((by rw [hw]; exact below_set (HB.out) GB37.out : Below w.heap.size w w43)); clear HO_7; clear HO_11; clear HO_27; clear HO_240002; clear HO_240003; clear BK224; clear BK225; clear BK239; clear HB; have HO_7 := n0_; have HO_11 := n1_; have HO_27 := n2_; have HO_240002 := n3_; have HO_240003 := n4_; have BK224 := n5_; have BK225 := n6_; have BK239 := n7_; have HB := n8_; clear n0_ n1_ n2_ n3_ n4_ n5_ n6_ n7_ n8_; clear hg hw hp_))
     (try simp only [← hl11_2])
     go_roundg k2
     case measure => have := HK1.out; have := HK2.out; omega
     case rel => exact ⟨(y247), (wrap64 (x38_2 + 1)), (by first | rfl | (simp; done) | (simp [*]; done)), H', ⟨by have := HK1.out; have := HK2.out; omega⟩, ⟨by (try simp only [hl27_1]); (try simp only [hl11_2]); (with_reducible repeat (first | apply Kd.R_alloc | apply Kd.R_drewN | apply Kd.R_drew)); exact Kd.R_mono HO_7.out (fun _ hk => ⟨hk.2, hk.1⟩)⟩, ⟨by (try simp only [hl27_1]); (try simp only [hl11_2]); (with_reducible repeat (first | apply Kd.R_alloc | apply Kd.R_drewN | apply Kd.R_drew)); exact HO_11.out⟩, ⟨by (try simp only [hl27_1]); (try simp only [hl11_2]); (with_reducible repeat (first | apply Kd.R_alloc | apply Kd.R_drewN | apply Kd.R_drew)); exact HO_27.out⟩, ⟨by (try simp only [hl27_1]); (try simp only [hl11_2]); (with_reducible repeat (first | apply Kd.R_alloc | apply Kd.R_drewN | apply Kd.R_drew)); exact HO_240002.out⟩, ⟨by (try simp only [hl27_1]); (try simp only [hl11_2]); (with_reducible repeat (first | apply Kd.S_alloc | apply Kd.S_drewN | apply Kd.S_drew)); exact Kd.S_mono HO_240003.out (fun _ hk => ⟨hk.1.1, ⟨hk.2, hk.1.2⟩⟩)⟩, ⟨by (try simp only [hl27_1]); (try simp only [hl11_2]); (with_reducible repeat (first | refine blk_drewN ?_ _ | refine blk_drew ?_ | refine blk_alloc ?_ _)); exact BK224.out⟩, ⟨by (try simp only [hl27_1]); (try simp only [hl11_2]); (with_reducible repeat (first | refine blk_drewN ?_ _ | refine blk_drew ?_ | refine blk_alloc ?_ _)); exact BK225.out⟩, ⟨by (try simp only [hl27_1]); (try simp only [hl11_2]); (with_reducible repeat (first | refine blk_drewN ?_ _ | refine blk_drew ?_ | refine blk_alloc ?_ _)); exact BK239.out⟩, ⟨by repeat (first | (with_reducible first | exact HB.out | apply below_alloc | apply pw_below_drewN | apply below_drew1 | refine below_set ?_ GE224.out | refine below_set ?_ GE225.out | refine below_set ?_ GE239.out) | exact HB.out)⟩⟩
     )
     (focus
     rw [if_neg c36] at H
     exact absurd H (by simp)
     )
     )
     (focus
     rw [if_neg c35] at H
     exact absurd H (by simp)
     )
     )
     (focus
     rw [if_neg c34] at H
     exact absurd H (by simp)
     )
     )
     (focus
     rw [if_neg c33] at H
     exact absurd H (by simp)
     )
     )
     (focus
     rw [if_neg c32] at H
     exact absurd H (by simp)
     )
     )
     (focus
     rw [if_neg c31] at H
     exact absurd H (by simp)
     )
     )
     (focus
     rw [if_neg c30] at H
     exact absurd H (by simp)
     )
     )
     (focus
     rw [if_neg c29] at H
     have c29b0 : decide (x38_2 < (y241.length : Int)) = false := decide_eq_false c29
     (try (have c29b0_hl27_1 := c29b0; simp only [hl27_1] at c29b0_hl27_1))
     (try (have c29b0_hl11_2 := c29b0; simp only [hl11_2] at c29b0_hl11_2))
     clear c29
     by_cases c44 : 0 ≤ (rd x27_1 x29_1)
     (focus
     rw [if_pos c44] at H
     have c44b0 : decide (0 ≤ (rd x27_1 x29_1)) = true := decide_eq_true c44
     clear c44
     by_cases c45 : (rd x27_1 x29_1) < (l0_2.length : Int)
     (focus
     rw [if_pos c45] at H
     have c45b0 : decide ((rd x27_1 x29_1) < (l0_2.length : Int)) = true := decide_eq_true c45
     (try (have c45b0_hl27_1 := c45b0; simp only [hl27_1] at c45b0_hl27_1))
     (try (have c45b0_hl11_2 := c45b0; simp only [hl11_2] at c45b0_hl11_2))
     clear c45
     by_cases c46 : x240002_1.length < 140737488355328
     (focus
     rw [if_pos c46] at H
     have LMc46 := Aside0.mk c46
     clear c46
     obtain ⟨y249, hy249⟩ : ∃ y_ : List Bool, y_ = (x240002_1 ++ [rdOf false l0_2 (rd x27_1 x29_1)]) := ⟨_, rfl⟩
     replace H : (if x240003_1.length < 5864062014805 then (dfa_Trim.l0 k2 x7_1 x27_1 (t227.length : Int) (wrap64 (x29_1 + 1)) a0_0 a0_1 l0_2 l0_3 a0_0 0 y249 (x240003_1 ++ [x11_2])) else (none)) = some (r1, r2, r3, r4, r5) := by first | (rw [hy249]; with_reducible exact H) | (have H2_ := (Option.bind_some _ _).symm.trans H; rw [hy249]; with_reducible exact H2_) | (have H2_ := (Option.bind_some _ _).symm.trans H; with_reducible exact H2_) | with_reducible exact H | (rw [hy249]; exact H) | exact H
     have Ny249 := Aside0.mk hy249
     clear hy249
     by_cases c47 : x240003_1.length < 5864062014805
     (focus
     rw [if_pos c47] at H
     have LMc47 := Aside0.mk c47
     clear c47
     obtain ⟨y252, hy252⟩ : ∃ y_ : List (List Int), y_ = (x240003_1 ++ [x11_2]) := ⟨_, rfl⟩
     replace H : (dfa_Trim.l0 k2 x7_1 x27_1 (t227.length : Int) (wrap64 (x29_1 + 1)) a0_0 a0_1 l0_2 l0_3 a0_0 0 y249 y252) = some (r1, r2, r3, r4, r5) := by first | (rw [hy252]; with_reducible exact H) | (have H2_ := (Option.bind_some _ _).symm.trans H; rw [hy252]; with_reducible exact H2_) | (have H2_ := (Option.bind_some _ _).symm.trans H; with_reducible exact H2_) | with_reducible exact H | (rw [hy252]; exact H) | exact H
     have Ny252 := Aside0.mk hy252
     clear hy252
     have H' := Aside0.mk H
     clear H
     try go_wp2
     have n0_ := Aside0.mk (Kd.R_drew HO_7.out)
     have n1_ := Aside0.mk (Kd.R_drew HO_11.out)
     have n2_ := Aside0.mk (Kd.R_drew HO_27.out)
     have n3_ := Aside0.mk (Kd.R_drew HO_240002.out)
     have n4_ := Aside0.mk (Kd.S_drew HO_240003.out)
     have n5_ := Aside0.mk (blk_drew BK224.out)
     have n6_ := Aside0.mk (blk_drew BK225.out)
     have n7_ := Aside0.mk (blk_drew BK239.out)
     have n8_ := Aside0.mk (below_drew1 HB.out)
     clear HO_7
     clear HO_11
     clear HO_27
     clear HO_240002
     clear HO_240003
     clear BK224
     clear BK225
     clear BK239
     clear HB
     have HO_7 := n0_
     have HO_11 := n1_
     have HO_27 := n2_
     have HO_240002 := n3_
     have HO_240003 := n4_
     have BK224 := n5_
     have BK225 := n6_
     have BK239 := n7_
     have HB := n8_
     clear n0_ n1_ n2_ n3_ n4_ n5_ n6_ n7_ n8_
     have p248 : 0 ≤ ((rd x27_1 x29_1) : Int) := of_decide_eq_true (by first | (with_reducible assumption) | assumption)
     have q248 : (rd x27_1 x29_1) < (l0_2.length : Int) := of_decide_eq_true (by first | (with_reducible assumption) | assumption)
     obtain ⟨ad248, e248, hx248_0⟩ := Kd.at_bool HR0_2.out (rd x27_1 x29_1) p248 q248
     have hw248_0 := hx248_0
     cases e248
     (try replace hx248_0 := (HB.out.cell (World.block_lt_of_cell? w _ hx248_0)).trans hx248_0)
     replace p248 := eq_true p248
     replace q248 := eq_true q248
     refine start_ (n := 11) (S := fun w' => w'.cell? ⟨gb239, 0, none⟩ = some (.int .i64 a0_0) ∧ w'.cell? ⟨gb239, 1, none⟩ = some (.int .i64 0) ∧ w'.cell? ⟨gb239, 2, none⟩ = some (u240002) ∧ w'.cell? ⟨gb239, 3, none⟩ = some (u240003) ∧ w'.cell? ⟨gb224, 0, none⟩ = some (.int .i64 a0_0) ∧ w'.cell? ⟨gb224, 1, none⟩ = some (.int .i64 a0_1) ∧ w'.cell? ⟨gb224, 2, none⟩ = some (.slice (some ad248) l0_2.length c0_2) ∧ w'.cell? ⟨gb224, 3, none⟩ = some (.slice A0_3 l0_3.length c0_3) ∧ w'.cell? (ad248.add ((rd x27_1 x29_1)).toNat) = some (.bool (rdOf false l0_2 (rd x27_1 x29_1)))) (ds := [10]) #[false, false, false, false, false, false, false, false, false, false, false] (by kernel_rfl) rfl rfl ⟨(blk_cell BK239.out 0).trans rfl, (blk_cell BK239.out 1).trans rfl, (blk_cell BK239.out 2).trans rfl, (blk_cell BK239.out 3).trans rfl, (blk_cell BK224.out 0).trans rfl, (blk_cell BK224.out 1).trans rfl, (blk_cell BK224.out 2).trans rfl, (blk_cell BK224.out 3).trans rfl, ((HB.out.cell (World.block_lt_of_cell? w _ hw248_0)).trans hw248_0)⟩ (fun hHeld => ?_); refine with_tabW dfa_Trim.tab14 dfa_Trim.bits14 (fun HT_ HW_ => ?_)
     generalize wr.drew = w48 at HO_7 HO_11 HO_27 HO_240002 HO_240003 BK224 BK225 BK239 HB hx248_0 hHeld ⊢
     refine pure_ (i := 0) (N := some 56) (v := ?_) (a' := ?_) #[true, false, false, false, false, false, false, false, false, false, false] rfl rfl (any_of HT_.out (by kernel_rfl)) (fun _ _ _ h => h) (Or.inl ⟨by rfl, ?_⟩) ?_ ?_
     rotate_left
     (focus
     intro w'
     go_simp
     with_reducible rfl
     )
     rotate_left
     (focus
     simp only [Act.put, List.setIfInBounds_toArray, List.set_cons_zero, List.set_cons_succ, i64_w, i32_w]
     rfl
     )
     refine pure_ (i := 2) (N := some 58) (v := ?_) (a' := ?_) #[true, false, true, false, false, false, false, false, false, false, false] rfl rfl (any_of HT_.out (by kernel_rfl)) (fun _ _ _ h => h) (Or.inl ⟨by rfl, ?_⟩) ?_ ?_
     rotate_left
     (focus
     intro w'
     go_simp
     with_reducible rfl
     )
     rotate_left
     (focus
     simp only [Act.put, List.setIfInBounds_toArray, List.set_cons_zero, List.set_cons_succ, i64_w, i32_w]
     rfl
     )
     refine pure_ (i := 4) (N := some 60) (v := ?_) (a' := ?_) #[true, false, true, false, true, false, false, false, false, false, false] rfl rfl (any_of HT_.out (by kernel_rfl)) (fun _ _ _ h => h) (Or.inl ⟨by rfl, ?_⟩) ?_ ?_
     rotate_left
     (focus
     intro w'
     go_simp
     with_reducible rfl
     )
     rotate_left
     (focus
     simp only [Act.put, List.setIfInBounds_toArray, List.set_cons_zero, List.set_cons_succ, i64_w, i32_w]
     rfl
     )
     refine take_ (i := 1) (N := some 57) (v := ?_) (a' := ?_) #[true, true, true, false, true, false, false, false, false, false, false] rfl rfl (take_ofW HT_.out HW_.out (by kernel_rfl)) (fun _ _ _ h => h) (Or.inl ⟨by rfl, ?_⟩) hHeld ?_ ?_
     rotate_left
     (focus
     rintro w' ⟨s0, s1, s2, s3, s4, s5, s6, s7, s8⟩
     go_simp
     with_reducible rfl
     )
     rotate_left
     (focus
     simp only [Act.put, List.setIfInBounds_toArray, List.set_cons_zero, List.set_cons_succ, i64_w, i32_w]
     rfl
     )
     refine take_ (i := 3) (N := some 59) (v := ?_) (a' := ?_) #[true, true, true, true, true, false, false, false, false, false, false] rfl rfl (take_ofW HT_.out HW_.out (by kernel_rfl)) (fun _ _ _ h => h) (Or.inl ⟨by rfl, ?_⟩) hHeld ?_ ?_
     rotate_left
     (focus
     rintro w' ⟨s0, s1, s2, s3, s4, s5, s6, s7, s8⟩
     go_simp
     with_reducible rfl
     )
     rotate_left
     (focus
     simp only [Act.put, List.setIfInBounds_toArray, List.set_cons_zero, List.set_cons_succ, i64_w, i32_w]
     rfl
     )
     refine pure_ (i := 5) (N := some 61) (v := ?_) (a' := ?_) #[true, true, true, true, true, true, false, false, false, false, false] rfl rfl (any_of HT_.out (by kernel_rfl)) (fun _ _ _ h => h) (Or.inl ⟨by rfl, ?_⟩) ?_ ?_
     rotate_left
     (focus
     intro w'
     go_simp
     with_reducible rfl
     )
     rotate_left
     (focus
     simp only [Act.put, List.setIfInBounds_toArray, List.set_cons_zero, List.set_cons_succ, i64_w, i32_w]
     rfl
     )
     refine take_ (i := 6) (N := some 62) (v := ?_) (a' := ?_) #[true, true, true, true, true, true, true, false, false, false, false] rfl rfl (take_ofW HT_.out HW_.out (by kernel_rfl)) (fun _ _ _ h => h) (Or.inl ⟨by rfl, ?_⟩) hHeld ?_ ?_
     rotate_left
     (focus
     rintro w' ⟨s0, s1, s2, s3, s4, s5, s6, s7, s8⟩
     go_simp
     with_reducible rfl
     )
     rotate_left
     (focus
     simp only [Act.put, List.setIfInBounds_toArray, List.set_cons_zero, List.set_cons_succ, i64_w, i32_w]
     rfl
     )
     refine one_ (i := 7) (N := some 63) #[true, true, true, true, true, true, true, true, false, false, false] rfl rfl (one_of HT_.out (by kernel_rfl)) (by decide) (fun K hK => ?_)
     refine value_ (w1 := ?_) (v := ?_) (by rfl) rfl ?_ ?_
     rotate_left 2
     (focus
     go_simp
     constructor
     (focus
     rfl
     )
     (focus
     rfl
     )
     )
     refine hK.out _ _ ⟨(blk_cell (blk_alloc BK239.out _) 0).trans rfl, (blk_cell (blk_alloc BK239.out _) 1).trans rfl, (blk_cell (blk_alloc BK239.out _) 2).trans rfl, (blk_cell (blk_alloc BK239.out _) 3).trans rfl, (blk_cell (blk_alloc BK224.out _) 0).trans rfl, (blk_cell (blk_alloc BK224.out _) 1).trans rfl, (blk_cell (blk_alloc BK224.out _) 2).trans rfl, (blk_cell (blk_alloc BK224.out _) 3).trans rfl, (World.cell?_alloc_lt _ _ _ (World.block_lt_of_cell? _ _ (((HB.out.cell (World.block_lt_of_cell? w _ hw248_0)).trans hw248_0)))).trans (((HB.out.cell (World.block_lt_of_cell? w _ hw248_0)).trans hw248_0))⟩ (fun hHeld => ?_)
     clear hK K
     refine norm_ (a' := ?_) ?_ ?_
     rotate_left
     (focus
     show Act.put _ (some 63) _ = _
     simp only [Act.put, List.setIfInBounds_toArray, List.set_cons_zero, List.set_cons_succ, i64_w, i32_w]
     rfl
     )
     refine one_ (i := 8) (N := some 64) #[true, true, true, true, true, true, true, true, true, false, false] rfl rfl (one_of HT_.out (by kernel_rfl)) (by decide) (fun K hK => ?_)
     refine Kd.R_append_step Kd.bool (w0 := w) w.heap.size (by rfl) (.tmp 57) (.tmp 63) 22 4 (.bool false) 1 rfl Try.underlying22 info4 rfl (by decide) (by omega) u240002 x240002_1 (rdOf false l0_2 (rd x27_1 x29_1)) [.bool (rdOf false l0_2 (rd x27_1 x29_1))] (fun _ => True) (fun _ => False) rfl rfl ?aP (fun _ hk => hk.elim) ?aF ?aO ?aB ?aS ?aL ?_
     (case aP => exact rfl)
     (case aB => exact (by repeat (first | (with_reducible first | exact HB.out | apply below_alloc | apply pw_below_drewN | apply below_drew1 | refine below_set ?_ GE224.out | refine below_set ?_ GE225.out | refine below_set ?_ GE239.out) | exact HB.out)))
     (case aF => exact (fun _ _ => trivial))
     (case aO => exact (uR HO_240002.out))
     (case aS => exact (below_size (by repeat (first | (with_reducible first | exact HB.out | apply below_alloc | apply pw_below_drewN | apply below_drew1 | refine below_set ?_ GE224.out | refine below_set ?_ GE225.out | refine below_set ?_ GE239.out) | exact HB.out))))
     (case aL => have := LMc46.out; omega)
     intro v250 w49 ho hb hg hat
     rw [← Ny249.out] at ho
     have n0_ := Aside0.mk (Kd.R_over' (uR HO_7.out) (Kd.R_typed (uR HO_240002.out)) (by decide) hg)
     have n1_ := Aside0.mk (Kd.R_over' (uR HO_11.out) (Kd.R_typed (uR HO_240002.out)) (by decide) hg)
     have n2_ := Aside0.mk (Kd.R_over' (uR HO_27.out) (Kd.R_typed (uR HO_240002.out)) (by decide) hg)
     have n3_ := Aside0.mk (Kd.S_over' (by (with_reducible repeat (first | apply Kd.S_alloc | apply Kd.S_drewN | apply Kd.S_drew)); exact HO_240003.out) (Kd.R_typed (uR HO_240002.out)) (by decide) hg)
     have n4_ := Aside0.mk (blk_grown (g := gb224) (o := .cells #[.int .i64 a0_0, .int .i64 a0_1, .slice (some ad248) l0_2.length c0_2, .slice A0_3 l0_3.length c0_3] 25 (0, 0)) (uB BK224.out) hg (Kd.R_ne HO_240002.out BK224.out (by decide)))
     have n5_ := Aside0.mk (blk_grown (g := gb225) (o := .cells #[.int .i64 0, .int .i64 0, .slice none 0 0, .slice none 0 0] 25 (0, 0)) (uB BK225.out) hg (Kd.R_ne HO_240002.out BK225.out (by decide)))
     have n6_ := Aside0.mk (blk_grown (g := gb239) (o := .cells #[.int .i64 a0_0, .int .i64 0, u240002, u240003] 25 (0, 0)) (uB BK239.out) hg (Kd.R_ne HO_240002.out BK239.out (by decide)))
     have n7_ := Aside0.mk (hb)
     have n8_ := Aside0.mk (ho)
     clear HO_7
     clear HO_11
     clear HO_27
     clear HO_240003
     clear BK224
     clear BK225
     clear BK239
     clear HB
     clear HO_240002
     have HO_7 := n0_
     have HO_11 := n1_
     have HO_27 := n2_
     have HO_240003 := n3_
     have BK224 := n4_
     have BK225 := n5_
     have BK239 := n6_
     have HB := n7_
     have HO251 := n8_
     clear n0_ n1_ n2_ n3_ n4_ n5_ n6_ n7_ n8_
     clear ho hb hg hat
     obtain ⟨Ao50, co50, eo50⟩ := Kd.R_slice HO251.out
     (first | subst eo50 | (injection eo50 with f1_ f2_ f3_; have f4_ := f1_.symm; have f5_ := f3_.symm; clear f1_ f2_ f3_; subst f4_; subst f5_))
     refine hK.out _ _ ⟨(blk_cell BK239.out 0).trans rfl, (blk_cell BK239.out 1).trans rfl, (blk_cell BK239.out 2).trans rfl, (blk_cell BK239.out 3).trans rfl, (blk_cell BK224.out 0).trans rfl, (blk_cell BK224.out 1).trans rfl, (blk_cell BK224.out 2).trans rfl, (blk_cell BK224.out 3).trans rfl, ((HB.out.cell (World.block_lt_of_cell? w _ hw248_0)).trans hw248_0)⟩ (fun hHeld => ?_)
     clear hK K
     refine norm_ (a' := ?_) ?_ ?_
     rotate_left
     (focus
     show Act.put _ (some 64) _ = _
     simp only [Act.put, List.setIfInBounds_toArray, List.set_cons_zero, List.set_cons_succ, i64_w, i32_w]
     rfl
     )
     refine pure_ (i := 9) (N := some 65) (v := ?_) (a' := ?_) #[true, true, true, true, true, true, true, true, true, true, false] rfl rfl (any_of HT_.out (by kernel_rfl)) (fun _ _ _ h => h) (Or.inl ⟨by rfl, ?_⟩) ?_ ?_
     rotate_left
     (focus
     intro w'
     go_simp
     with_reducible rfl
     )
     rotate_left
     (focus
     simp only [Act.put, List.setIfInBounds_toArray, List.set_cons_zero, List.set_cons_succ, i64_w, i32_w]
     rfl
     )
     refine last_ (i := 10) (N := none) #[true, true, true, true, true, true, true, true, true, true, true] rfl rfl (one_of HT_.out (by kernel_rfl)) (by decide) (fun K hK => ?_)
     have hs51 : w49.cell? ⟨gb239, 2, none⟩ = some (u240002) := (blk_cell BK239.out 2).trans rfl
     have hfs51 := blk_frozen BK239.out 2
     have hns51_0 := NB224_239.out
     have hns51_1 := NB225_239.out
     have hms51_0 := NB239_224.out
     have hms51_1 := NB239_225.out
     refine skip_ (w1 := ?_) (by rfl) rfl ?_ ?_
     rotate_left
     (focus
     go_simp
     rfl
     )
     refine hK.out _ _ ?_
     clear hK K
     refine done_ (done_of HT_.out (by kernel_rfl)) ?_
     have n0_ : Aside0 (Kd.R (Kd.int .i64) 3 (w49.setCell ⟨gb239, 2, none⟩ (.slice Ao50 y249.length co50)) w.heap.size (fun k_ => some k_ ≠ (.slice Ao28 x11_2.length co28 : Value).ownBlock ∧ some k_ ≠ (.slice (some ad240) x27_1.length co17 : Value).ownBlock) v237 x7_1) := ⟨by (with_reducible repeat (first | apply Kd.R_alloc | apply Kd.R_drewN | apply Kd.R_drew)); exact Kd.R_mono (Kd.R_far (p := ⟨gb239, 2, none⟩) (Kd.R_types HO_7.out BK239.out (by decide)) (fun _ hk => hk.2) (.slice Ao50 y249.length co50)) (fun _ hk => ⟨hk.1.1, hk.1.2⟩)⟩
     have n1_ : Aside0 (Kd.R (Kd.int .i64) 3 (w49.setCell ⟨gb239, 2, none⟩ (.slice Ao50 y249.length co50)) w.heap.size (fun k_ => some k_ ≠ (v237 : Value).ownBlock ∧ some k_ ≠ (.slice (some ad240) x27_1.length co17 : Value).ownBlock) (.slice Ao28 x11_2.length co28) x11_2) := ⟨by (with_reducible repeat (first | apply Kd.R_alloc | apply Kd.R_drewN | apply Kd.R_drew)); exact Kd.R_mono (Kd.R_far (p := ⟨gb239, 2, none⟩) (Kd.R_types HO_11.out BK239.out (by decide)) (fun _ hk => hk.2) (.slice Ao50 y249.length co50)) (fun _ hk => ⟨hk.1.1, hk.1.2⟩)⟩
     have n2_ : Aside0 (Kd.R (Kd.int .i64) 3 (w49.setCell ⟨gb239, 2, none⟩ (.slice Ao50 y249.length co50)) w.heap.size (fun k_ => some k_ ≠ (v237 : Value).ownBlock ∧ some k_ ≠ (.slice Ao28 x11_2.length co28 : Value).ownBlock) (.slice (some ad240) x27_1.length co17) x27_1) := ⟨by (with_reducible repeat (first | apply Kd.R_alloc | apply Kd.R_drewN | apply Kd.R_drew)); exact Kd.R_mono (Kd.R_far (p := ⟨gb239, 2, none⟩) (Kd.R_types HO_27.out BK239.out (by decide)) (fun _ hk => hk.2) (.slice Ao50 y249.length co50)) (fun _ hk => ⟨hk.1.1, hk.1.2⟩)⟩
     have n3_ : Aside0 (Kd.S (Kd.slice 3 (Kd.int .i64)) 38 (w49.setCell ⟨gb239, 2, none⟩ (.slice Ao50 y249.length co50)) w.heap.size (fun k_ => some k_ ≠ (v237 : Value).ownBlock ∧ some k_ ≠ (.slice Ao28 x11_2.length co28 : Value).ownBlock ∧ some k_ ≠ (.slice (some ad240) x27_1.length co17 : Value).ownBlock) u240003 x240003_1) := ⟨by (with_reducible repeat (first | apply Kd.S_alloc | apply Kd.S_drewN | apply Kd.S_drew)); exact Kd.S_mono (Kd.S_far (p := ⟨gb239, 2, none⟩) (Kd.S_types HO_240003.out BK239.out (by decide)) (fun _ hk => hk.2) (.slice Ao50 y249.length co50)) (fun _ hk => ⟨hk.1.1, ⟨hk.1.2.1, hk.1.2.2⟩⟩)⟩
     have n4_ : Aside0 (Kd.R Kd.bool 4 (w49.setCell ⟨gb239, 2, none⟩ (.slice Ao50 y249.length co50)) w.heap.size (fun _ => True) (.slice Ao50 y249.length co50) y249) := ⟨by (with_reducible repeat (first | apply Kd.R_alloc | apply Kd.R_drewN | apply Kd.R_drew)); exact Kd.R_mono (Kd.R_far (p := ⟨gb239, 2, none⟩) (Kd.R_types HO251.out BK239.out (by decide)) (fun _ hk => hk.2) (.slice Ao50 y249.length co50)) (fun _ hk => trivial)⟩
     have n5_ : Aside0 ((w49.setCell ⟨gb239, 2, none⟩ (.slice Ao50 y249.length co50)).heap[gb224]? = some (.cells #[.int .i64 a0_0, .int .i64 a0_1, .slice (some ad248) l0_2.length c0_2, .slice A0_3 l0_3.length c0_3] 25 (0, 0))) := ⟨by (with_reducible repeat (first | refine blk_drewN ?_ _ | refine blk_drew ?_ | refine blk_alloc ?_ _)); refine blk_far ?_ NB224_239.out _; (with_reducible repeat (first | refine blk_drewN ?_ _ | refine blk_drew ?_ | refine blk_alloc ?_ _)); exact BK224.out⟩
     have n6_ : Aside0 ((w49.setCell ⟨gb239, 2, none⟩ (.slice Ao50 y249.length co50)).heap[gb225]? = some (.cells #[.int .i64 0, .int .i64 0, .slice none 0 0, .slice none 0 0] 25 (0, 0))) := ⟨by (with_reducible repeat (first | refine blk_drewN ?_ _ | refine blk_drew ?_ | refine blk_alloc ?_ _)); refine blk_far ?_ NB225_239.out _; (with_reducible repeat (first | refine blk_drewN ?_ _ | refine blk_drew ?_ | refine blk_alloc ?_ _)); exact BK225.out⟩
     have n7_ : Aside0 ((w49.setCell ⟨gb239, 2, none⟩ (.slice Ao50 y249.length co50)).heap[gb239]? = some (.cells #[.int .i64 a0_0, .int .i64 0, .slice Ao50 y249.length co50, u240003] 25 (0, 0))) := ⟨by (with_reducible repeat (first | refine blk_drewN ?_ _ | refine blk_drew ?_ | refine blk_alloc ?_ _)); refine blk_put (cs := #[.int .i64 a0_0, .int .i64 0, u240002, u240003]) ?_ 2 _ rfl; (with_reducible repeat (first | refine blk_drewN ?_ _ | refine blk_drew ?_ | refine blk_alloc ?_ _)); exact BK239.out⟩
     have n8_ : Aside0 (Below w.heap.size w (w49.setCell ⟨gb239, 2, none⟩ (.slice Ao50 y249.length co50))) := ⟨by repeat (first | (with_reducible first | exact HB.out | apply below_alloc | apply pw_below_drewN | apply below_drew1 | refine below_set ?_ GE224.out | refine below_set ?_ GE225.out | refine below_set ?_ GE239.out) | exact HB.out)⟩
     (try clear HO_7)
     (try clear HO_11)
     (try clear HO_27)
     (try clear HO_240003)
     (try clear HO251)
     (try clear BK224)
     (try clear BK225)
     (try clear BK239)
     (try clear HB)
     generalize (w49.setCell ⟨gb239, 2, none⟩ (.slice Ao50 y249.length co50)) = w52 at n0_ n1_ n2_ n3_ n4_ n5_ n6_ n7_ n8_ ⊢
     have HO_7 := n0_
     have HO_11 := n1_
     have HO_27 := n2_
     have HO_240003 := n3_
     have HO251 := n4_
     have BK224 := n5_
     have BK225 := n6_
     have BK239 := n7_
     have HB := n8_
     clear n0_ n1_ n2_ n3_ n4_ n5_ n6_ n7_ n8_
     have hnb53 := NB239_224.out
     have hnc53 := NB224_239.out
     have hnb54 := NB239_225.out
     have hnc54 := NB225_239.out
     have hcz55_0 : w52.cell? ⟨gb239, 0, none⟩ = some (.int .i64 a0_0) := (blk_cell BK239.out 0).trans rfl
     have hcz55_1 : w52.cell? ⟨gb239, 1, none⟩ = some (.int .i64 0) := (blk_cell BK239.out 1).trans rfl
     have hcz55_2 : w52.cell? ⟨gb239, 2, none⟩ = some (.slice Ao50 y249.length co50) := (blk_cell BK239.out 2).trans rfl
     have hcz55_3 : w52.cell? ⟨gb239, 3, none⟩ = some (u240003) := (blk_cell BK239.out 3).trans rfl
     have hfz55_0 := blk_frozen BK239.out 0
     have hfz55_1 := blk_frozen BK239.out 1
     have hfz55_2 := blk_frozen BK239.out 2
     have hfz55_3 := blk_frozen BK239.out 3
     try go_wp2_with (first | ((with_reducible refine gate_builtin (b := .append) (xs := #[.tmp 67, .tmp 69]) rfl ?_); at_builtin; refine Kd.S_append (Kd.slice 3 (Kd.int .i64)) (w0 := w) w.heap.size rfl (.tmp 67) (.tmp 69) 23 38 (.slice none 0 0) 24 rfl Try.underlying23 info38 rfl (by decide) (by omega) u240003 x240003_1 x11_2 [.slice Ao28 x11_2.length co28] (fun k_ => some k_ ≠ (v237 : Value).ownBlock ∧ some k_ ≠ (.slice (some ad240) x27_1.length co17 : Value).ownBlock) (fun k_ => some k_ = (.slice Ao28 x11_2.length co28 : Value).ownBlock) rfl rfl ?aP (fun k_ hk_ => ((Kd.R_mono (ok' := fun k_ => ((fun k_ => some k_ ≠ (v237 : Value).ownBlock ∧ some k_ ≠ (.slice (some ad240) x27_1.length co17 : Value).ownBlock)) k_ ∧ some k_ ≠ (u240003 : Value).ownBlock) (Kd.R_apart' (HO_11.out) (Kd.S_typed HO_240003.out) (by decide)) (fun k_ hk => ⟨⟨hk.1.1, hk.1.2⟩, hk.2⟩))).1 k_ hk_.symm) ?aF ?aO ?aB ?aS ?aL ?_; (case aP => exact Kd.M_row (Kd.R_mono (Kd.R_tight rfl (Kd.R_mono (ok' := fun k_ => ((fun k_ => some k_ ≠ (v237 : Value).ownBlock ∧ some k_ ≠ (.slice (some ad240) x27_1.length co17 : Value).ownBlock)) k_ ∧ some k_ ≠ (u240003 : Value).ownBlock) (Kd.R_apart' (HO_11.out) (Kd.S_typed HO_240003.out) (by decide)) (fun k_ hk => ⟨⟨hk.1.1, hk.1.2⟩, hk.2⟩))) (fun _ h_ => h_))); (case aB => exact (by repeat (first | (with_reducible first | exact HB.out | apply below_alloc | apply pw_below_drewN | apply below_drew1 | refine below_set ?_ GE224.out | refine below_set ?_ GE225.out | refine below_set ?_ GE239.out) | exact HB.out))); (case aF => exact (fun k_ hk => ⟨Kd.fresh' (Kd.R_lt (uR HO_7.out)) k_ hk, Kd.fresh' (Kd.R_lt (uR HO_27.out)) k_ hk⟩)); (case aO => exact (by (with_reducible repeat (first | apply Kd.S_alloc | apply Kd.S_drewN | apply Kd.S_drew)); exact Kd.S_mono HO_240003.out (fun k_ hk => ⟨⟨hk.1, hk.2.2⟩, fun e_ => hk.2.1 e_⟩))); (case aS => exact (below_size (by repeat (first | (with_reducible first | exact HB.out | apply below_alloc | apply pw_below_drewN | apply below_drew1 | refine below_set ?_ GE224.out | refine below_set ?_ GE225.out | refine below_set ?_ GE239.out) | exact HB.out)))); (case aL => have := LMc47.out; omega); intro v253 w56 ho hb hg hat; rw [← Ny252.out] at ho; have n0_ := Aside0.mk (Kd.R_over' (uR HO_7.out) (Kd.S_typed (by (with_reducible repeat (first | apply Kd.S_alloc | apply Kd.S_drewN | apply Kd.S_drew)); exact HO_240003.out)) (by decide) hg); have n1_ := Aside0.mk (Kd.R_over' (uR HO_27.out) (Kd.S_typed (by (with_reducible repeat (first | apply Kd.S_alloc | apply Kd.S_drewN | apply Kd.S_drew)); exact HO_240003.out)) (by decide) hg); have n2_ := Aside0.mk (blk_grown (g := gb224) (o := .cells #[.int .i64 a0_0, .int .i64 a0_1, .slice (some ad248) l0_2.length c0_2, .slice A0_3 l0_3.length c0_3] 25 (0, 0)) (uB BK224.out) hg (Kd.S_ne HO_240003.out BK224.out (by decide))); have n3_ := Aside0.mk (blk_grown (g := gb225) (o := .cells #[.int .i64 0, .int .i64 0, .slice none 0 0, .slice none 0 0] 25 (0, 0)) (uB BK225.out) hg (Kd.S_ne HO_240003.out BK225.out (by decide))); have n4_ := Aside0.mk (blk_grown (g := gb239) (o := .cells #[.int .i64 a0_0, .int .i64 0, .slice Ao50 y249.length co50, u240003] 25 (0, 0)) (uB BK239.out) hg (Kd.S_ne HO_240003.out BK239.out (by decide))); have n5_ := Aside0.mk (Kd.R_over' (uR HO251.out) (Kd.S_typed (by (with_reducible repeat (first | apply Kd.S_alloc | apply Kd.S_drewN | apply Kd.S_drew)); exact HO_240003.out)) (by decide) hg); have n6_ := Aside0.mk (hb); have n7_ := Aside0.mk (ho); clear HO_7; clear HO_27; clear BK224; clear BK225; clear BK239; clear HO251; clear HB; clear HO_240003; clear HO_11; have HO_7 := n0_; have HO_27 := n1_; have BK224 := n2_; have BK225 := n3_; have BK239 := n4_; have HO251 := n5_; have HB := n6_; have HO254 := n7_; clear n0_ n1_ n2_ n3_ n4_ n5_ n6_ n7_; clear ho hb hg hat; obtain ⟨Ao57, co57, eo57⟩ := Kd.S_slice HO254.out; subst eo57; have hcz58_0 : w56.cell? ⟨gb239, 0, none⟩ = some (.int .i64 a0_0) := (blk_cell BK239.out 0).trans rfl; have hcz58_1 : w56.cell? ⟨gb239, 1, none⟩ = some (.int .i64 0) := (blk_cell BK239.out 1).trans rfl; have hcz58_2 : w56.cell? ⟨gb239, 2, none⟩ = some (.slice Ao50 y249.length co50) := (blk_cell BK239.out 2).trans rfl; have hcz58_3 : w56.cell? ⟨gb239, 3, none⟩ = some (u240003) := (blk_cell BK239.out 3).trans rfl; have hfz58_0 := blk_frozen BK239.out 0; have hfz58_1 := blk_frozen BK239.out 1; have hfz58_2 := blk_frozen BK239.out 2; have hfz58_3 := blk_frozen BK239.out 3))
     (try simp only [← hl27_1, ← hl11_2])
     go_roundg k2
     case measure => have := HK1.out; have := HK2.out; omega
     case rel => exact ⟨(x7_1), (x27_1), (wrap64 (x29_1 + 1)), (y249), (y252), (.slice Ao50 y249.length co50), (.slice Ao57 y252.length co57), (by first | rfl | (simp; done) | (simp [*]; done)), H', ⟨by have := HK1.out; have := HK2.out; omega⟩, ⟨by (try simp only [hl27_1]); (try simp only [hl11_2]); (with_reducible repeat (first | apply Kd.R_alloc | apply Kd.R_drewN | apply Kd.R_drew)); exact Kd.R_mono (Kd.R_far (p := ⟨gb239, 3, none⟩) (Kd.R_types HO_7.out BK239.out (by decide)) (fun _ hk => hk.2) (.slice Ao57 y252.length co57)) (fun _ hk => hk.1.2)⟩, ⟨by (try simp only [hl27_1]); (try simp only [hl11_2]); (with_reducible repeat (first | apply Kd.R_alloc | apply Kd.R_drewN | apply Kd.R_drew)); exact Kd.R_mono (Kd.R_far (p := ⟨gb239, 3, none⟩) (Kd.R_types HO_27.out BK239.out (by decide)) (fun _ hk => hk.2) (.slice Ao57 y252.length co57)) (fun _ hk => hk.1.1)⟩, ⟨by (try simp only [hl27_1]); (try simp only [hl11_2]); (with_reducible repeat (first | apply Kd.R_alloc | apply Kd.R_drewN | apply Kd.R_drew)); exact Kd.R_mono (Kd.R_far (p := ⟨gb239, 3, none⟩) (Kd.R_types HO251.out BK239.out (by decide)) (fun _ hk => hk.2) (.slice Ao57 y252.length co57)) (fun _ hk => trivial)⟩, ⟨by (try simp only [hl27_1]); (try simp only [hl11_2]); (with_reducible repeat (first | apply Kd.S_alloc | apply Kd.S_drewN | apply Kd.S_drew)); exact Kd.S_mono (Kd.S_far (p := ⟨gb239, 3, none⟩) (Kd.S_types HO254.out BK239.out (by decide)) (fun _ hk => hk.2) (.slice Ao57 y252.length co57)) (fun _ hk => ⟨hk.1.1, hk.1.2⟩)⟩, ⟨by (try simp only [hl27_1]); (try simp only [hl11_2]); (with_reducible repeat (first | refine blk_drewN ?_ _ | refine blk_drew ?_ | refine blk_alloc ?_ _)); refine blk_far ?_ NB224_239.out _; (with_reducible repeat (first | refine blk_drewN ?_ _ | refine blk_drew ?_ | refine blk_alloc ?_ _)); exact BK224.out⟩, ⟨by (try simp only [hl27_1]); (try simp only [hl11_2]); (with_reducible repeat (first | refine blk_drewN ?_ _ | refine blk_drew ?_ | refine blk_alloc ?_ _)); refine blk_far ?_ NB225_239.out _; (with_reducible repeat (first | refine blk_drewN ?_ _ | refine blk_drew ?_ | refine blk_alloc ?_ _)); exact BK225.out⟩, ⟨by (try simp only [hl27_1]); (try simp only [hl11_2]); (with_reducible repeat (first | refine blk_drewN ?_ _ | refine blk_drew ?_ | refine blk_alloc ?_ _)); refine blk_put (cs := #[.int .i64 a0_0, .int .i64 0, .slice Ao50 y249.length co50, u240003]) ?_ 3 _ rfl; (with_reducible repeat (first | refine blk_drewN ?_ _ | refine blk_drew ?_ | refine blk_alloc ?_ _)); exact BK239.out⟩, ⟨by repeat (first | (with_reducible first | exact HB.out | apply below_alloc | apply pw_below_drewN | apply below_drew1 | refine below_set ?_ GE224.out | refine below_set ?_ GE225.out | refine below_set ?_ GE239.out) | exact HB.out)⟩⟩
     )
     (focus
     rw [if_neg c47] at H
     exact absurd H (by simp)
     )
     )
     (focus
     rw [if_neg c46] at H
     exact absurd H (by simp)
     )
     )
     (focus
     rw [if_neg c45] at H
     exact absurd H (by simp)
     )
     )
     (focus
     rw [if_neg c44] at H
     exact absurd H (by simp)
     )
     )
   )
   (focus
   rw [if_neg c22] at H
   exact absurd H (by simp)
   )
   )
   (focus
   rw [if_neg c21] at H
   exact absurd H (by simp)
   )
   )
   (focus
   rw [if_neg c20] at H
   exact absurd H (by simp)
   )
   )
   (focus
   rw [if_neg c19] at H
   exact absurd H (by simp)
   )
   )
   (focus
   rw [if_neg c18] at H
   have c18b0 : decide (x29_1 < (t227.length : Int)) = false := decide_eq_false c18
   (try (have c18b0_hl27_1 := c18b0; simp only [hl27_1] at c18b0_hl27_1))
   clear c18
   simp only [Option.some.injEq, Prod.mk.injEq] at H
   obtain ⟨rfl, rfl, rfl, rfl, rfl⟩ := H
   have hnb59 := NB239_224.out
   have hnc59 := NB224_239.out
   have hnb60 := NB239_225.out
   have hnc60 := NB225_239.out
   have hcz61_0 : wr.cell? ⟨gb239, 0, none⟩ = some (.int .i64 a0_0) := (blk_cell BK239.out 0).trans rfl
   have hcz61_1 : wr.cell? ⟨gb239, 1, none⟩ = some (.int .i64 0) := (blk_cell BK239.out 1).trans rfl
   have hcz61_2 : wr.cell? ⟨gb239, 2, none⟩ = some (u240002) := (blk_cell BK239.out 2).trans rfl
   have hcz61_3 : wr.cell? ⟨gb239, 3, none⟩ = some (u240003) := (blk_cell BK239.out 3).trans rfl
   have hfz61_0 := blk_frozen BK239.out 0
   have hfz61_1 := blk_frozen BK239.out 1
   have hfz61_2 := blk_frozen BK239.out 2
   have hfz61_3 := blk_frozen BK239.out 3
   have hnb62 := NB225_224.out
   have hnc62 := NB224_225.out
   have hcz63_0 : wr.cell? ⟨gb225, 0, none⟩ = some (.int .i64 0) := (blk_cell BK225.out 0).trans rfl
   have hcz63_1 : wr.cell? ⟨gb225, 1, none⟩ = some (.int .i64 0) := (blk_cell BK225.out 1).trans rfl
   have hcz63_2 : wr.cell? ⟨gb225, 2, none⟩ = some (.slice none 0 0) := (blk_cell BK225.out 2).trans rfl
   have hcz63_3 : wr.cell? ⟨gb225, 3, none⟩ = some (.slice none 0 0) := (blk_cell BK225.out 3).trans rfl
   have hfz63_0 := blk_frozen BK225.out 0
   have hfz63_1 := blk_frozen BK225.out 1
   have hfz63_2 := blk_frozen BK225.out 2
   have hfz63_3 := blk_frozen BK225.out 3
   obtain ⟨Ao64, co64, eo64⟩ := Kd.R_slice HO_240002.out
   subst eo64
   obtain ⟨Ao65, co65, eo65⟩ := Kd.S_slice HO_240003.out
   subst eo65
   go_wp2
   refine bodyPost_ret (results_ct rfl _ _ gb225 25 #[.int .i64 a0_0, .int .i64 0, .slice Ao64 x240002_1.length co64, .slice Ao65 x240003_1.length co65] (0, 0) _ rfl (by (with_reducible repeat (first | refine blk_drewN ?_ _ | refine blk_drew ?_ | refine blk_alloc ?_ _)); refine blk_put (cs := #[.int .i64 a0_0, .int .i64 0, .slice Ao64 x240002_1.length co64, .slice none 0 0]) ?_ 3 _ rfl; (with_reducible repeat (first | refine blk_drewN ?_ _ | refine blk_drew ?_ | refine blk_alloc ?_ _)); refine blk_put (cs := #[.int .i64 a0_0, .int .i64 0, .slice none 0 0, .slice none 0 0]) ?_ 2 _ rfl; (with_reducible repeat (first | refine blk_drewN ?_ _ | refine blk_drew ?_ | refine blk_alloc ?_ _)); refine blk_put (cs := #[.int .i64 a0_0, .int .i64 0, .slice none 0 0, .slice none 0 0]) ?_ 1 _ rfl; (with_reducible repeat (first | refine blk_drewN ?_ _ | refine blk_drew ?_ | refine blk_alloc ?_ _)); refine blk_put (cs := #[.int .i64 0, .int .i64 0, .slice none 0 0, .slice none 0 0]) ?_ 0 _ rfl; (with_reducible repeat (first | refine blk_drewN ?_ _ | refine blk_drew ?_ | refine blk_alloc ?_ _)); exact BK225.out) Try.underlying25 rfl (by kernel_rfl)) rfl ?_
   exact ⟨_, _, _, by first | rfl | (simp [errW_none, errW_some] <;> rfl) | (simp [*, errW_none, errW_some] <;> rfl), (by first | exact (uR (Kd.R_mono (Kd.R_far (p := ⟨gb225, 3, none⟩) (Kd.R_far (p := ⟨gb225, 2, none⟩) (Kd.R_far (p := ⟨gb225, 1, none⟩) (Kd.R_far (p := ⟨gb225, 0, none⟩) (Kd.R_types HO_240002.out BK225.out (by decide)) (fun _ hk => hk.2) (.int .i64 a0_0)) (fun _ hk => hk.2) (.int .i64 0)) (fun _ hk => hk.2) (.slice Ao64 x240002_1.length co64)) (fun _ hk => hk.2) (.slice Ao65 x240003_1.length co65)) (fun _ hk => trivial))) | (simp only [hl27_1]; exact (uR (Kd.R_mono (Kd.R_far (p := ⟨gb225, 3, none⟩) (Kd.R_far (p := ⟨gb225, 2, none⟩) (Kd.R_far (p := ⟨gb225, 1, none⟩) (Kd.R_far (p := ⟨gb225, 0, none⟩) (Kd.R_types HO_240002.out BK225.out (by decide)) (fun _ hk => hk.2) (.int .i64 a0_0)) (fun _ hk => hk.2) (.int .i64 0)) (fun _ hk => hk.2) (.slice Ao64 x240002_1.length co64)) (fun _ hk => hk.2) (.slice Ao65 x240003_1.length co65)) (fun _ hk => trivial))))), (by first | exact (by (with_reducible repeat (first | apply Kd.S_alloc | apply Kd.S_drewN | apply Kd.S_drew)); exact Kd.S_mono (Kd.S_far (p := ⟨gb225, 3, none⟩) (Kd.S_far (p := ⟨gb225, 2, none⟩) (Kd.S_far (p := ⟨gb225, 1, none⟩) (Kd.S_far (p := ⟨gb225, 0, none⟩) (Kd.S_types HO_240003.out BK225.out (by decide)) (fun _ hk => hk.2) (.int .i64 a0_0)) (fun _ hk => hk.2) (.int .i64 0)) (fun _ hk => hk.2) (.slice Ao64 x240002_1.length co64)) (fun _ hk => hk.2) (.slice Ao65 x240003_1.length co65)) (fun _ hk => hk.1.1)) | (simp only [hl27_1]; exact (by (with_reducible repeat (first | apply Kd.S_alloc | apply Kd.S_drewN | apply Kd.S_drew)); exact Kd.S_mono (Kd.S_far (p := ⟨gb225, 3, none⟩) (Kd.S_far (p := ⟨gb225, 2, none⟩) (Kd.S_far (p := ⟨gb225, 1, none⟩) (Kd.S_far (p := ⟨gb225, 0, none⟩) (Kd.S_types HO_240003.out BK225.out (by decide)) (fun _ hk => hk.2) (.int .i64 a0_0)) (fun _ hk => hk.2) (.int .i64 0)) (fun _ hk => hk.2) (.slice Ao64 x240002_1.length co64)) (fun _ hk => hk.2) (.slice Ao65 x240003_1.length co65)) (fun _ hk => hk.1.1)))), (by first | exact (uR (Kd.R_mono (Kd.R_far (p := ⟨gb225, 3, none⟩) (Kd.R_far (p := ⟨gb225, 2, none⟩) (Kd.R_far (p := ⟨gb225, 1, none⟩) (Kd.R_far (p := ⟨gb225, 0, none⟩) (Kd.R_types HO_7.out BK225.out (by decide)) (fun _ hk => hk.2) (.int .i64 a0_0)) (fun _ hk => hk.2) (.int .i64 0)) (fun _ hk => hk.2) (.slice Ao64 x240002_1.length co64)) (fun _ hk => hk.2) (.slice Ao65 x240003_1.length co65)) (fun _ hk => trivial))) | (simp only [hl27_1]; exact (uR (Kd.R_mono (Kd.R_far (p := ⟨gb225, 3, none⟩) (Kd.R_far (p := ⟨gb225, 2, none⟩) (Kd.R_far (p := ⟨gb225, 1, none⟩) (Kd.R_far (p := ⟨gb225, 0, none⟩) (Kd.R_types HO_7.out BK225.out (by decide)) (fun _ hk => hk.2) (.int .i64 a0_0)) (fun _ hk => hk.2) (.int .i64 0)) (fun _ hk => hk.2) (.slice Ao64 x240002_1.length co64)) (fun _ hk => hk.2) (.slice Ao65 x240003_1.length co65)) (fun _ hk => trivial))))), by repeat (first | (with_reducible first | exact HB.out | apply below_alloc | apply pw_below_drewN | apply below_drew1 | refine below_set ?_ GE224.out | refine below_set ?_ GE225.out | refine below_set ?_ GE239.out) | exact HB.out)⟩
   )
 )
 (focus
 rw [if_neg c3] at H
 have c3b0 : (t226 == 0) = false := beq_eq_false_iff_ne.mpr c3
 have c3b1 : (t226 != 0) = true := bne_iff_ne.mpr c3
 simp only [Option.some.injEq, Prod.mk.injEq] at H
 obtain ⟨rfl, rfl, rfl, rfl, rfl⟩ := H
 go_enter Try.func27, Try.ntmps27
 go_wp2_with (first | ((with_reducible refine gate_dst (N := 1) rfl ?_); refine box_event ?hg (N := 1) ?hd (cs := #[.int .i64 a0_0, .int .i64 a0_1, .slice A0_2 l0_2.length c0_2, .slice A0_3 l0_3.length c0_3]) (t := 25) ?hr ?_; (case hd => rfl); (case hg => rfl); (case hr => first | (go_simp; done) | (go_simp; rfl)); intro gb224 hg w66 hbox hb; have n0_ := Aside0.mk (below_step (by repeat (first | (with_reducible first | exact HB.out | apply below_alloc | apply pw_below_drewN | apply below_drew1) | exact HB.out)) hb); have n1_ := Aside0.mk (hbox); have n2_ := Aside0.mk ((by rw [hg]; exact (below_size (by repeat (first | (with_reducible first | exact HB.out | apply below_alloc | apply pw_below_drewN | apply below_drew1) | exact HB.out))) : w.heap.size ≤ gb224)); have n3_ := Aside0.mk ((by rw [hg]; exact (below_size (by repeat (first | (with_reducible first | exact HB.out | apply below_alloc | apply pw_below_drewN | apply below_drew1) | exact HB.out))) : w.heap.size ≤ gb224)); clear HB; have HB := n0_; have BK224 := n1_; have GW224 := n2_; have GE224 := n3_; clear n0_ n1_ n2_ n3_; clear hb hbox hg) | ((with_reducible refine gate_dst (N := 2) rfl ?_); refine box_event ?hg (N := 2) ?hd (cs := #[.int .i64 0, .int .i64 0, .slice none 0 0, .slice none 0 0]) (t := 25) ?hr ?_; (case hd => rfl); (case hg => rfl); (case hr => first | (go_simp; done) | (go_simp; rfl)); intro gb225 hg w67 hbox hb; have n0_ := Aside0.mk (blk_below (g := gb224) (o := .cells #[.int .i64 a0_0, .int .i64 a0_1, .slice A0_2 l0_2.length c0_2, .slice A0_3 l0_3.length c0_3] 25 (0, 0)) (uB BK224.out) hb); have n1_ := Aside0.mk (below_step (by repeat (first | (with_reducible first | exact HB.out | apply below_alloc | apply pw_below_drewN | apply below_drew1 | refine below_set ?_ GE224.out) | exact HB.out)) hb); have n2_ := Aside0.mk (hbox); have n3_ := Aside0.mk ((by rw [hg]; exact (below_size (by repeat (first | (with_reducible first | exact HB.out | apply below_alloc | apply pw_below_drewN | apply below_drew1 | refine below_set ?_ GE224.out) | exact HB.out))) : w.heap.size ≤ gb225)); have n4_ := Aside0.mk ((by rw [hg]; exact (below_size (by repeat (first | (with_reducible first | exact HB.out | apply below_alloc | apply pw_below_drewN | apply below_drew1 | refine below_set ?_ GE224.out) | exact HB.out))) : w.heap.size ≤ gb225)); have n5_ := Aside0.mk ((by rw [hg]; exact Nat.ne_of_lt (blk_lt (g := gb224) (o := .cells #[.int .i64 a0_0, .int .i64 a0_1, .slice A0_2 l0_2.length c0_2, .slice A0_3 l0_3.length c0_3] 25 (0, 0)) (uB BK224.out)) : gb224 ≠ gb225)); have n6_ := Aside0.mk ((by rw [hg]; exact Nat.ne_of_gt (blk_lt (g := gb224) (o := .cells #[.int .i64 a0_0, .int .i64 a0_1, .slice A0_2 l0_2.length c0_2, .slice A0_3 l0_3.length c0_3] 25 (0, 0)) (uB BK224.out)) : gb225 ≠ gb224)); clear BK224; clear HB; have BK224 := n0_; have HB := n1_; have BK225 := n2_; have GW225 := n3_; have GE225 := n4_; have NB224_225 := n5_; have NB225_224 := n6_; clear n0_ n1_ n2_ n3_ n4_ n5_ n6_; clear hb hbox hg; have hnb68 := NB224_225.out; have hnc68 := NB225_224.out; have hcz69_0 : w67.cell? ⟨gb224, 0, none⟩ = some (.int .i64 a0_0) := (blk_cell BK224.out 0).trans rfl; have hcz69_1 : w67.cell? ⟨gb224, 1, none⟩ = some (.int .i64 a0_1) := (blk_cell BK224.out 1).trans rfl; have hcz69_2 : w67.cell? ⟨gb224, 2, none⟩ = some (.slice A0_2 l0_2.length c0_2) := (blk_cell BK224.out 2).trans rfl; have hcz69_3 : w67.cell? ⟨gb224, 3, none⟩ = some (.slice A0_3 l0_3.length c0_3) := (blk_cell BK224.out 3).trans rfl; have hfz69_0 := blk_frozen BK224.out 0; have hfz69_1 := blk_frozen BK224.out 1; have hfz69_2 := blk_frozen BK224.out 2; have hfz69_3 := blk_frozen BK224.out 3) | ((with_reducible refine gate_callee (f := 14) rfl ?_); refine goesL_ (some 14) rfl rfl Try.func14 (by kernel_rfl) rfl #[.agg #[.int .i64 a0_0, .int .i64 a0_1, .slice A0_2 l0_2.length c0_2, .slice A0_3 l0_3.length c0_3]] rfl (by (try simp only [List.map_toArray, List.map_cons, List.map_nil]); first | done | rfl | (simp only [List.length_drop, List.length_take]; rfl)) ?_; (with_reducible refine (dfa_Validate.calls k a0_0 a0_1 _ _ l0_2 _ _ l0_3 t226 _ ?side1 ?side2 ?side3 ?side4 A2.out).mono ?_); (case side1 => repeat (first | exact (Kd.C_below HR0_2.out HB.out) | (with_reducible refine Kd.C_alloc ?_ _) | (with_reducible refine Kd.C_drewN ?_ _) | (with_reducible refine Kd.C_drew ?_))); (case side2 => exact HC0_2.out); (case side3 => repeat (first | exact (Kd.C_below HR0_3.out HB.out) | (with_reducible refine Kd.C_alloc ?_ _) | (with_reducible refine Kd.C_drewN ?_ _) | (with_reducible refine Kd.C_drew ?_))); (case side4 => exact HC0_3.out); rintro e w70 ⟨rfl, hb⟩; refine ⟨_, rfl, ?_⟩; have n0_ := Aside0.mk (blk_below (g := gb224) (o := .cells #[.int .i64 a0_0, .int .i64 a0_1, .slice A0_2 l0_2.length c0_2, .slice A0_3 l0_3.length c0_3] 25 (0, 0)) (uB BK224.out) hb); have n1_ := Aside0.mk (blk_below (g := gb225) (o := .cells #[.int .i64 0, .int .i64 0, .slice none 0 0, .slice none 0 0] 25 (0, 0)) (uB BK225.out) hb); have n2_ := Aside0.mk (below_step (by repeat (first | (with_reducible first | exact HB.out | apply below_alloc | apply pw_below_drewN | apply below_drew1 | refine below_set ?_ GE224.out | refine below_set ?_ GE225.out) | exact HB.out)) hb); clear BK224; clear BK225; clear HB; have BK224 := n0_; have BK225 := n1_; have HB := n2_; clear n0_ n1_ n2_; (try clear hb); (try clear hb2); (try clear hk); (try clear hi); have hcz71_0 : w70.cell? ⟨gb225, 0, none⟩ = some (.int .i64 0) := (blk_cell BK225.out 0).trans rfl; have hcz71_1 : w70.cell? ⟨gb225, 1, none⟩ = some (.int .i64 0) := (blk_cell BK225.out 1).trans rfl; have hcz71_2 : w70.cell? ⟨gb225, 2, none⟩ = some (.slice none 0 0) := (blk_cell BK225.out 2).trans rfl; have hcz71_3 : w70.cell? ⟨gb225, 3, none⟩ = some (.slice none 0 0) := (blk_cell BK225.out 3).trans rfl; have hfz71_0 := blk_frozen BK225.out 0; have hfz71_1 := blk_frozen BK225.out 1; have hfz71_2 := blk_frozen BK225.out 2; have hfz71_3 := blk_frozen BK225.out 3))
 refine bodyPost_ret (results_ct rfl _ _ gb225 25 #[.int .i64 0, .int .i64 0, .slice none 0 0, .slice none 0 0] (0, 0) _ rfl (by (with_reducible repeat (first | refine blk_drewN ?_ _ | refine blk_drew ?_ | refine blk_alloc ?_ _)); refine blk_put (cs := #[.int .i64 0, .int .i64 0, .slice none 0 0, .slice none 0 0]) ?_ 3 _ rfl; (with_reducible repeat (first | refine blk_drewN ?_ _ | refine blk_drew ?_ | refine blk_alloc ?_ _)); refine blk_put (cs := #[.int .i64 0, .int .i64 0, .slice none 0 0, .slice none 0 0]) ?_ 2 _ rfl; (with_reducible repeat (first | refine blk_drewN ?_ _ | refine blk_drew ?_ | refine blk_alloc ?_ _)); refine blk_put (cs := #[.int .i64 0, .int .i64 0, .slice none 0 0, .slice none 0 0]) ?_ 1 _ rfl; (with_reducible repeat (first | refine blk_drewN ?_ _ | refine blk_drew ?_ | refine blk_alloc ?_ _)); refine blk_put (cs := #[.int .i64 0, .int .i64 0, .slice none 0 0, .slice none 0 0]) ?_ 0 _ rfl; (with_reducible repeat (first | refine blk_drewN ?_ _ | refine blk_drew ?_ | refine blk_alloc ?_ _)); exact BK225.out) Try.underlying25 rfl (by kernel_rfl)) rfl ?_
 exact ⟨_, _, _, by first | rfl | (simp [errW_none, errW_some] <;> rfl) | (simp [*, errW_none, errW_some] <;> rfl), by first | exact Kd.R_nil _ _ _ _ _ | exact Kd.N_nil _ _ _ _ _ | exact Kd.V_nil _ _ _ _ _ | exact Kd.Q_nil _ _ _ _ _ | exact Kd.S_nil _ _ _ _ _, by first | exact Kd.S_nil _ _ _ _ _ | exact Kd.N_nil _ _ _ _ _ | exact Kd.V_nil _ _ _ _ _ | exact Kd.Q_nil _ _ _ _ _ | exact Kd.R_nil _ _ _ _ _, by first | exact Kd.R_nil _ _ _ _ _ | exact Kd.N_nil _ _ _ _ _ | exact Kd.V_nil _ _ _ _ _ | exact Kd.Q_nil _ _ _ _ _ | exact Kd.S_nil _ _ _ _ _, by repeat (first | (with_reducible first | exact HB.out | apply below_alloc | apply pw_below_drewN | apply below_drew1 | refine below_set ?_ GE224.out | refine below_set ?_ GE225.out) | exact HB.out)⟩
 )
/-! ### semigroupref01_Compare: function 34 -/
def semigroupref01_Compare.j0 : Nat → ByteArray → ByteArray → Bool → Option (Int)
 | 0, _, _, _ => none
 | k + 1, x0, x1, x5 => if x5 = true then (some (-1)) else (if x0.toList = x1.toList then (some 0) else (some 1))
def semigroupref01_Compare.f (k : Nat) (a0 : ByteArray) (a1 : ByteArray) : Option (Int) := if (a0.size : Int) < (a1.size : Int) then (semigroupref01_Compare.j0 k a0 a1 true) else (if (a0.size : Int) = (a1.size : Int) then (semigroupref01_Compare.j0 k a0 a1 (Op.bytesLess a0.toList a1.toList)) else (semigroupref01_Compare.j0 k a0 a1 false))
theorem semigroupref01_Compare.mono_l : ∀ k, (∀ y0 y1 y2, LeO (semigroupref01_Compare.j0 k y0 y1 y2) (semigroupref01_Compare.j0 (k + 1) y0 y1 y2))
 | 0 => fun _ _ _ r h => by simp [semigroupref01_Compare.j0] at h
 | k + 1 => by
  have ih0 := semigroupref01_Compare.mono_l k
  (focus
  intro y0 y1 y2
  unfold semigroupref01_Compare.j0
  repeat' first
  | (with_reducible exact ih0 _ _ _)
  | (with_reducible exact LeO.refl _)
  | (with_reducible exact LeO.none _)
  | (with_reducible refine LeO.ite ?_ ?_)
  | (with_reducible refine LeO.bind ?_ (fun _ => ?_))
  | exact ih0 _ _ _
  | exact LeO.none _
  | refine LeO.ite ?_ ?_
  | refine LeO.bind ?_ (fun _ => ?_)
  )
theorem semigroupref01_Compare.mono : ∀ a0 a1 k, LeO (semigroupref01_Compare.f k a0 a1) (semigroupref01_Compare.f (k + 1) a0 a1) := by
 intro a0 a1 k
 have ih0 := semigroupref01_Compare.mono_l k
 unfold semigroupref01_Compare.f
 repeat' first
  | (with_reducible exact ih0 _ _ _)
  | (with_reducible exact LeO.refl _)
  | (with_reducible exact LeO.none _)
  | (with_reducible refine LeO.ite ?_ ?_)
  | (with_reducible refine LeO.bind ?_ (fun _ => ?_))
  | exact ih0 _ _ _
  | exact LeO.none _
  | refine LeO.ite ?_ ?_
  | refine LeO.bind ?_ (fun _ => ?_)
set_option maxHeartbeats 8000000 in
set_option maxRecDepth 100000 in
theorem semigroupref01_Compare.calls (k : Nat) (a0 : ByteArray) (a1 : ByteArray) (r : Int) (w : World) (h : semigroupref01_Compare.f k a0 a1 = some r) :
 Calls Try.prog 34 #[.string a0, .string a1] w fun e w' => e = .returned (.int .i64 r) ∧ Drawn0 w w' := by
 have H : (if (a0.size : Int) < (a1.size : Int) then (semigroupref01_Compare.j0 k a0 a1 true) else (if (a0.size : Int) = (a1.size : Int) then (semigroupref01_Compare.j0 k a0 a1 (Op.bytesLess a0.toList a1.toList)) else (semigroupref01_Compare.j0 k a0 a1 false))) = some r := h
 clear h
 have HC3 := Aside0.mk H
 clear H
 go_enter Try.func34, Try.ntmps34
 go_upto_region 1 with (fail)
 go_cut [5] (fun v5 wc => ∃ (kq : Nat) (x5_2 : Bool), v5 = .bool x5_2 ∧ Aside0 (semigroupref01_Compare.j0 kq a0 a1 x5_2 = some r) ∧ Aside0 (kq ≤ k) ∧ Drawn0 w wc)
 case first =>
  have H := HC3.out
  clear HC3
  by_cases c4 : (a0.size : Int) < (a1.size : Int)
  (focus
  rw [if_pos c4] at H
  have c4b0 : decide ((a0.size : Int) < (a1.size : Int)) = true := decide_eq_true c4
  have c4b1 : decide (a0.size < a1.size) = true := decide_eq_true (Int.ofNat_lt.mp c4)
  clear c4
  (first | rw [c4b0] | (simp only [i64_w, i32_w]; rw [c4b0]) | skip)
  have H' := Aside0.mk H
  clear H
  go_wp2
  go_meet
  case rel => exact ⟨_, (true), (by first | rfl | (simp; done) | (simp [*]; done)), H', ⟨by first | omega | exact Nat.le_refl _⟩, by repeat (first | exact Drawn0.refl _ | apply Drawn0.step)⟩
  )
  (focus
  rw [if_neg c4] at H
  have c4b0 : decide ((a0.size : Int) < (a1.size : Int)) = false := decide_eq_false c4
  have c4b1 : decide (a0.size < a1.size) = false := decide_eq_false (fun h => c4 (Int.ofNat_lt.mpr h))
  clear c4
  (first | rw [c4b0] | (simp only [i64_w, i32_w]; rw [c4b0]) | skip)
  by_cases c5 : (a0.size : Int) = (a1.size : Int)
  (focus
  rw [if_pos c5] at H
  have c5b0 : ((a0.size : Int) == (a1.size : Int)) = true := beq_iff_eq.mpr c5
  have c5b1 : ((a0.size : Int) != (a1.size : Int)) = false := bne_eq_false_iff_eq.mpr c5
  have c5b2 : (a0.size == a1.size) = true := by first | simpa using c5 | (simp at c5 ⊢; omega)
  clear c5
  have H' := Aside0.mk H
  clear H
  go_wp2
  go_meet
  case rel => exact ⟨_, ((Op.bytesLess a0.toList a1.toList)), (by first | rfl | (simp; done) | (simp [*]; done)), H', ⟨by first | omega | exact Nat.le_refl _⟩, by repeat (first | exact Drawn0.refl _ | apply Drawn0.step)⟩
  )
  (focus
  rw [if_neg c5] at H
  have c5b0 : ((a0.size : Int) == (a1.size : Int)) = false := beq_eq_false_iff_ne.mpr c5
  have c5b1 : ((a0.size : Int) != (a1.size : Int)) = true := bne_iff_ne.mpr c5
  have c5b2 : (a0.size == a1.size) = false := by first | simpa using c5 | (simp at c5 ⊢; omega)
  have H' := Aside0.mk H
  clear H
  go_wp2
  go_meet
  case rel => exact ⟨_, (false), (by first | rfl | (simp; done) | (simp [*]; done)), H', ⟨by first | omega | exact Nat.le_refl _⟩, by repeat (first | exact Drawn0.refl _ | apply Drawn0.step)⟩
  )
  )
 case rest =>
  clear HC3
  try clear p2
  try clear c3
  try clear c4
  try clear c4b0
  try clear c4b1
  try clear c5
  try clear c5b0
  try clear c5b1
  try clear c5b2
  obtain ⟨kq, x5_2, rfl, HA, HJ2, ⟨mc2, rfl⟩⟩ := hcut
  cases kq with
  | zero => exact absurd HA.out (by simp [semigroupref01_Compare.j0])
  | succ kj2 =>
   have H := HA.out
   clear HA
   simp only [semigroupref01_Compare.j0] at H
   by_cases c6 : x5_2 = true
   (focus
   subst c6
   have H1 : (some (-1)) = some r := by rw [if_pos rfl] at H; exact H
   clear H
   have H := H1
   clear H1
   obtain rfl := Option.some.inj H
   go_wp2
   go_ret
   exact ⟨by first | rfl | (simp; done) | (simp [*]; done), by repeat (first | exact Drawn0.refl _ | apply Drawn0.step)⟩
   )
   (focus
   replace c6 := Bool.eq_false_iff.mpr c6
   subst c6
   have H1 : (if a0.toList = a1.toList then (some 0) else (some 1)) = some r := by rw [if_neg (show ¬ (false = true) by decide)] at H; exact H
   clear H
   have H := H1
   clear H1
   by_cases c7 : a0.toList = a1.toList
   (focus
   rw [if_pos c7] at H
   have c7b0 : (a0.toList == a1.toList) = true := beq_iff_eq.mpr c7
   have c7b1 : (a0.toList != a1.toList) = false := bne_eq_false_iff_eq.mpr c7
   clear c7
   obtain rfl := Option.some.inj H
   go_wp2
   go_ret
   exact ⟨by first | rfl | (simp; done) | (simp [*]; done), by repeat (first | exact Drawn0.refl _ | apply Drawn0.step)⟩
   )
   (focus
   rw [if_neg c7] at H
   have c7b0 : (a0.toList == a1.toList) = false := beq_eq_false_iff_ne.mpr c7
   have c7b1 : (a0.toList != a1.toList) = true := bne_iff_ne.mpr c7
   obtain rfl := Option.some.inj H
   go_wp2
   go_ret
   exact ⟨by first | rfl | (simp; done) | (simp [*]; done), by repeat (first | exact Drawn0.refl _ | apply Drawn0.step)⟩
   )
   )
end Go.Proofs.Ytpjbmgoagehjkaa.PDfaReaches
