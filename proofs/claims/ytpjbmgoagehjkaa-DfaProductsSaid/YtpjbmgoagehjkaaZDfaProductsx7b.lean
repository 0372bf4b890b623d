import Derived.Test.YtpjbmgoagehjkaaZDfaProductsx0
import Derived.Test.YtpjbmgoagehjkaaZDfaProductsx1
import Derived.Test.YtpjbmgoagehjkaaZDfaProductsx7
namespace Go.Proofs.Ytpjbmgoagehjkaa.PDfaProducts
open Go.RowKit Go.Proofs.YtpjbmgoagehjkaaH Go.Proofs.YtpjbmgoagehjkaaW.PrintWords Go.Proofs.YtpjbmgoagehjkaaW.PrintLast Go.Proofs.YtpjbmgoagehjkaaW.PrintMore
attribute [local go_sem] max2_int min2_int max_two min_two max_three min_three max_four min_four   -- for this text's walks alone
set_option linter.unusedVariables false
set_option linter.unusedSimpArgs false
set_option maxHeartbeats 8000000 in
set_option maxRecDepth 100000 in
theorem dfa_Product.calls (k : Nat) (a0_0 : Int) (a0_1 : Int) (A0_2 : Option Addr) (c0_2 : Nat) (l0_2 : List Bool) (A0_3 : Option Addr) (c0_3 : Nat) (l0_3 : List (List Int)) (a1_0 : Int) (a1_1 : Int) (A1_2 : Option Addr) (c1_2 : Nat) (l1_2 : List Bool) (A1_3 : Option Addr) (c1_3 : Nat) (l1_3 : List (List Int)) (a2 : Int) (r1 : Int) (r2 : Int) (r3 : List Bool) (r4 : List (List Int)) (r5 : Int) (w : World) (hr0_2 : Kd.C Kd.bool w A0_2 l0_2.length l0_2) (hc0_2 : l0_2.length ≤ c0_2) (hr0_3 : Kd.C (Kd.slice 3 (Kd.int .i64)) w A0_3 l0_3.length l0_3) (hc0_3 : l0_3.length ≤ c0_3) (hr1_2 : Kd.C Kd.bool w A1_2 l1_2.length l1_2) (hc1_2 : l1_2.length ≤ c1_2) (hr1_3 : Kd.C (Kd.slice 3 (Kd.int .i64)) w A1_3 l1_3.length l1_3) (hc1_3 : l1_3.length ≤ c1_3) (h : dfa_Product.f k a0_0 a0_1 l0_2 l0_3 a1_0 a1_1 l1_2 l1_3 a2 = some (r1, r2, r3, r4, r5)) :
 Calls Try.prog 31 #[.agg #[.int .i64 a0_0, .int .i64 a0_1, .slice A0_2 l0_2.length c0_2, .slice A0_3 l0_3.length c0_3], .agg #[.int .i64 a1_0, .int .i64 a1_1, .slice A1_2 l1_2.length c1_2, .slice A1_3 l1_3.length c1_3], .int .i64 a2] w fun e w' => ∃ v2_ v3_ : Value, e = .returned (.tuple #[.agg #[.int .i64 r1, .int .i64 r2, v2_, v3_], .int .i64 r5]) ∧ Kd.R Kd.bool 4 w' w.heap.size (fun _ => True) v2_ r3 ∧ Kd.S (Kd.slice 3 (Kd.int .i64)) 38 w' w.heap.size (fun _ => True) v3_ r4 ∧ Below w.heap.size w w' := by
 have hu25 := Try.underlying25
 have hu64 := Try.underlying64
 have HR0_2 := Aside0.mk hr0_2
 have HC0_2 := Aside0.mk hc0_2
 clear hr0_2 hc0_2
 have HR0_3 := Aside0.mk hr0_3
 have HC0_3 := Aside0.mk hc0_3
 clear hr0_3 hc0_3
 have HR1_2 := Aside0.mk hr1_2
 have HC1_2 := Aside0.mk hc1_2
 clear hr1_2 hc1_2
 have HR1_3 := Aside0.mk hr1_3
 have HC1_3 := Aside0.mk hc1_3
 clear hr1_3 hc1_3
 have HB := aM (Below.refl w.heap.size w)
 have H : ((dfa_Validate.f k a0_0 a0_1 l0_2 l0_3).bind fun t202 => (if t202 = 0 then ((dfa_Validate.f k a1_0 a1_1 l1_2 l1_3).bind fun t203 => (if t203 = 0 then (if a0_0 = a1_0 then (if a2 < 0 then (dfa_Product.j0 k a2 true a0_0 a0_1 l0_2 l0_3 a1_0 a1_1 l1_2 l1_3) else (dfa_Product.j0 k a2 (decide (a2 > 15)) a0_0 a0_1 l0_2 l0_3 a1_0 a1_1 l1_2 l1_3)) else (dfa_Product.j0 k a2 true a0_0 a0_1 l0_2 l0_3 a1_0 a1_1 l1_2 l1_3)) else (some (0, 0, ([] : List Bool), ([] : List (List Int)), t203)))) else (some (0, 0, ([] : List Bool), ([] : List (List Int)), t202)))) = some (r1, r2, r3, r4, r5) := h
 clear h
 replace H := Option.bind_eq_some_iff.mp H
 obtain ⟨t202, A40, H⟩ := H
 replace H : (if t202 = 0 then ((dfa_Validate.f k a1_0 a1_1 l1_2 l1_3).bind fun t203 => (if t203 = 0 then (if a0_0 = a1_0 then (if a2 < 0 then (dfa_Product.j0 k a2 true a0_0 a0_1 l0_2 l0_3 a1_0 a1_1 l1_2 l1_3) else (dfa_Product.j0 k a2 (decide (a2 > 15)) a0_0 a0_1 l0_2 l0_3 a1_0 a1_1 l1_2 l1_3)) else (dfa_Product.j0 k a2 true a0_0 a0_1 l0_2 l0_3 a1_0 a1_1 l1_2 l1_3)) else (some (0, 0, ([] : List Bool), ([] : List (List Int)), t203)))) else (some (0, 0, ([] : List Bool), ([] : List (List Int)), t202))) = some (r1, r2, r3, r4, r5) := H
 have A4 := Aside0.mk A40
 clear A40
 by_cases c5 : t202 = 0
 (focus
 rw [if_pos c5] at H
 have c5b0 : (t202 == 0) = true := beq_iff_eq.mpr c5
 have c5b1 : (t202 != 0) = false := bne_eq_false_iff_eq.mpr c5
 clear c5
 replace H := Option.bind_eq_some_iff.mp H
 obtain ⟨t203, A60, H⟩ := H
 replace H : (if t203 = 0 then (if a0_0 = a1_0 then (if a2 < 0 then (dfa_Product.j0 k a2 true a0_0 a0_1 l0_2 l0_3 a1_0 a1_1 l1_2 l1_3) else (dfa_Product.j0 k a2 (decide (a2 > 15)) a0_0 a0_1 l0_2 l0_3 a1_0 a1_1 l1_2 l1_3)) else (dfa_Product.j0 k a2 true a0_0 a0_1 l0_2 l0_3 a1_0 a1_1 l1_2 l1_3)) else (some (0, 0, ([] : List Bool), ([] : List (List Int)), t203))) = some (r1, r2, r3, r4, r5) := H
 have A6 := Aside0.mk A60
 clear A60
 by_cases c7 : t203 = 0
 (focus
 rw [if_pos c7] at H
 have c7b0 : (t203 == 0) = true := beq_iff_eq.mpr c7
 have c7b1 : (t203 != 0) = false := bne_eq_false_iff_eq.mpr c7
 clear c7
 have HC8 := Aside0.mk H
 clear H
 go_enter Try.func31, Try.ntmps31
 go_upto_region 7 with (first | ((with_reducible refine gate_dst (N := 3) rfl ?_); refine box_event ?hg (N := 3) ?hd (cs := #[.int .i64 a0_0, .int .i64 a0_1, .slice A0_2 l0_2.length c0_2, .slice A0_3 l0_3.length c0_3]) (t := 25) ?hr ?_; (case hd => rfl); (case hg => rfl); (case hr => first | (go_simp; done) | (go_simp; rfl)); intro gb199 hg w9 hbox hb; have n0_ := aM (below_step (by repeat (first | (with_reducible first | exact HB.out | apply bA | apply bN | apply bD) | exact HB.out)) hb); have n1_ := aM (hbox); have n2_ := aM ((by rw [hg]; exact (below_size (by repeat (first | (with_reducible first | exact HB.out | apply bA | apply bN | apply bD) | exact HB.out))) : w.heap.size ≤ gb199)); have n3_ := aM ((by rw [hg]; exact (below_size (by repeat (first | (with_reducible first | exact HB.out | apply bA | apply bN | apply bD) | exact HB.out))) : w.heap.size ≤ gb199)); clear HB; have HB := n0_; have BK199 := n1_; have GW199 := n2_; have GE199 := n3_; clear n0_ n1_ n2_ n3_; clear hb hbox hg) | ((with_reducible refine gate_dst (N := 4) rfl ?_); refine box_event ?hg (N := 4) ?hd (cs := #[.int .i64 a1_0, .int .i64 a1_1, .slice A1_2 l1_2.length c1_2, .slice A1_3 l1_3.length c1_3]) (t := 25) ?hr ?_; (case hd => rfl); (case hg => rfl); (case hr => first | (go_simp; done) | (go_simp; rfl)); intro gb200 hg w10 hbox hb; have n0_ := aM (blk_below (uB BK199.out) hb); have n1_ := aM (below_step (by repeat (first | (with_reducible first | exact HB.out | apply bA | apply bN | apply bD | refine bS ?_ ‹_›) | exact HB.out)) hb); have n2_ := aM (hbox); have n3_ := aM ((by rw [hg]; exact (below_size (by repeat (first | (with_reducible first | exact HB.out | apply bA | apply bN | apply bD | refine bS ?_ ‹_›) | exact HB.out))) : w.heap.size ≤ gb200)); have n4_ := aM ((by rw [hg]; exact (below_size (by repeat (first | (with_reducible first | exact HB.out | apply bA | apply bN | apply bD | refine bS ?_ ‹_›) | exact HB.out))) : w.heap.size ≤ gb200)); have n5_ := aM ((by rw [hg]; exact Nat.ne_of_lt (blk_lt (uB BK199.out)) : gb199 ≠ gb200)); have n6_ := aM ((by rw [hg]; exact Nat.ne_of_gt (blk_lt (uB BK199.out)) : gb200 ≠ gb199)); clear BK199; clear HB; have BK199 := n0_; have HB := n1_; have BK200 := n2_; have GW200 := n3_; have GE200 := n4_; have NB199_200 := n5_; have NB200_199 := n6_; clear n0_ n1_ n2_ n3_ n4_ n5_ n6_; clear hb hbox hg) | ((with_reducible refine gate_dst (N := 6) rfl ?_); refine box_event ?hg (N := 6) ?hd (cs := #[.int .i64 0, .int .i64 0, .slice none 0 0, .slice none 0 0]) (t := 25) ?hr ?_; (case hd => rfl); (case hg => rfl); (case hr => first | (go_simp; done) | (go_simp; rfl)); intro gb201 hg w11 hbox hb; have n0_ := aM (blk_below (uB BK199.out) hb); have n1_ := aM (blk_below (uB BK200.out) hb); have n2_ := aM (below_step (by repeat (first | (with_reducible first | exact HB.out | apply bA | apply bN | apply bD | refine bS ?_ ‹_›) | exact HB.out)) hb); have n3_ := aM (hbox); have n4_ := aM ((by rw [hg]; exact (below_size (by repeat (first | (with_reducible first | exact HB.out | apply bA | apply bN | apply bD | refine bS ?_ ‹_›) | exact HB.out))) : w.heap.size ≤ gb201)); have n5_ := aM ((by rw [hg]; exact (below_size (by repeat (first | (with_reducible first | exact HB.out | apply bA | apply bN | apply bD | refine bS ?_ ‹_›) | exact HB.out))) : w.heap.size ≤ gb201)); have n6_ := aM ((by rw [hg]; exact Nat.ne_of_lt (blk_lt (uB BK199.out)) : gb199 ≠ gb201)); have n7_ := aM ((by rw [hg]; exact Nat.ne_of_gt (blk_lt (uB BK199.out)) : gb201 ≠ gb199)); have n8_ := aM ((by rw [hg]; exact Nat.ne_of_lt (blk_lt (uB BK200.out)) : gb200 ≠ gb201)); have n9_ := aM ((by rw [hg]; exact Nat.ne_of_gt (blk_lt (uB BK200.out)) : gb201 ≠ gb200)); clear BK199; clear BK200; clear HB; have BK199 := n0_; have BK200 := n1_; have HB := n2_; have BK201 := n3_; have GW201 := n4_; have GE201 := n5_; have NB199_201 := n6_; have NB201_199 := n7_; have NB200_201 := n8_; have NB201_200 := n9_; clear n0_ n1_ n2_ n3_ n4_ n5_ n6_ n7_ n8_ n9_; clear hb hbox hg; have hnb12 := NB199_200.out; have hnc12 := NB200_199.out; have hnb13 := NB199_201.out; have hnc13 := NB201_199.out; have hcz14_0 : w11.cell? ⟨gb199, 0, none⟩ = some (.int .i64 a0_0) := (blk_cell BK199.out 0).trans rfl; have hcz14_1 : w11.cell? ⟨gb199, 1, none⟩ = some (.int .i64 a0_1) := (blk_cell BK199.out 1).trans rfl; have hcz14_2 : w11.cell? ⟨gb199, 2, none⟩ = some (.slice A0_2 l0_2.length c0_2) := (blk_cell BK199.out 2).trans rfl; have hcz14_3 : w11.cell? ⟨gb199, 3, none⟩ = some (.slice A0_3 l0_3.length c0_3) := (blk_cell BK199.out 3).trans rfl; have hfz14_0 := blk_frozen BK199.out 0; have hfz14_1 := blk_frozen BK199.out 1; have hfz14_2 := blk_frozen BK199.out 2; have hfz14_3 := blk_frozen BK199.out 3) | ((with_reducible refine gate_callee (f := 14) rfl ?_); refine goesL_ (some 22) rfl rfl Try.func14 (by kernel_rfl) rfl #[.agg #[.int .i64 a0_0, .int .i64 a0_1, .slice A0_2 l0_2.length c0_2, .slice A0_3 l0_3.length c0_3]] rfl (by (try simp only [List.map_toArray, List.map_cons, List.map_nil]); first | done | rfl | (simp only [List.length_drop, List.length_take]; rfl)) ?_; (with_reducible refine (dfa_Validate.calls k a0_0 a0_1 _ _ l0_2 _ _ l0_3 t202 _ ?side1 ?side2 ?side3 ?side4 A4.out).mono ?_); (case side1 => repeat (first | exact (Kd.C_below HR0_2.out HB.out) | (with_reducible refine Kd.C_alloc ?_ _) | (with_reducible refine Kd.C_drewN ?_ _) | (with_reducible refine Kd.C_drew ?_))); (case side2 => exact HC0_2.out); (case side3 => repeat (first | exact (Kd.C_below HR0_3.out HB.out) | (with_reducible refine Kd.C_alloc ?_ _) | (with_reducible refine Kd.C_drewN ?_ _) | (with_reducible refine Kd.C_drew ?_))); (case side4 => exact HC0_3.out); rintro e w15 ⟨rfl, hb⟩; refine ⟨_, rfl, ?_⟩; have n0_ := aM (blk_below (uB BK199.out) hb); have n1_ := aM (blk_below (uB BK200.out) hb); have n2_ := aM (blk_below (uB BK201.out) hb); have n3_ := aM (below_step (by repeat (first | (with_reducible first | exact HB.out | apply bA | apply bN | apply bD | refine bS ?_ ‹_›) | exact HB.out)) hb); clear BK199; clear BK200; clear BK201; clear HB; have BK199 := n0_; have BK200 := n1_; have BK201 := n2_; have HB := n3_; clear n0_ n1_ n2_ n3_; (try clear hb); (try clear hb2); (try clear hk); (try clear hi); have hnb16 := NB200_201.out; have hnc16 := NB201_200.out; have hcz17_0 : w15.cell? ⟨gb200, 0, none⟩ = some (.int .i64 a1_0) := (blk_cell BK200.out 0).trans rfl; have hcz17_1 : w15.cell? ⟨gb200, 1, none⟩ = some (.int .i64 a1_1) := (blk_cell BK200.out 1).trans rfl; have hcz17_2 : w15.cell? ⟨gb200, 2, none⟩ = some (.slice A1_2 l1_2.length c1_2) := (blk_cell BK200.out 2).trans rfl; have hcz17_3 : w15.cell? ⟨gb200, 3, none⟩ = some (.slice A1_3 l1_3.length c1_3) := (blk_cell BK200.out 3).trans rfl; have hfz17_0 := blk_frozen BK200.out 0; have hfz17_1 := blk_frozen BK200.out 1; have hfz17_2 := blk_frozen BK200.out 2; have hfz17_3 := blk_frozen BK200.out 3) | ((with_reducible refine gate_callee (f := 14) rfl ?_); refine goesL_ (some 28) rfl rfl Try.func14 (by kernel_rfl) rfl #[.agg #[.int .i64 a1_0, .int .i64 a1_1, .slice A1_2 l1_2.length c1_2, .slice A1_3 l1_3.length c1_3]] rfl (by (try simp only [List.map_toArray, List.map_cons, List.map_nil]); first | done | rfl | (simp only [List.length_drop, List.length_take]; rfl)) ?_; (with_reducible refine (dfa_Validate.calls k a1_0 a1_1 _ _ l1_2 _ _ l1_3 t203 _ ?side1 ?side2 ?side3 ?side4 A6.out).mono ?_); (case side1 => repeat (first | exact (Kd.C_below HR1_2.out HB.out) | (with_reducible refine Kd.C_alloc ?_ _) | (with_reducible refine Kd.C_drewN ?_ _) | (with_reducible refine Kd.C_drew ?_))); (case side2 => exact HC1_2.out); (case side3 => repeat (first | exact (Kd.C_below HR1_3.out HB.out) | (with_reducible refine Kd.C_alloc ?_ _) | (with_reducible refine Kd.C_drewN ?_ _) | (with_reducible refine Kd.C_drew ?_))); (case side4 => exact HC1_3.out); rintro e w18 ⟨rfl, hb⟩; refine ⟨_, rfl, ?_⟩; have n0_ := aM (blk_below (uB BK199.out) hb); have n1_ := aM (blk_below (uB BK200.out) hb); have n2_ := aM (blk_below (uB BK201.out) hb); have n3_ := aM (below_step (by repeat (first | (with_reducible first | exact HB.out | apply bA | apply bN | apply bD | refine bS ?_ ‹_›) | exact HB.out)) hb); clear BK199; clear BK200; clear BK201; clear HB; have BK199 := n0_; have BK200 := n1_; have BK201 := n2_; have HB := n3_; clear n0_ n1_ n2_ n3_; (try clear hb); (try clear hb2); (try clear hk); (try clear hi)))
 (try simp only [Act.put, sA, sB, sC])
 go_cut [45] (fun v45 wc => ∃ (kq : Nat) (x45_7 : Bool), v45 = .bool x45_7 ∧ Aside0 (dfa_Product.j0 kq a2 x45_7 a0_0 a0_1 l0_2 l0_3 a1_0 a1_1 l1_2 l1_3 = some (r1, r2, r3, r4, r5)) ∧ Aside0 (kq ≤ k) ∧ Aside0 (wc.heap[gb199]? = some (.cells #[.int .i64 a0_0, .int .i64 a0_1, (.slice A0_2 l0_2.length c0_2), (.slice A0_3 l0_3.length c0_3)] 25 (0, 0))) ∧ Aside0 (wc.heap[gb200]? = some (.cells #[.int .i64 a1_0, .int .i64 a1_1, (.slice A1_2 l1_2.length c1_2), (.slice A1_3 l1_3.length c1_3)] 25 (0, 0))) ∧ Aside0 (wc.heap[gb201]? = some (.cells #[.int .i64 0, .int .i64 0, (.slice none 0 0), (.slice none 0 0)] 25 (0, 0))) ∧ Aside0 (Below w.heap.size w wc))
 case first =>
  have H := HC8.out
  clear HC8
  by_cases c19 : a0_0 = a1_0
  (focus
  rw [if_pos c19] at H
  have c19b0 : (a0_0 == a1_0) = true := beq_iff_eq.mpr c19
  have c19b1 : (a0_0 != a1_0) = false := bne_eq_false_iff_eq.mpr c19
  clear c19
  (first | rw [c19b0] | (simp only [i64_w, i32_w]; rw [c19b0]) | skip)
  by_cases c20 : a2 < 0
  (focus
  rw [if_pos c20] at H
  have c20b0 : decide (a2 < 0) = true := decide_eq_true c20
  clear c20
  have H' := Aside0.mk H
  clear H
  have hnb21 := NB199_200.out
  have hnc21 := NB200_199.out
  have hnb22 := NB199_201.out
  have hnc22 := NB201_199.out
  have hcz23_0 : w18.cell? ⟨gb199, 0, none⟩ = some (.int .i64 a0_0) := (blk_cell BK199.out 0).trans rfl
  have hcz23_1 : w18.cell? ⟨gb199, 1, none⟩ = some (.int .i64 a0_1) := (blk_cell BK199.out 1).trans rfl
  have hcz23_2 : w18.cell? ⟨gb199, 2, none⟩ = some (.slice A0_2 l0_2.length c0_2) := (blk_cell BK199.out 2).trans rfl
  have hcz23_3 : w18.cell? ⟨gb199, 3, none⟩ = some (.slice A0_3 l0_3.length c0_3) := (blk_cell BK199.out 3).trans rfl
  have hfz23_0 := blk_frozen BK199.out 0
  have hfz23_1 := blk_frozen BK199.out 1
  have hfz23_2 := blk_frozen BK199.out 2
  have hfz23_3 := blk_frozen BK199.out 3
  have hnb24 := NB200_201.out
  have hnc24 := NB201_200.out
  have hcz25_0 : w18.cell? ⟨gb200, 0, none⟩ = some (.int .i64 a1_0) := (blk_cell BK200.out 0).trans rfl
  have hcz25_1 : w18.cell? ⟨gb200, 1, none⟩ = some (.int .i64 a1_1) := (blk_cell BK200.out 1).trans rfl
  have hcz25_2 : w18.cell? ⟨gb200, 2, none⟩ = some (.slice A1_2 l1_2.length c1_2) := (blk_cell BK200.out 2).trans rfl
  have hcz25_3 : w18.cell? ⟨gb200, 3, none⟩ = some (.slice A1_3 l1_3.length c1_3) := (blk_cell BK200.out 3).trans rfl
  have hfz25_0 := blk_frozen BK200.out 0
  have hfz25_1 := blk_frozen BK200.out 1
  have hfz25_2 := blk_frozen BK200.out 2
  have hfz25_3 := blk_frozen BK200.out 3
  go_wp2
  go_meet
  case rel => exact ⟨_, (true), (by first | rfl | (simp; done) | (simp [*]; done)), H', ⟨by first | omega | exact Nat.le_refl _⟩, ⟨by (with_reducible repeat (first | refine kN ?_ | refine kD ?_ | refine kA ?_)); exact BK199.out⟩, ⟨by (with_reducible repeat (first | refine kN ?_ | refine kD ?_ | refine kA ?_)); exact BK200.out⟩, ⟨by (with_reducible repeat (first | refine kN ?_ | refine kD ?_ | refine kA ?_)); exact BK201.out⟩, ⟨by repeat (first | (with_reducible first | exact HB.out | apply bA | apply bN | apply bD | refine bS ?_ ‹_›) | exact HB.out)⟩⟩
  )
  (focus
  rw [if_neg c20] at H
  have c20b0 : decide (a2 < 0) = false := decide_eq_false c20
  clear c20
  have H' := Aside0.mk H
  clear H
  have hnb26 := NB199_200.out
  have hnc26 := NB200_199.out
  have hnb27 := NB199_201.out
  have hnc27 := NB201_199.out
  have hcz28_0 : w18.cell? ⟨gb199, 0, none⟩ = some (.int .i64 a0_0) := (blk_cell BK199.out 0).trans rfl
  have hcz28_1 : w18.cell? ⟨gb199, 1, none⟩ = some (.int .i64 a0_1) := (blk_cell BK199.out 1).trans rfl
  have hcz28_2 : w18.cell? ⟨gb199, 2, none⟩ = some (.slice A0_2 l0_2.length c0_2) := (blk_cell BK199.out 2).trans rfl
  have hcz28_3 : w18.cell? ⟨gb199, 3, none⟩ = some (.slice A0_3 l0_3.length c0_3) := (blk_cell BK199.out 3).trans rfl
  have hfz28_0 := blk_frozen BK199.out 0
  have hfz28_1 := blk_frozen BK199.out 1
  have hfz28_2 := blk_frozen BK199.out 2
  have hfz28_3 := blk_frozen BK199.out 3
  have hnb29 := NB200_201.out
  have hnc29 := NB201_200.out
  have hcz30_0 : w18.cell? ⟨gb200, 0, none⟩ = some (.int .i64 a1_0) := (blk_cell BK200.out 0).trans rfl
  have hcz30_1 : w18.cell? ⟨gb200, 1, none⟩ = some (.int .i64 a1_1) := (blk_cell BK200.out 1).trans rfl
  have hcz30_2 : w18.cell? ⟨gb200, 2, none⟩ = some (.slice A1_2 l1_2.length c1_2) := (blk_cell BK200.out 2).trans rfl
  have hcz30_3 : w18.cell? ⟨gb200, 3, none⟩ = some (.slice A1_3 l1_3.length c1_3) := (blk_cell BK200.out 3).trans rfl
  have hfz30_0 := blk_frozen BK200.out 0
  have hfz30_1 := blk_frozen BK200.out 1
  have hfz30_2 := blk_frozen BK200.out 2
  have hfz30_3 := blk_frozen BK200.out 3
  go_wp2
  go_meet
  case rel => exact ⟨_, (decide (a2 > 15)), (by first | rfl | (simp; done) | (simp [*]; done)), H', ⟨by first | omega | exact Nat.le_refl _⟩, ⟨by (with_reducible repeat (first | refine kN ?_ | refine kD ?_ | refine kA ?_)); exact BK199.out⟩, ⟨by (with_reducible repeat (first | refine kN ?_ | refine kD ?_ | refine kA ?_)); exact BK200.out⟩, ⟨by (with_reducible repeat (first | refine kN ?_ | refine kD ?_ | refine kA ?_)); exact BK201.out⟩, ⟨by repeat (first | (with_reducible first | exact HB.out | apply bA | apply bN | apply bD | refine bS ?_ ‹_›) | exact HB.out)⟩⟩
  )
  )
  (focus
  rw [if_neg c19] at H
  have c19b0 : (a0_0 == a1_0) = false := beq_eq_false_iff_ne.mpr c19
  have c19b1 : (a0_0 != a1_0) = true := bne_iff_ne.mpr c19
  (first | rw [c19b0] | (simp only [i64_w, i32_w]; rw [c19b0]) | skip)
  have H' := Aside0.mk H
  clear H
  have hnb31 := NB199_200.out
  have hnc31 := NB200_199.out
  have hnb32 := NB199_201.out
  have hnc32 := NB201_199.out
  have hcz33_0 : w18.cell? ⟨gb199, 0, none⟩ = some (.int .i64 a0_0) := (blk_cell BK199.out 0).trans rfl
  have hcz33_1 : w18.cell? ⟨gb199, 1, none⟩ = some (.int .i64 a0_1) := (blk_cell BK199.out 1).trans rfl
  have hcz33_2 : w18.cell? ⟨gb199, 2, none⟩ = some (.slice A0_2 l0_2.length c0_2) := (blk_cell BK199.out 2).trans rfl
  have hcz33_3 : w18.cell? ⟨gb199, 3, none⟩ = some (.slice A0_3 l0_3.length c0_3) := (blk_cell BK199.out 3).trans rfl
  have hfz33_0 := blk_frozen BK199.out 0
  have hfz33_1 := blk_frozen BK199.out 1
  have hfz33_2 := blk_frozen BK199.out 2
  have hfz33_3 := blk_frozen BK199.out 3
  have hnb34 := NB200_201.out
  have hnc34 := NB201_200.out
  have hcz35_0 : w18.cell? ⟨gb200, 0, none⟩ = some (.int .i64 a1_0) := (blk_cell BK200.out 0).trans rfl
  have hcz35_1 : w18.cell? ⟨gb200, 1, none⟩ = some (.int .i64 a1_1) := (blk_cell BK200.out 1).trans rfl
  have hcz35_2 : w18.cell? ⟨gb200, 2, none⟩ = some (.slice A1_2 l1_2.length c1_2) := (blk_cell BK200.out 2).trans rfl
  have hcz35_3 : w18.cell? ⟨gb200, 3, none⟩ = some (.slice A1_3 l1_3.length c1_3) := (blk_cell BK200.out 3).trans rfl
  have hfz35_0 := blk_frozen BK200.out 0
  have hfz35_1 := blk_frozen BK200.out 1
  have hfz35_2 := blk_frozen BK200.out 2
  have hfz35_3 := blk_frozen BK200.out 3
  go_wp2
  go_meet
  case rel => exact ⟨_, (true), (by first | rfl | (simp; done) | (simp [*]; done)), H', ⟨by first | omega | exact Nat.le_refl _⟩, ⟨by (with_reducible repeat (first | refine kN ?_ | refine kD ?_ | refine kA ?_)); exact BK199.out⟩, ⟨by (with_reducible repeat (first | refine kN ?_ | refine kD ?_ | refine kA ?_)); exact BK200.out⟩, ⟨by (with_reducible repeat (first | refine kN ?_ | refine kD ?_ | refine kA ?_)); exact BK201.out⟩, ⟨by repeat (first | (with_reducible first | exact HB.out | apply bA | apply bN | apply bD | refine bS ?_ ‹_›) | exact HB.out)⟩⟩
  )
 case rest =>
  clear HC8
  try clear c1
  try clear c2
  try clear p2
  try clear c3
  try clear c5
  try clear c5b0
  try clear c5b1
  try clear c7
  try clear c7b0
  try clear c7b1
  try clear c12
  try clear c13
  try clear c14
  try clear c16
  try clear c19
  try clear c19b0
  try clear c19b1
  try clear c20
  try clear c20b0
  try clear c21
  try clear c22
  try clear c24
  try clear c26
  try clear c27
  try clear c29
  try clear c31
  try clear c32
  try clear c34
  try clear hcz14_0
  try clear hcz14_1
  try clear hcz14_2
  try clear hcz14_3
  try clear hcz17_0
  try clear hcz17_1
  try clear hcz17_2
  try clear hcz17_3
  try clear hcz23_0
  try clear hcz23_1
  try clear hcz23_2
  try clear hcz23_3
  try clear hcz25_0
  try clear hcz25_1
  try clear hcz25_2
  try clear hcz25_3
  try clear hcz28_0
  try clear hcz28_1
  try clear hcz28_2
  try clear hcz28_3
  try clear hcz30_0
  try clear hcz30_1
  try clear hcz30_2
  try clear hcz30_3
  try clear hcz33_0
  try clear hcz33_1
  try clear hcz33_2
  try clear hcz33_3
  try clear hcz35_0
  try clear hcz35_1
  try clear hcz35_2
  try clear hcz35_3
  try clear hfz14_0
  try clear hfz14_1
  try clear hfz14_2
  try clear hfz14_3
  try clear hfz17_0
  try clear hfz17_1
  try clear hfz17_2
  try clear hfz17_3
  try clear hfz23_0
  try clear hfz23_1
  try clear hfz23_2
  try clear hfz23_3
  try clear hfz25_0
  try clear hfz25_1
  try clear hfz25_2
  try clear hfz25_3
  try clear hfz28_0
  try clear hfz28_1
  try clear hfz28_2
  try clear hfz28_3
  try clear hfz30_0
  try clear hfz30_1
  try clear hfz30_2
  try clear hfz30_3
  try clear hfz33_0
  try clear hfz33_1
  try clear hfz33_2
  try clear hfz33_3
  try clear hfz35_0
  try clear hfz35_1
  try clear hfz35_2
  try clear hfz35_3
  obtain ⟨kq, x45_7, rfl, HA, HJ7, BK199, BK200, BK201, HB⟩ := hcut
  cases kq with
  | zero => exact absurd HA.out (by simp [dfa_Product.j0])
  | succ kj7 =>
   have H := HA.out
   clear HA
   simp only [dfa_Product.j0] at H
   by_cases c36 : x45_7 = true
   (focus
   subst c36
   have H1 : (some (0, 0, ([] : List Bool), ([] : List (List Int)), 1)) = some (r1, r2, r3, r4, r5) := by rw [if_pos rfl] at H; exact H
   clear H
   have H := H1
   clear H1
   simp only [Option.some.injEq, Prod.mk.injEq] at H
   obtain ⟨rfl, rfl, rfl, rfl, rfl⟩ := H
   have hnb37 := NB201_199.out
   have hnc37 := NB199_201.out
   have hnb38 := NB201_200.out
   have hnc38 := NB200_201.out
   have hcz39_0 : wc.cell? ⟨gb201, 0, none⟩ = some (.int .i64 0) := (blk_cell BK201.out 0).trans rfl
   have hcz39_1 : wc.cell? ⟨gb201, 1, none⟩ = some (.int .i64 0) := (blk_cell BK201.out 1).trans rfl
   have hcz39_2 : wc.cell? ⟨gb201, 2, none⟩ = some (.slice none 0 0) := (blk_cell BK201.out 2).trans rfl
   have hcz39_3 : wc.cell? ⟨gb201, 3, none⟩ = some (.slice none 0 0) := (blk_cell BK201.out 3).trans rfl
   have hfz39_0 := blk_frozen BK201.out 0
   have hfz39_1 := blk_frozen BK201.out 1
   have hfz39_2 := blk_frozen BK201.out 2
   have hfz39_3 := blk_frozen BK201.out 3
   go_wp2
   refine bodyPost_ret (results_ct rfl _ _ gb201 25 #[.int .i64 0, .int .i64 0, .slice none 0 0, .slice none 0 0] (0, 0) _ rfl (by (with_reducible repeat (first | refine kN ?_ | refine kD ?_ | refine kA ?_)); refine blk_put (cs := #[.int .i64 0, .int .i64 0, .slice none 0 0, .slice none 0 0]) ?_ 3 _ rfl; (with_reducible repeat (first | refine kN ?_ | refine kD ?_ | refine kA ?_)); refine blk_put (cs := #[.int .i64 0, .int .i64 0, .slice none 0 0, .slice none 0 0]) ?_ 2 _ rfl; (with_reducible repeat (first | refine kN ?_ | refine kD ?_ | refine kA ?_)); refine blk_put (cs := #[.int .i64 0, .int .i64 0, .slice none 0 0, .slice none 0 0]) ?_ 1 _ rfl; (with_reducible repeat (first | refine kN ?_ | refine kD ?_ | refine kA ?_)); refine blk_put (cs := #[.int .i64 0, .int .i64 0, .slice none 0 0, .slice none 0 0]) ?_ 0 _ rfl; (with_reducible repeat (first | refine kN ?_ | refine kD ?_ | refine kA ?_)); exact BK201.out) Try.underlying25 rfl (by kernel_rfl)) rfl ?_
   exact ⟨_, _, by first | rfl | (simp [errW_none, errW_some] <;> rfl) | (simp [*, errW_none, errW_some] <;> rfl), by first | exact Kd.R_nil _ _ _ _ _ | exact Kd.N_nil _ _ _ _ _ | exact Kd.V_nil _ _ _ _ _ | exact Kd.Q_nil _ _ _ _ _ | exact Kd.S_nil _ _ _ _ _, by first | exact Kd.S_nil _ _ _ _ _ | exact Kd.N_nil _ _ _ _ _ | exact Kd.V_nil _ _ _ _ _ | exact Kd.Q_nil _ _ _ _ _ | exact Kd.R_nil _ _ _ _ _, by repeat (first | (with_reducible first | exact HB.out | apply bA | apply bN | apply bD | refine bS ?_ ‹_›) | exact HB.out)⟩
   )
   (focus
   replace c36 := Bool.eq_false_iff.mpr c36
   subst c36
   have H1 : (dfa_Product.l0 kj7 a2 (([(⟨a0_1, a1_1⟩ : S64)] : List (S64))) 0 a0_0 a0_1 l0_2 l0_3 a1_0 a1_1 l1_2 l1_3 (AM.put (AM.nil : AM S64 Int) (⟨a0_1, a1_1⟩ : S64) 0) a0_0 0 ([] : List Bool) ([] : List (List Int))) = some (r1, r2, r3, r4, r5) := by rw [if_neg (show ¬ (false = true) by decide)] at H; exact H
   clear H
   have H := H1
   clear H1
   obtain ⟨y205, hy205⟩ : ∃ y_ : AM S64 Int, y_ = (AM.put (AM.nil : AM S64 Int) (⟨a0_1, a1_1⟩ : S64) 0) := ⟨_, rfl⟩
   replace H : (dfa_Product.l0 kj7 a2 (([(⟨a0_1, a1_1⟩ : S64)] : List (S64))) 0 a0_0 a0_1 l0_2 l0_3 a1_0 a1_1 l1_2 l1_3 y205 a0_0 0 ([] : List Bool) ([] : List (List Int))) = some (r1, r2, r3, r4, r5) := by first | (rw [hy205]; with_reducible exact H) | (have H2_ := (Option.bind_some _ _).symm.trans H; rw [hy205]; with_reducible exact H2_) | (have H2_ := (Option.bind_some _ _).symm.trans H; with_reducible exact H2_) | with_reducible exact H | (rw [hy205]; exact H) | exact H
   have Ny205 := Aside0.mk hy205
   clear hy205
   obtain ⟨y206, hy206⟩ : ∃ y_ : List (S64), y_ = (([(⟨a0_1, a1_1⟩ : S64)] : List (S64))) := ⟨_, rfl⟩
   replace H : (dfa_Product.l0 kj7 a2 y206 0 a0_0 a0_1 l0_2 l0_3 a1_0 a1_1 l1_2 l1_3 y205 a0_0 0 ([] : List Bool) ([] : List (List Int))) = some (r1, r2, r3, r4, r5) := by first | (rw [hy206]; with_reducible exact H) | (have H2_ := (Option.bind_some _ _).symm.trans H; rw [hy206]; with_reducible exact H2_) | (have H2_ := (Option.bind_some _ _).symm.trans H; with_reducible exact H2_) | with_reducible exact H | (rw [hy206]; exact H) | exact H
   have Ny206 := Aside0.mk hy206
   clear hy206
   have H' := Aside0.mk H
   clear H
   go_wp2_with (first | ((with_reducible refine gate_dst (N := 47) rfl ?_); refine map_event ek64 (Value.int .i64) ?hg (N := 47) ?hd ?hr ?_; (case hd => rfl); (case hg => rfl); (case hr => first | rfl | (go_simp; done) | (go_simp; rfl)); intro gb204 hg w40 hbox hb; have n0_ := aM (blk_below (uB BK199.out) hb); have n1_ := aM (blk_below (uB BK200.out) hb); have n2_ := aM (blk_below (uB BK201.out) hb); have n3_ := aM (below_step (by repeat (first | (with_reducible first | exact HB.out | apply bA | apply bN | apply bD | refine bS ?_ ‹_›) | exact HB.out)) hb); have n4_ := aM (hbox); have n5_ := aM ((by rw [hg]; exact (below_size (by repeat (first | (with_reducible first | exact HB.out | apply bA | apply bN | apply bD | refine bS ?_ ‹_›) | exact HB.out))) : w.heap.size ≤ gb204)); have n6_ := aM ((by rw [hg]; exact (below_size (by repeat (first | (with_reducible first | exact HB.out | apply bA | apply bN | apply bD | refine bS ?_ ‹_›) | exact HB.out))) : w.heap.size ≤ gb204)); have n7_ := aM ((by rw [hg]; exact Nat.ne_of_lt (blk_lt (uB BK199.out)) : gb199 ≠ gb204)); have n8_ := aM ((by rw [hg]; exact Nat.ne_of_gt (blk_lt (uB BK199.out)) : gb204 ≠ gb199)); have n9_ := aM ((by rw [hg]; exact Nat.ne_of_lt (blk_lt (uB BK200.out)) : gb200 ≠ gb204)); have n10_ := aM ((by rw [hg]; exact Nat.ne_of_gt (blk_lt (uB BK200.out)) : gb204 ≠ gb200)); have n11_ := aM ((by rw [hg]; exact Nat.ne_of_lt (blk_lt (uB BK201.out)) : gb201 ≠ gb204)); have n12_ := aM ((by rw [hg]; exact Nat.ne_of_gt (blk_lt (uB BK201.out)) : gb204 ≠ gb201)); clear BK199; clear BK200; clear BK201; clear HB; have BK199 := n0_; have BK200 := n1_; have BK201 := n2_; have HB := n3_; have BK204 := n4_; have GW204 := n5_; have GE204 := n6_; have NB199_204 := n7_; have NB204_199 := n8_; have NB200_204 := n9_; have NB204_200 := n10_; have NB201_204 := n11_; have NB204_201 := n12_; clear n0_ n1_ n2_ n3_ n4_ n5_ n6_ n7_ n8_ n9_ n10_ n11_ n12_; clear hb hbox hg; have hnb41 := NB199_200.out; have hnc41 := NB200_199.out; have hnb42 := NB199_201.out; have hnc42 := NB201_199.out; have hnb43 := NB199_204.out; have hnc43 := NB204_199.out; have hcz44_0 : w40.cell? ⟨gb199, 0, none⟩ = some (.int .i64 a0_0) := (blk_cell BK199.out 0).trans rfl; have hcz44_1 : w40.cell? ⟨gb199, 1, none⟩ = some (.int .i64 a0_1) := (blk_cell BK199.out 1).trans rfl; have hcz44_2 : w40.cell? ⟨gb199, 2, none⟩ = some (.slice A0_2 l0_2.length c0_2) := (blk_cell BK199.out 2).trans rfl; have hcz44_3 : w40.cell? ⟨gb199, 3, none⟩ = some (.slice A0_3 l0_3.length c0_3) := (blk_cell BK199.out 3).trans rfl; have hfz44_0 := blk_frozen BK199.out 0; have hfz44_1 := blk_frozen BK199.out 1; have hfz44_2 := blk_frozen BK199.out 2; have hfz44_3 := blk_frozen BK199.out 3; have hnb45 := NB200_201.out; have hnc45 := NB201_200.out; have hnb46 := NB200_204.out; have hnc46 := NB204_200.out; have hcz47_0 : w40.cell? ⟨gb200, 0, none⟩ = some (.int .i64 a1_0) := (blk_cell BK200.out 0).trans rfl; have hcz47_1 : w40.cell? ⟨gb200, 1, none⟩ = some (.int .i64 a1_1) := (blk_cell BK200.out 1).trans rfl; have hcz47_2 : w40.cell? ⟨gb200, 2, none⟩ = some (.slice A1_2 l1_2.length c1_2) := (blk_cell BK200.out 2).trans rfl; have hcz47_3 : w40.cell? ⟨gb200, 3, none⟩ = some (.slice A1_3 l1_3.length c1_3) := (blk_cell BK200.out 3).trans rfl; have hfz47_0 := blk_frozen BK200.out 0; have hfz47_1 := blk_frozen BK200.out 1; have hfz47_2 := blk_frozen BK200.out 2; have hfz47_3 := blk_frozen BK200.out 3) | (skip; refine wp_putM rfl _ _ _ 65 (.inr rfl) 64 3 keyOk64 Try.underlying65 gb204 (AM.nil : AM S64 Int) (show _ = some (mapO ek64 (Value.int .i64) (AM.nil : AM S64 Int)) from by (with_reducible repeat (first | refine kN ?_ | refine kD ?_ | refine kA ?_)); exact BK204.out) rfl (⟨a0_1, a1_1⟩ : S64) rfl 0 rfl ?_; intro w48 hbox hg; rw [← Ny205.out] at hbox; have n0_ := aM (blk_grown (uB BK199.out) hg (fun e_ => NB199_204.out (Option.some.inj e_))); have n1_ := aM (blk_grown (uB BK200.out) hg (fun e_ => NB200_204.out (Option.some.inj e_))); have n2_ := aM (blk_grown (uB BK201.out) hg (fun e_ => NB201_204.out (Option.some.inj e_))); have n3_ := aM (hbox); have n4_ := aM (below_mapO (by repeat (first | (with_reducible first | exact HB.out | apply bA | apply bN | apply bD | refine bS ?_ ‹_›) | exact HB.out)) (below_size (by repeat (first | (with_reducible first | exact HB.out | apply bA | apply bN | apply bD | refine bS ?_ ‹_›) | exact HB.out))) GE204.out hg); clear BK199; clear BK200; clear BK201; clear BK204; clear HB; have BK199 := n0_; have BK200 := n1_; have BK201 := n2_; have BK204 := n3_; have HB := n4_; clear n0_ n1_ n2_ n3_ n4_; clear hbox hg; have hcz49_0 : w48.cell? ⟨gb199, 0, none⟩ = some (.int .i64 a0_0) := (blk_cell BK199.out 0).trans rfl; have hcz49_1 : w48.cell? ⟨gb199, 1, none⟩ = some (.int .i64 a0_1) := (blk_cell BK199.out 1).trans rfl; have hcz49_2 : w48.cell? ⟨gb199, 2, none⟩ = some (.slice A0_2 l0_2.length c0_2) := (blk_cell BK199.out 2).trans rfl; have hcz49_3 : w48.cell? ⟨gb199, 3, none⟩ = some (.slice A0_3 l0_3.length c0_3) := (blk_cell BK199.out 3).trans rfl; have hfz49_0 := blk_frozen BK199.out 0; have hfz49_1 := blk_frozen BK199.out 1; have hfz49_2 := blk_frozen BK199.out 2; have hfz49_3 := blk_frozen BK199.out 3; have hcz50_0 : w48.cell? ⟨gb200, 0, none⟩ = some (.int .i64 a1_0) := (blk_cell BK200.out 0).trans rfl; have hcz50_1 : w48.cell? ⟨gb200, 1, none⟩ = some (.int .i64 a1_1) := (blk_cell BK200.out 1).trans rfl; have hcz50_2 : w48.cell? ⟨gb200, 2, none⟩ = some (.slice A1_2 l1_2.length c1_2) := (blk_cell BK200.out 2).trans rfl; have hcz50_3 : w48.cell? ⟨gb200, 3, none⟩ = some (.slice A1_3 l1_3.length c1_3) := (blk_cell BK200.out 3).trans rfl; have hfz50_0 := blk_frozen BK200.out 0; have hfz50_1 := blk_frozen BK200.out 1; have hfz50_2 := blk_frozen BK200.out 2; have hfz50_3 := blk_frozen BK200.out 3) | ((with_reducible refine gate_dst (N := 59) rfl ?_); refine Kd.R_lit k64 _ 64 ?hg (N := 59) ?hd (xs := ([(⟨a0_1, a1_1⟩ : S64)] : List (S64))) (inner := [.int .i64 a0_1, .int .i64 a1_1]) (ok := fun _ => True) (okp := fun _ => True) ?hr ?hp (fun _ hk => hk) trivial (Below.refl _ _) (Nat.le_refl _) (by simp) ?_; (case hd => rfl); (case hg => rfl); (case hr => first | (go_simp; done) | (go_simp; rfl)); (case hp => exact (Reps.c2 (show Kd.M k64 _ _ _ (⟨a0_1, a1_1⟩ : S64) [.int .i64 a0_1, .int .i64 a1_1] from (k64_mkM _ _ _ (⟨a0_1, a1_1⟩ : S64) )) (Reps.none _ _))); intro v207 w51 ho52 hb hg_ hnew_; clear hg_ hnew_; (first | rw [← Ny206.out] at ho52 | (simp only [Int.reduceToNat] at ho52; rw [← Ny206.out] at ho52)); have n0_ := aM (Kd.R_lower ho52 (below_size (by repeat (first | (with_reducible first | exact HB.out | apply bA | apply bN | apply bD | refine bS ?_ ‹_›) | exact HB.out)))); have n1_ := aM (blk_below (uB BK199.out) hb); have n2_ := aM (blk_below (uB BK200.out) hb); have n3_ := aM (blk_below (uB BK201.out) hb); have n4_ := aM (blk_below (g := gb204) (o := mapO ek64 (Value.int .i64) y205) (uB BK204.out) hb); have n5_ := aM (below_step (by repeat (first | (with_reducible first | exact HB.out | apply bA | apply bN | apply bD | refine bS ?_ ‹_›) | exact HB.out)) hb); clear BK199; clear BK200; clear BK201; clear BK204; clear HB; have HO208 := n0_; have BK199 := n1_; have BK200 := n2_; have BK201 := n3_; have BK204 := n4_; have HB := n5_; clear n0_ n1_ n2_ n3_ n4_ n5_; clear hb ho52; have hcz53_0 : w51.cell? ⟨gb199, 0, none⟩ = some (.int .i64 a0_0) := (blk_cell BK199.out 0).trans rfl; have hcz53_1 : w51.cell? ⟨gb199, 1, none⟩ = some (.int .i64 a0_1) := (blk_cell BK199.out 1).trans rfl; have hcz53_2 : w51.cell? ⟨gb199, 2, none⟩ = some (.slice A0_2 l0_2.length c0_2) := (blk_cell BK199.out 2).trans rfl; have hcz53_3 : w51.cell? ⟨gb199, 3, none⟩ = some (.slice A0_3 l0_3.length c0_3) := (blk_cell BK199.out 3).trans rfl; have hfz53_0 := blk_frozen BK199.out 0; have hfz53_1 := blk_frozen BK199.out 1; have hfz53_2 := blk_frozen BK199.out 2; have hfz53_3 := blk_frozen BK199.out 3) | ((with_reducible refine gate_dst (N := 12) rfl ?_); refine box_event ?hg (N := 12) ?hd (cs := #[.int .i64 0, .int .i64 0, .slice none 0 0, .slice none 0 0]) (t := 25) ?hr ?_; (case hd => rfl); (case hg => rfl); (case hr => first | (go_simp; done) | (go_simp; rfl)); intro gb209 hg w54 hbox hb; have n0_ := aM (Kd.R_below (uR HO208.out) hb); have n1_ := aM (blk_below (uB BK199.out) hb); have n2_ := aM (blk_below (uB BK200.out) hb); have n3_ := aM (blk_below (uB BK201.out) hb); have n4_ := aM (blk_below (g := gb204) (o := mapO ek64 (Value.int .i64) y205) (uB BK204.out) hb); have n5_ := aM (below_step (by repeat (first | (with_reducible first | exact HB.out | apply bA | apply bN | apply bD | refine bS ?_ ‹_›) | exact HB.out)) hb); have n6_ := aM (hbox); have n7_ := aM ((by rw [hg]; exact (below_size (by repeat (first | (with_reducible first | exact HB.out | apply bA | apply bN | apply bD | refine bS ?_ ‹_›) | exact HB.out))) : w.heap.size ≤ gb209)); have n8_ := aM ((by rw [hg]; exact (below_size (by repeat (first | (with_reducible first | exact HB.out | apply bA | apply bN | apply bD | refine bS ?_ ‹_›) | exact HB.out))) : w.heap.size ≤ gb209)); have n9_ := aM ((by rw [hg]; exact Nat.ne_of_lt (blk_lt (uB BK199.out)) : gb199 ≠ gb209)); have n10_ := aM ((by rw [hg]; exact Nat.ne_of_gt (blk_lt (uB BK199.out)) : gb209 ≠ gb199)); have n11_ := aM ((by rw [hg]; exact Nat.ne_of_lt (blk_lt (uB BK200.out)) : gb200 ≠ gb209)); have n12_ := aM ((by rw [hg]; exact Nat.ne_of_gt (blk_lt (uB BK200.out)) : gb209 ≠ gb200)); have n13_ := aM ((by rw [hg]; exact Nat.ne_of_lt (blk_lt (uB BK201.out)) : gb201 ≠ gb209)); have n14_ := aM ((by rw [hg]; exact Nat.ne_of_gt (blk_lt (uB BK201.out)) : gb209 ≠ gb201)); have n15_ := aM ((by rw [hg]; exact Nat.ne_of_lt (blk_lt (g := gb204) (o := mapO ek64 (Value.int .i64) y205) (uB BK204.out)) : gb204 ≠ gb209)); have n16_ := aM ((by rw [hg]; exact Nat.ne_of_gt (blk_lt (g := gb204) (o := mapO ek64 (Value.int .i64) y205) (uB BK204.out)) : gb209 ≠ gb204)); clear HO208; clear BK199; clear BK200; clear BK201; clear BK204; clear HB; have HO208 := n0_; have BK199 := n1_; have BK200 := n2_; have BK201 := n3_; have BK204 := n4_; have HB := n5_; have BK209 := n6_; have GW209 := n7_; have GE209 := n8_; have NB199_209 := n9_; have NB209_199 := n10_; have NB200_209 := n11_; have NB209_200 := n12_; have NB201_209 := n13_; have NB209_201 := n14_; have NB204_209 := n15_; have NB209_204 := n16_; clear n0_ n1_ n2_ n3_ n4_ n5_ n6_ n7_ n8_ n9_ n10_ n11_ n12_ n13_ n14_ n15_ n16_; clear hb hbox hg; have hnb55 := NB209_199.out; have hnc55 := NB199_209.out; have hnb56 := NB209_200.out; have hnc56 := NB200_209.out; have hnb57 := NB209_201.out; have hnc57 := NB201_209.out; have hnb58 := NB209_204.out; have hnc58 := NB204_209.out; have hcz59_0 : w54.cell? ⟨gb209, 0, none⟩ = some (.int .i64 0) := (blk_cell BK209.out 0).trans rfl; have hcz59_1 : w54.cell? ⟨gb209, 1, none⟩ = some (.int .i64 0) := (blk_cell BK209.out 1).trans rfl; have hcz59_2 : w54.cell? ⟨gb209, 2, none⟩ = some (.slice none 0 0) := (blk_cell BK209.out 2).trans rfl; have hcz59_3 : w54.cell? ⟨gb209, 3, none⟩ = some (.slice none 0 0) := (blk_cell BK209.out 3).trans rfl; have hfz59_0 := blk_frozen BK209.out 0; have hfz59_1 := blk_frozen BK209.out 1; have hfz59_2 := blk_frozen BK209.out 2; have hfz59_3 := blk_frozen BK209.out 3))
   go_loopg [11, 13] kj7 (fun kq v11 v13 w' => ∃ (x11_2 : List (S64)) (x13_2 : Int) (x202000_2 : Int) (x202001_2 : Int) (x205000_2 : AM S64 Int) (x210002_2 : List Bool) (x210003_2 : List (List Int)) (u210002 : Value) (u210003 : Value), v13 = .int .i64 x13_2 ∧ Aside0 (dfa_Product.l0 kq a2 x11_2 x13_2 a0_0 a0_1 l0_2 l0_3 a1_0 a1_1 l1_2 l1_3 x205000_2 a0_0 0 x210002_2 x210003_2 = some (r1, r2, r3, r4, r5)) ∧ Aside0 (kq ≤ kj7) ∧ Aside0 (Kd.R k64 64 w' w.heap.size (fun _ => True) v11 x11_2) ∧ Aside0 (Kd.R Kd.bool 4 w' w.heap.size (fun _ => True) u210002 x210002_2) ∧ Aside0 (Kd.S (Kd.slice 3 (Kd.int .i64)) 38 w' w.heap.size (fun _ => True) u210003 x210003_2) ∧ Aside0 (w'.heap[gb199]? = some (.cells #[.int .i64 a0_0, .int .i64 a0_1, (.slice A0_2 l0_2.length c0_2), (.slice A0_3 l0_3.length c0_3)] 25 (0, 0))) ∧ Aside0 (w'.heap[gb200]? = some (.cells #[.int .i64 a1_0, .int .i64 a1_1, (.slice A1_2 l1_2.length c1_2), (.slice A1_3 l1_3.length c1_3)] 25 (0, 0))) ∧ Aside0 (w'.heap[gb201]? = some (.cells #[.int .i64 x202000_2, .int .i64 x202001_2, (.slice none 0 0), (.slice none 0 0)] 25 (0, 0))) ∧ Aside0 (w'.heap[gb204]? = some (mapO ek64 (Value.int .i64) x205000_2)) ∧ Aside0 (w'.heap[gb209]? = some (.cells #[.int .i64 a0_0, .int .i64 0, u210002, u210003] 25 (0, 0))) ∧ Aside0 (Below w.heap.size w w'))
   case atStart => exact ⟨(y206), (0), (0), (0), (y205), (([] : List Bool)), (([] : List (List Int))), (.slice none 0 0), (.slice none 0 0), (by first | rfl | (simp; done) | (simp [*]; done)), H', ⟨Nat.le_refl _⟩, ⟨by (with_reducible repeat (first | apply Kd.R_alloc | apply Kd.R_drewN | apply Kd.R_drew)); exact Kd.R_mono (Kd.R_far (p := ⟨gb209, 3, none⟩) (Kd.R_far (p := ⟨gb209, 2, none⟩) (Kd.R_far (p := ⟨gb209, 1, none⟩) (Kd.R_far (p := ⟨gb209, 0, none⟩) (Kd.R_types HO208.out BK209.out (by decide)) (fun _ hk => hk.2) (.int .i64 a0_0)) (fun _ hk => hk.2) (.int .i64 0)) (fun _ hk => hk.2) (.slice none 0 0)) (fun _ hk => hk.2) (.slice none 0 0)) (fun _ hk => trivial)⟩, ⟨by first | exact Kd.R_nil _ _ _ _ _ | exact Kd.N_nil _ _ _ _ _ | exact Kd.V_nil _ _ _ _ _ | exact Kd.Q_nil _ _ _ _ _ | exact Kd.S_nil _ _ _ _ _⟩, ⟨by first | exact Kd.S_nil _ _ _ _ _ | exact Kd.N_nil _ _ _ _ _ | exact Kd.V_nil _ _ _ _ _ | exact Kd.Q_nil _ _ _ _ _ | exact Kd.R_nil _ _ _ _ _⟩, ⟨by (with_reducible repeat (first | refine kN ?_ | refine kD ?_ | refine kA ?_ | refine blk_far ?_ NB199_209.out _)); exact BK199.out⟩, ⟨by (with_reducible repeat (first | refine kN ?_ | refine kD ?_ | refine kA ?_ | refine blk_far ?_ NB200_209.out _)); exact BK200.out⟩, ⟨by (with_reducible repeat (first | refine kN ?_ | refine kD ?_ | refine kA ?_ | refine blk_far ?_ NB201_209.out _)); exact BK201.out⟩, ⟨by (with_reducible repeat (first | refine kN ?_ | refine kD ?_ | refine kA ?_)); refine blkF ?_ NB204_209.out _; (with_reducible repeat (first | refine kN ?_ | refine kD ?_ | refine kA ?_)); refine blkF ?_ NB204_209.out _; (with_reducible repeat (first | refine kN ?_ | refine kD ?_ | refine kA ?_)); refine blkF ?_ NB204_209.out _; (with_reducible repeat (first | refine kN ?_ | refine kD ?_ | refine kA ?_)); refine blkF ?_ NB204_209.out _; (with_reducible repeat (first | refine kN ?_ | refine kD ?_ | refine kA ?_)); exact BK204.out⟩, ⟨by (with_reducible repeat (first | refine kN ?_ | refine kD ?_ | refine kA ?_)); refine blk_put (cs := #[.int .i64 a0_0, .int .i64 0, .slice none 0 0, .slice none 0 0]) ?_ 3 _ rfl; (with_reducible repeat (first | refine kN ?_ | refine kD ?_ | refine kA ?_)); refine blk_put (cs := #[.int .i64 a0_0, .int .i64 0, .slice none 0 0, .slice none 0 0]) ?_ 2 _ rfl; (with_reducible repeat (first | refine kN ?_ | refine kD ?_ | refine kA ?_)); refine blk_put (cs := #[.int .i64 a0_0, .int .i64 0, .slice none 0 0, .slice none 0 0]) ?_ 1 _ rfl; (with_reducible repeat (first | refine kN ?_ | refine kD ?_ | refine kA ?_)); refine blk_put (cs := #[.int .i64 0, .int .i64 0, .slice none 0 0, .slice none 0 0]) ?_ 0 _ rfl; (with_reducible repeat (first | refine kN ?_ | refine kD ?_ | refine kA ?_)); exact BK209.out⟩, ⟨by repeat (first | (with_reducible first | exact HB.out | apply bA | apply bN | apply bD | refine bS ?_ ‹_›) | exact HB.out)⟩⟩
   case round =>
    clear H'
    try clear c1
    try clear c2
    try clear p2
    try clear c3
    try clear c4
    try clear c5
    try clear c5b0
    try clear c5b1
    try clear c7
    try clear c7b0
    try clear c7b1
    try clear c12
    try clear c13
    try clear c14
    try clear c16
    try clear c19
    try clear c19b0
    try clear c19b1
    try clear c20
    try clear c20b0
    try clear c21
    try clear c22
    try clear c24
    try clear c26
    try clear c27
    try clear c29
    try clear c31
    try clear c32
    try clear c34
    try clear c36
    try clear c37
    try clear c38
    try clear c41
    try clear c42
    try clear c43
    try clear c45
    try clear c46
    try clear c55
    try clear c56
    try clear c57
    try clear c58
    try clear hcz14_0
    try clear hcz14_1
    try clear hcz14_2
    try clear hcz14_3
    try clear hcz17_0
    try clear hcz17_1
    try clear hcz17_2
    try clear hcz17_3
    try clear hcz23_0
    try clear hcz23_1
    try clear hcz23_2
    try clear hcz23_3
    try clear hcz25_0
    try clear hcz25_1
    try clear hcz25_2
    try clear hcz25_3
    try clear hcz28_0
    try clear hcz28_1
    try clear hcz28_2
    try clear hcz28_3
    try clear hcz30_0
    try clear hcz30_1
    try clear hcz30_2
    try clear hcz30_3
    try clear hcz33_0
    try clear hcz33_1
    try clear hcz33_2
    try clear hcz33_3
    try clear hcz35_0
    try clear hcz35_1
    try clear hcz35_2
    try clear hcz35_3
    try clear hcz39_0
    try clear hcz39_1
    try clear hcz39_2
    try clear hcz39_3
    try clear hcz44_0
    try clear hcz44_1
    try clear hcz44_2
    try clear hcz44_3
    try clear hcz47_0
    try clear hcz47_1
    try clear hcz47_2
    try clear hcz47_3
    try clear hcz49_0
    try clear hcz49_1
    try clear hcz49_2
    try clear hcz49_3
    try clear hcz50_0
    try clear hcz50_1
    try clear hcz50_2
    try clear hcz50_3
    try clear hcz53_0
    try clear hcz53_1
    try clear hcz53_2
    try clear hcz53_3
    try clear hcz59_0
    try clear hcz59_1
    try clear hcz59_2
    try clear hcz59_3
    try clear hfz14_0
    try clear hfz14_1
    try clear hfz14_2
    try clear hfz14_3
    try clear hfz17_0
    try clear hfz17_1
    try clear hfz17_2
    try clear hfz17_3
    try clear hfz23_0
    try clear hfz23_1
    try clear hfz23_2
    try clear hfz23_3
    try clear hfz25_0
    try clear hfz25_1
    try clear hfz25_2
    try clear hfz25_3
    try clear hfz28_0
    try clear hfz28_1
    try clear hfz28_2
    try clear hfz28_3
    try clear hfz30_0
    try clear hfz30_1
    try clear hfz30_2
    try clear hfz30_3
    try clear hfz33_0
    try clear hfz33_1
    try clear hfz33_2
    try clear hfz33_3
    try clear hfz35_0
    try clear hfz35_1
    try clear hfz35_2
    try clear hfz35_3
    try clear hfz39_0
    try clear hfz39_1
    try clear hfz39_2
    try clear hfz39_3
    try clear hfz44_0
    try clear hfz44_1
    try clear hfz44_2
    try clear hfz44_3
    try clear hfz47_0
    try clear hfz47_1
    try clear hfz47_2
    try clear hfz47_3
    try clear hfz49_0
    try clear hfz49_1
    try clear hfz49_2
    try clear hfz49_3
    try clear hfz50_0
    try clear hfz50_1
    try clear hfz50_2
    try clear hfz50_3
    try clear hfz53_0
    try clear hfz53_1
    try clear hfz53_2
    try clear hfz53_3
    try clear hfz59_0
    try clear hfz59_1
    try clear hfz59_2
    try clear hfz59_3
    try clear p2
    obtain ⟨x11_2, x13_2, x202000_2, x202001_2, x205000_2, x210002_2, x210003_2, u210002, u210003, rfl, HA, HK2, HO_11, HO_210002, HO_210003, BK199, BK200, BK201, BK204, BK209, HB⟩ := hrel
    cases gk with
    | zero => exact absurd HA.out (by simp [dfa_Product.l0])
    | succ k2 =>
     have H := HA.out
     clear HA
     simp only [dfa_Product.l0] at H
     by_cases c60 : x13_2 < (x11_2.length : Int)
     (focus
     rw [if_pos c60] at H
     have c60b0 : decide (x13_2 < (x11_2.length : Int)) = true := decide_eq_true c60
     clear c60
     by_cases c61 : 0 ≤ x13_2
     (focus
     rw [if_pos c61] at H
     have c61b0 : decide (0 ≤ x13_2) = true := decide_eq_true c61
     clear c61
     by_cases c62 : 0 ≤ a0_0
     (focus
     rw [if_pos c62] at H
     have c62b0 := eq_true c62
     have c62b1 : decide (0 ≤ a0_0) = true := decide_eq_true c62
     clear c62
     by_cases c63 : (a0_0 : Int).toNat ≤ 35184372088832
     (focus
     rw [if_pos c63] at H
     have c63b0 := eq_true c63
     have c63b1 : decide ((a0_0 : Int).toNat ≤ 35184372088832) = true := decide_eq_true c63
     clear c63
     obtain ⟨y212, hy212⟩ : ∃ y_ : List Int, y_ = (List.replicate (a0_0 : Int).toNat 0) := ⟨_, rfl⟩
     replace H : (dfa_Product.l1 k2 a2 x11_2 x13_2 y212 (y212.length : Int) 0 a0_0 a0_1 l0_2 l0_3 a1_0 a1_1 l1_2 l1_3 x205000_2 a0_0 0 x210002_2 x210003_2 ((rd_T64 x11_2 x13_2).f0) ((rd_T64 x11_2 x13_2).f1)) = some (r1, r2, r3, r4, r5) := by first | (rw [hy212]; with_reducible exact H) | (have H2_ := (Option.bind_some _ _).symm.trans H; rw [hy212]; with_reducible exact H2_) | (have H2_ := (Option.bind_some _ _).symm.trans H; with_reducible exact H2_) | with_reducible exact H | (rw [hy212]; exact H) | exact H
     have Ny212 := Aside0.mk hy212
     clear hy212
     have H' := Aside0.mk H
     clear H
     obtain ⟨Ao64, co64, eo64⟩ := Kd.R_slice HO_11.out
     subst eo64
     have p210 : 0 ≤ (x13_2 : Int) := of_decide_eq_true (by assumption)
     have q210 : x13_2 < (x11_2.length : Int) := of_decide_eq_true (by assumption)
     obtain ⟨ad210, e210, hx210_0, hx210_1⟩ := at_T64 (Kd.R_reads' HO_11.out).2.2 x13_2 p210 q210
     cases e210
     replace p210 := eq_true p210
     replace q210 := eq_true q210
     go_wp2_with (first | ((with_reducible refine gate_dst (N := 14) rfl ?_); refine box_event ?hg (N := 14) ?hd (cs := #[.int .i64 0, .int .i64 0]) (t := 64) ?hr ?_; (case hd => rfl); (case hg => rfl); (case hr => first | (go_simp; done) | (go_simp; rfl)); intro gb211 hg w65 hbox hb; have n0_ := aM (Kd.R_below (Kd.R_elderB (uR HO_11.out) gb211 (Nat.le_of_eq hg.symm)) hb); have n1_ := aM (Kd.R_below (uR HO_210002.out) hb); have n2_ := aM (Kd.S_below (by (with_reducible repeat (first | apply Kd.S_alloc | apply Kd.S_drewN | apply Kd.S_drew)); exact HO_210003.out) hb); have n3_ := aM (blk_below (uB BK199.out) hb); have n4_ := aM (blk_below (uB BK200.out) hb); have n5_ := aM (blk_below (uB BK201.out) hb); have n6_ := aM (blk_below (g := gb204) (o := mapO ek64 (Value.int .i64) x205000_2) (uB BK204.out) hb); have n7_ := aM (blk_below (uB BK209.out) hb); have n8_ := aM (below_step (by repeat (first | (with_reducible first | exact HB.out | apply bA | apply bN | apply bD | refine bS ?_ ‹_›) | exact HB.out)) hb); have n9_ := aM (hbox); have n10_ := aM ((by rw [hg]; exact (below_size (by repeat (first | (with_reducible first | exact HB.out | apply bA | apply bN | apply bD | refine bS ?_ ‹_›) | exact HB.out))) : w.heap.size ≤ gb211)); have n11_ := aM ((by rw [hg]; exact (below_size (by repeat (first | (with_reducible first | exact HB.out | apply bA | apply bN | apply bD | refine bS ?_ ‹_›) | exact HB.out))) : w.heap.size ≤ gb211)); have n12_ := aM ((by rw [hg]; exact Nat.ne_of_lt (blk_lt (uB BK199.out)) : gb199 ≠ gb211)); have n13_ := aM ((by rw [hg]; exact Nat.ne_of_gt (blk_lt (uB BK199.out)) : gb211 ≠ gb199)); have n14_ := aM ((by rw [hg]; exact Nat.ne_of_lt (blk_lt (uB BK200.out)) : gb200 ≠ gb211)); have n15_ := aM ((by rw [hg]; exact Nat.ne_of_gt (blk_lt (uB BK200.out)) : gb211 ≠ gb200)); have n16_ := aM ((by rw [hg]; exact Nat.ne_of_lt (blk_lt (uB BK201.out)) : gb201 ≠ gb211)); have n17_ := aM ((by rw [hg]; exact Nat.ne_of_gt (blk_lt (uB BK201.out)) : gb211 ≠ gb201)); have n18_ := aM ((by rw [hg]; exact Nat.ne_of_lt (blk_lt (g := gb204) (o := mapO ek64 (Value.int .i64) x205000_2) (uB BK204.out)) : gb204 ≠ gb211)); have n19_ := aM ((by rw [hg]; exact Nat.ne_of_gt (blk_lt (g := gb204) (o := mapO ek64 (Value.int .i64) x205000_2) (uB BK204.out)) : gb211 ≠ gb204)); have n20_ := aM ((by rw [hg]; exact Nat.ne_of_lt (blk_lt (uB BK209.out)) : gb209 ≠ gb211)); have n21_ := aM ((by rw [hg]; exact Nat.ne_of_gt (blk_lt (uB BK209.out)) : gb211 ≠ gb209)); clear HO_11; clear HO_210002; clear HO_210003; clear BK199; clear BK200; clear BK201; clear BK204; clear BK209; clear HB; have HO_11 := n0_; have HO_210002 := n1_; have HO_210003 := n2_; have BK199 := n3_; have BK200 := n4_; have BK201 := n5_; have BK204 := n6_; have BK209 := n7_; have HB := n8_; have BK211 := n9_; have GW211 := n10_; have GE211 := n11_; have NB199_211 := n12_; have NB211_199 := n13_; have NB200_211 := n14_; have NB211_200 := n15_; have NB201_211 := n16_; have NB211_201 := n17_; have NB204_211 := n18_; have NB211_204 := n19_; have NB209_211 := n20_; have NB211_209 := n21_; clear n0_ n1_ n2_ n3_ n4_ n5_ n6_ n7_ n8_ n9_ n10_ n11_ n12_ n13_ n14_ n15_ n16_ n17_ n18_ n19_ n20_ n21_; clear hb hbox hg; have hnb66 := NB211_199.out; have hnc66 := NB199_211.out; have hnb67 := NB211_200.out; have hnc67 := NB200_211.out; have hnb68 := NB211_201.out; have hnc68 := NB201_211.out; have hnb69 := NB211_204.out; have hnc69 := NB204_211.out; have hnb70 := NB211_209.out; have hnc70 := NB209_211.out; have hcz71_0 : w65.cell? ⟨gb211, 0, none⟩ = some (.int .i64 0) := (blk_cell BK211.out 0).trans rfl; have hcz71_1 : w65.cell? ⟨gb211, 1, none⟩ = some (.int .i64 0) := (blk_cell BK211.out 1).trans rfl; have hfz71_0 := blk_frozen BK211.out 0; have hfz71_1 := blk_frozen BK211.out 1; have hnb72 := NB199_200.out; have hnc72 := NB200_199.out; have hnb73 := NB199_201.out; have hnc73 := NB201_199.out; have hnb74 := NB199_204.out; have hnc74 := NB204_199.out; have hnb75 := NB199_209.out; have hnc75 := NB209_199.out; have hcz76_0 : w65.cell? ⟨gb199, 0, none⟩ = some (.int .i64 a0_0) := (blk_cell BK199.out 0).trans rfl; have hcz76_1 : w65.cell? ⟨gb199, 1, none⟩ = some (.int .i64 a0_1) := (blk_cell BK199.out 1).trans rfl; have hcz76_2 : w65.cell? ⟨gb199, 2, none⟩ = some (.slice A0_2 l0_2.length c0_2) := (blk_cell BK199.out 2).trans rfl; have hcz76_3 : w65.cell? ⟨gb199, 3, none⟩ = some (.slice A0_3 l0_3.length c0_3) := (blk_cell BK199.out 3).trans rfl; have hfz76_0 := blk_frozen BK199.out 0; have hfz76_1 := blk_frozen BK199.out 1; have hfz76_2 := blk_frozen BK199.out 2; have hfz76_3 := blk_frozen BK199.out 3) | ((with_reducible refine gate_dst (N := 75) rfl ?_); refine Kd.R_make (Kd.int .i64) _ 3 rfl (N := 75) rfl 38 _ _ rfl a0_0 rfl rfl Try.underlying38 (.int .i64 0) 8 info3 rfl (by decide) (by omega) 0 (ok := fun _ => True) (okp := fun _ => True) rfl (fun _ hk => hk) trivial (of_decide_eq_true (by assumption)) (Nat.le_trans (Nat.mul_le_mul_right _ (of_decide_eq_true (by assumption) : a0_0.toNat ≤ 35184372088832)) (by omega)) (Below.refl _ _) (Nat.le_refl _) ?_; intro v213 w77 ho78 hb hg_ hnew_; clear hg_ hnew_; (first | rw [← Ny212.out] at ho78 | (simp only [Int.reduceToNat] at ho78; rw [← Ny212.out] at ho78)); have n0_ := aM (Kd.R_below (uR ((Kd.R_mono (Kd.R_far (p := ⟨gb211, 1, none⟩) (Kd.R_far (p := ⟨gb211, 0, none⟩) (Kd.R_mono HO_11.out (fun k_ hk => (⟨hk, hk.2⟩ : _ ∧ k_ ≠ gb211))) (fun _ hk => hk.2) (.int .i64 ((rd_T64 x11_2 x13_2).f0))) (fun _ hk => hk.2) (.int .i64 ((rd_T64 x11_2 x13_2).f1))) (fun _ h_ => h_.1)))) hb); have n1_ := aM (Kd.R_below (uR ((Kd.R_mono (Kd.R_far (p := ⟨gb211, 1, none⟩) (Kd.R_far (p := ⟨gb211, 0, none⟩) (Kd.R_types HO_210002.out BK211.out (by decide)) (fun _ hk => hk.2) (.int .i64 ((rd_T64 x11_2 x13_2).f0))) (fun _ hk => hk.2) (.int .i64 ((rd_T64 x11_2 x13_2).f1))) (fun _ h_ => h_.1)))) hb); have n2_ := aM (Kd.S_elder' (by (with_reducible repeat (first | apply Kd.S_alloc | apply Kd.S_drewN | apply Kd.S_drew)); exact (Kd.S_mono (Kd.S_far (p := ⟨gb211, 1, none⟩) (Kd.S_far (p := ⟨gb211, 0, none⟩) (Kd.S_types HO_210003.out BK211.out (by decide)) (fun _ hk => hk.2) (.int .i64 ((rd_T64 x11_2 x13_2).f0))) (fun _ hk => hk.2) (.int .i64 ((rd_T64 x11_2 x13_2).f1))) (fun _ h_ => h_.1))) (Kd.R_base ho78) hb); have n3_ := aM (Kd.R_lower ho78 (below_size (by repeat (first | (with_reducible first | exact HB.out | apply bA | apply bN | apply bD | refine bS ?_ ‹_›) | exact HB.out)))); have n4_ := aM (blk_below (g := gb199) (o := .cells #[.int .i64 a0_0, .int .i64 a0_1, .slice A0_2 l0_2.length c0_2, .slice A0_3 l0_3.length c0_3] 25 (0, 0)) (by (with_reducible repeat (first | refine kN ?_ | refine kD ?_ | refine kA ?_ | refine blk_far ?_ NB199_211.out _)); exact BK199.out) hb); have n5_ := aM (blk_below (g := gb200) (o := .cells #[.int .i64 a1_0, .int .i64 a1_1, .slice A1_2 l1_2.length c1_2, .slice A1_3 l1_3.length c1_3] 25 (0, 0)) (by (with_reducible repeat (first | refine kN ?_ | refine kD ?_ | refine kA ?_ | refine blk_far ?_ NB200_211.out _)); exact BK200.out) hb); have n6_ := aM (blk_below (g := gb201) (o := .cells #[.int .i64 x202000_2, .int .i64 x202001_2, .slice none 0 0, .slice none 0 0] 25 (0, 0)) (by (with_reducible repeat (first | refine kN ?_ | refine kD ?_ | refine kA ?_ | refine blk_far ?_ NB201_211.out _)); exact BK201.out) hb); have n7_ := aM (blk_below (g := gb204) (o := mapO ek64 (Value.int .i64) x205000_2) (by (with_reducible repeat (first | refine kN ?_ | refine kD ?_ | refine kA ?_)); refine blkF ?_ NB204_211.out _; (with_reducible repeat (first | refine kN ?_ | refine kD ?_ | refine kA ?_)); refine blkF ?_ NB204_211.out _; (with_reducible repeat (first | refine kN ?_ | refine kD ?_ | refine kA ?_)); exact BK204.out) hb); have n8_ := aM (blk_below (g := gb209) (o := .cells #[.int .i64 a0_0, .int .i64 0, u210002, u210003] 25 (0, 0)) (by (with_reducible repeat (first | refine kN ?_ | refine kD ?_ | refine kA ?_ | refine blk_far ?_ NB209_211.out _)); exact BK209.out) hb); have n9_ := aM (blk_below (g := gb211) (o := .cells #[.int .i64 ((rd_T64 x11_2 x13_2).f0), .int .i64 ((rd_T64 x11_2 x13_2).f1)] 64 (0, 0)) (by (with_reducible repeat (first | refine kN ?_ | refine kD ?_ | refine kA ?_)); refine blk_put (cs := #[.int .i64 ((rd_T64 x11_2 x13_2).f0), .int .i64 0]) ?_ 1 _ rfl; (with_reducible repeat (first | refine kN ?_ | refine kD ?_ | refine kA ?_)); refine blk_put (cs := #[.int .i64 0, .int .i64 0]) ?_ 0 _ rfl; (with_reducible repeat (first | refine kN ?_ | refine kD ?_ | refine kA ?_)); exact BK211.out) hb); have n10_ := aM (below_step (by repeat (first | (with_reducible first | exact HB.out | apply bA | apply bN | apply bD | refine bS ?_ ‹_›) | exact HB.out)) hb); clear HO_11; clear HO_210002; clear HO_210003; clear BK199; clear BK200; clear BK201; clear BK204; clear BK209; clear BK211; clear HB; have HO_11 := n0_; have HO_210002 := n1_; have HO_210003 := n2_; have HO214 := n3_; have BK199 := n4_; have BK200 := n5_; have BK201 := n6_; have BK204 := n7_; have BK209 := n8_; have BK211 := n9_; have HB := n10_; clear n0_ n1_ n2_ n3_ n4_ n5_ n6_ n7_ n8_ n9_ n10_; clear hb ho78; obtain ⟨Ao79, co79, eo79⟩ := Kd.R_slice HO214.out; subst eo79))
     go_loopg [11, 78] k2 (fun kq v11 v78 w' => ∃ (x11_3 : List (S64)) (x15_3 : List Int) (x78_3 : Int) (x202000_3 : Int) (x202001_3 : Int) (x205000_3 : AM S64 Int), v78 = .int .i64 x78_3 ∧ Aside0 (dfa_Product.l1 kq a2 x11_3 x13_2 x15_3 (y212.length : Int) x78_3 a0_0 a0_1 l0_2 l0_3 a1_0 a1_1 l1_2 l1_3 x205000_3 a0_0 0 x210002_2 x210003_2 ((rd_T64 x11_2 x13_2).f0) ((rd_T64 x11_2 x13_2).f1) = some (r1, r2, r3, r4, r5)) ∧ Aside0 (kq ≤ k2) ∧ Aside0 (Kd.R k64 64 w' w.heap.size (fun k_ => k_ ≠ gb211) v11 x11_3) ∧ Aside0 (Kd.R (Kd.int .i64) 3 w' w.heap.size (fun _ => True) (.slice Ao79 y212.length co79) x15_3) ∧ Aside0 (Kd.R Kd.bool 4 w' w.heap.size (fun _ => True) u210002 x210002_2) ∧ Aside0 (Kd.S (Kd.slice 3 (Kd.int .i64)) 38 w' w.heap.size (fun k_ => some k_ ≠ ((.slice Ao79 y212.length co79) : Value).ownBlock) u210003 x210003_2) ∧ Aside0 (w'.heap[gb199]? = some (.cells #[.int .i64 a0_0, .int .i64 a0_1, (.slice A0_2 l0_2.length c0_2), (.slice A0_3 l0_3.length c0_3)] 25 (0, 0))) ∧ Aside0 (w'.heap[gb200]? = some (.cells #[.int .i64 a1_0, .int .i64 a1_1, (.slice A1_2 l1_2.length c1_2), (.slice A1_3 l1_3.length c1_3)] 25 (0, 0))) ∧ Aside0 (w'.heap[gb201]? = some (.cells #[.int .i64 x202000_3, .int .i64 x202001_3, (.slice none 0 0), (.slice none 0 0)] 25 (0, 0))) ∧ Aside0 (w'.heap[gb204]? = some (mapO ek64 (Value.int .i64) x205000_3)) ∧ Aside0 (w'.heap[gb209]? = some (.cells #[.int .i64 a0_0, .int .i64 0, u210002, u210003] 25 (0, 0))) ∧ Aside0 (w'.heap[gb211]? = some (.cells #[.int .i64 ((rd_T64 x11_2 x13_2).f0), .int .i64 ((rd_T64 x11_2 x13_2).f1)] 64 (0, 0))) ∧ Aside0 (Below w.heap.size w w'))
     case atStart => exact ⟨(x11_2), (y212), (0), (x202000_2), (x202001_2), (x205000_2), (by first | rfl | (simp; done) | (simp [*]; done)), H', ⟨Nat.le_refl _⟩, ⟨by (with_reducible repeat (first | apply Kd.R_alloc | apply Kd.R_drewN | apply Kd.R_drew)); exact Kd.R_mono HO_11.out (fun _ hk => hk.2)⟩, ⟨by (with_reducible repeat (first | apply Kd.R_alloc | apply Kd.R_drewN | apply Kd.R_drew)); exact HO214.out⟩, ⟨by (with_reducible repeat (first | apply Kd.R_alloc | apply Kd.R_drewN | apply Kd.R_drew)); exact HO_210002.out⟩, ⟨by (with_reducible repeat (first | apply Kd.S_alloc | apply Kd.S_drewN | apply Kd.S_drew)); exact Kd.S_mono HO_210003.out (fun _ hk => hk.2)⟩, ⟨by (with_reducible repeat (first | refine kN ?_ | refine kD ?_ | refine kA ?_)); exact BK199.out⟩, ⟨by (with_reducible repeat (first | refine kN ?_ | refine kD ?_ | refine kA ?_)); exact BK200.out⟩, ⟨by (with_reducible repeat (first | refine kN ?_ | refine kD ?_ | refine kA ?_)); exact BK201.out⟩, ⟨by (with_reducible repeat (first | refine kN ?_ | refine kD ?_ | refine kA ?_)); exact BK204.out⟩, ⟨by (with_reducible repeat (first | refine kN ?_ | refine kD ?_ | refine kA ?_)); exact BK209.out⟩, ⟨by (with_reducible repeat (first | refine kN ?_ | refine kD ?_ | refine kA ?_)); exact BK211.out⟩, ⟨by repeat (first | (with_reducible first | exact HB.out | apply bA | apply bN | apply bD | refine bS ?_ ‹_›) | exact HB.out)⟩⟩
     case round =>
      clear H'
      try clear c1
      try clear c2
      try clear p2
      try clear q2
      try clear hx2
      try clear c3
      try clear c4
      try clear c5
      try clear c5b0
      try clear c5b1
      try clear c6
      try clear c7
      try clear c7b0
      try clear c7b1
      try clear c12
      try clear c13
      try clear c14
      try clear c16
      try clear c19
      try clear c19b0
      try clear c19b1
      try clear c20
      try clear c20b0
      try clear c21
      try clear p21
      try clear q21
      try clear hx21
      try clear c22
      try clear c24
      try clear c26
      try clear c27
      try clear c29
      try clear c31
      try clear c32
      try clear c34
      try clear c36
      try clear c37
      try clear c38
      try clear c41
      try clear c42
      try clear c43
      try clear c45
      try clear c46
      try clear c55
      try clear c56
      try clear c57
      try clear c58
      try clear c60
      try clear c60b0
      try clear c61
      try clear c61b0
      try clear c62
      try clear c62b0
      try clear c62b1
      try clear c63
      try clear c63b0
      try clear c63b1
      try clear c66
      try clear c67
      try clear c68
      try clear c69
      try clear c70
      try clear c72
      try clear c73
      try clear c74
      try clear c75
      try clear hcz14_0
      try clear hcz14_1
      try clear hcz14_2
      try clear hcz14_3
      try clear hcz17_0
      try clear hcz17_1
      try clear hcz17_2
      try clear hcz17_3
      try clear hcz23_0
      try clear hcz23_1
      try clear hcz23_2
      try clear hcz23_3
      try clear hcz25_0
      try clear hcz25_1
      try clear hcz25_2
      try clear hcz25_3
      try clear hcz28_0
      try clear hcz28_1
      try clear hcz28_2
      try clear hcz28_3
      try clear hcz30_0
      try clear hcz30_1
      try clear hcz30_2
      try clear hcz30_3
      try clear hcz33_0
      try clear hcz33_1
      try clear hcz33_2
      try clear hcz33_3
      try clear hcz35_0
      try clear hcz35_1
      try clear hcz35_2
      try clear hcz35_3
      try clear hcz39_0
      try clear hcz39_1
      try clear hcz39_2
      try clear hcz39_3
      try clear hcz44_0
      try clear hcz44_1
      try clear hcz44_2
      try clear hcz44_3
      try clear hcz47_0
      try clear hcz47_1
      try clear hcz47_2
      try clear hcz47_3
      try clear hcz49_0
      try clear hcz49_1
      try clear hcz49_2
      try clear hcz49_3
      try clear hcz50_0
      try clear hcz50_1
      try clear hcz50_2
      try clear hcz50_3
      try clear hcz53_0
      try clear hcz53_1
      try clear hcz53_2
      try clear hcz53_3
      try clear hcz59_0
      try clear hcz59_1
      try clear hcz59_2
      try clear hcz59_3
      try clear hcz71_0
      try clear hcz71_1
      try clear hcz76_0
      try clear hcz76_1
      try clear hcz76_2
      try clear hcz76_3
      try clear hfz14_0
      try clear hfz14_1
      try clear hfz14_2
      try clear hfz14_3
      try clear hfz17_0
      try clear hfz17_1
      try clear hfz17_2
      try clear hfz17_3
      try clear hfz23_0
      try clear hfz23_1
      try clear hfz23_2
      try clear hfz23_3
      try clear hfz25_0
      try clear hfz25_1
      try clear hfz25_2
      try clear hfz25_3
      try clear hfz28_0
      try clear hfz28_1
      try clear hfz28_2
      try clear hfz28_3
      try clear hfz30_0
      try clear hfz30_1
      try clear hfz30_2
      try clear hfz30_3
      try clear hfz33_0
      try clear hfz33_1
      try clear hfz33_2
      try clear hfz33_3
      try clear hfz35_0
      try clear hfz35_1
      try clear hfz35_2
      try clear hfz35_3
      try clear hfz39_0
      try clear hfz39_1
      try clear hfz39_2
      try clear hfz39_3
      try clear hfz44_0
      try clear hfz44_1
      try clear hfz44_2
      try clear hfz44_3
      try clear hfz47_0
      try clear hfz47_1
      try clear hfz47_2
      try clear hfz47_3
      try clear hfz49_0
      try clear hfz49_1
      try clear hfz49_2
      try clear hfz49_3
      try clear hfz50_0
      try clear hfz50_1
      try clear hfz50_2
      try clear hfz50_3
      try clear hfz53_0
      try clear hfz53_1
      try clear hfz53_2
      try clear hfz53_3
      try clear hfz59_0
      try clear hfz59_1
      try clear hfz59_2
      try clear hfz59_3
      try clear hfz71_0
      try clear hfz71_1
      try clear hfz76_0
      try clear hfz76_1
      try clear hfz76_2
      try clear hfz76_3
      try clear hx210_0
      try clear hx210_1
      try clear p2
      try clear p210
      try clear q210
      obtain ⟨x11_3, x15_3, x78_3, x202000_3, x202001_3, x205000_3, rfl, HA, HK3, HO_11, HO_15, HO_210002, HO_210003, BK199, BK200, BK201, BK204, BK209, BK211, HB⟩ := hrel
      have hl15_3 := (Kd.R_reads' HO_15.out).1
      rw [hl15_3] at HO_15
      (try simp only [hl15_3])
      (try simp only [hl15_3] at BK199)
      (try simp only [hl15_3] at BK200)
      (try simp only [hl15_3] at BK201)
      (try simp only [hl15_3] at BK204)
      (try simp only [hl15_3] at BK209)
      (try simp only [hl15_3] at BK211)
      (try simp only [hl15_3] at HO_11)
      (try simp only [hl15_3] at HO_210002)
      (try simp only [hl15_3] at HO_210003)
      cases gk with
      | zero => exact absurd HA.out (by simp [dfa_Product.l1])
      | succ k3 =>
       have H := HA.out
       clear HA
       simp only [dfa_Product.l1] at H
       by_cases c80 : x78_3 < (y212.length : Int)
       (focus
       rw [if_pos c80] at H
       have c80b0 : decide (x78_3 < (y212.length : Int)) = true := decide_eq_true c80
       (try (have c80b0_hl15_3 := c80b0; simp only [hl15_3] at c80b0_hl15_3))
       clear c80
       by_cases c81 : 0 ≤ ((rd_T64 x11_2 x13_2).f0)
       (focus
       rw [if_pos c81] at H
       have c81b0 : decide (0 ≤ ((rd_T64 x11_2 x13_2).f0)) = true := decide_eq_true c81
       clear c81
       by_cases c82 : ((rd_T64 x11_2 x13_2).f0) < (l0_3.length : Int)
       (focus
       rw [if_pos c82] at H
       have c82b0 : decide (((rd_T64 x11_2 x13_2).f0) < (l0_3.length : Int)) = true := decide_eq_true c82
       (try (have c82b0_hl15_3 := c82b0; simp only [hl15_3] at c82b0_hl15_3))
       clear c82
       by_cases c83 : 0 ≤ x78_3
       (focus
       rw [if_pos c83] at H
       have c83b0 : decide (0 ≤ x78_3) = true := decide_eq_true c83
       clear c83
       by_cases c84 : x78_3 < ((rd_L1 l0_3 ((rd_T64 x11_2 x13_2).f0)).length : Int)
       (focus
       rw [if_pos c84] at H
       have c84b0 : decide (x78_3 < ((rd_L1 l0_3 ((rd_T64 x11_2 x13_2).f0)).length : Int)) = true := decide_eq_true c84
       (try (have c84b0_hl15_3 := c84b0; simp only [hl15_3] at c84b0_hl15_3))
       clear c84
       by_cases c85 : 0 ≤ ((rd_T64 x11_2 x13_2).f1)
       (focus
       rw [if_pos c85] at H
       have c85b0 : decide (0 ≤ ((rd_T64 x11_2 x13_2).f1)) = true := decide_eq_true c85
       clear c85
       by_cases c86 : ((rd_T64 x11_2 x13_2).f1) < (l1_3.length : Int)
       (focus
       rw [if_pos c86] at H
       have c86b0 : decide (((rd_T64 x11_2 x13_2).f1) < (l1_3.length : Int)) = true := decide_eq_true c86
       (try (have c86b0_hl15_3 := c86b0; simp only [hl15_3] at c86b0_hl15_3))
       clear c86
       by_cases c87 : x78_3 < ((rd_L1 l1_3 ((rd_T64 x11_2 x13_2).f1)).length : Int)
       (focus
       rw [if_pos c87] at H
       have c87b0 : decide (x78_3 < ((rd_L1 l1_3 ((rd_T64 x11_2 x13_2).f1)).length : Int)) = true := decide_eq_true c87
       (try (have c87b0_hl15_3 := c87b0; simp only [hl15_3] at c87b0_hl15_3))
       clear c87
       by_cases c88 : ((AM.has x205000_3 (⟨rd (rd_L1 l0_3 ((rd_T64 x11_2 x13_2).f0)) x78_3, rd (rd_L1 l1_3 ((rd_T64 x11_2 x13_2).f1)) x78_3⟩ : S64)) = true)
       (focus
       rw [if_pos c88] at H
       have c88b0 : (AM.has x205000_3 (⟨rd (rd_L1 l0_3 ((rd_T64 x11_2 x13_2).f0)) x78_3, rd (rd_L1 l1_3 ((rd_T64 x11_2 x13_2).f1)) x78_3⟩ : S64)) = true := c88
       clear c88
       by_cases c89 : x78_3 < (x15_3.length : Int)
       (focus
       rw [if_pos c89] at H
       have c89b0 : decide (x78_3 < (x15_3.length : Int)) = true := decide_eq_true c89
       (try (have c89b0_hl15_3 := c89b0; simp only [hl15_3] at c89b0_hl15_3))
       clear c89
       obtain ⟨y220, hy220⟩ : ∃ y_ : List Int, y_ = (x15_3.set (x78_3 : Int).toNat (AM.get x205000_3 (⟨rd (rd_L1 l0_3 ((rd_T64 x11_2 x13_2).f0)) x78_3, rd (rd_L1 l1_3 ((rd_T64 x11_2 x13_2).f1)) x78_3⟩ : S64) 0)) := ⟨_, rfl⟩
       replace H : (dfa_Product.l1 k3 a2 x11_3 x13_2 y220 (y212.length : Int) (wrap64 (x78_3 + 1)) a0_0 a0_1 l0_2 l0_3 a1_0 a1_1 l1_2 l1_3 x205000_3 a0_0 0 x210002_2 x210003_2 ((rd_T64 x11_2 x13_2).f0) ((rd_T64 x11_2 x13_2).f1)) = some (r1, r2, r3, r4, r5) := by first | (rw [hy220]; with_reducible exact H) | (have H2_ := (Option.bind_some _ _).symm.trans H; rw [hy220]; with_reducible exact H2_) | (have H2_ := (Option.bind_some _ _).symm.trans H; with_reducible exact H2_) | with_reducible exact H | (rw [hy220]; exact H) | exact H
       have Ny220 := Aside0.mk hy220
       clear hy220
       have H' := Aside0.mk H
       clear H
       try go_wp2
       have n0_ := aM (Kd.R_drew HO_11.out)
       have n1_ := aM (Kd.R_drew HO_15.out)
       have n2_ := aM (Kd.R_drew HO_210002.out)
       have n3_ := aM (Kd.S_drew HO_210003.out)
       have n4_ := aM (blk_drew BK199.out)
       have n5_ := aM (blk_drew BK200.out)
       have n6_ := aM (blk_drew BK201.out)
       have n7_ := aM (blk_drew BK204.out)
       have n8_ := aM (blk_drew BK209.out)
       have n9_ := aM (blk_drew BK211.out)
       have n10_ := aM (below_drew1 HB.out)
       clear HO_11
       clear HO_15
       clear HO_210002
       clear HO_210003
       clear BK199
       clear BK200
       clear BK201
       clear BK204
       clear BK209
       clear BK211
       clear HB
       have HO_11 := n0_
       have HO_15 := n1_
       have HO_210002 := n2_
       have HO_210003 := n3_
       have BK199 := n4_
       have BK200 := n5_
       have BK201 := n6_
       have BK204 := n7_
       have BK209 := n8_
       have BK211 := n9_
       have HB := n10_
       clear n0_ n1_ n2_ n3_ n4_ n5_ n6_ n7_ n8_ n9_ n10_
       have p215 : 0 ≤ (((rd_T64 x11_2 x13_2).f0) : Int) := of_decide_eq_true (by assumption)
       have q215 : ((rd_T64 x11_2 x13_2).f0) < (l0_3.length : Int) := of_decide_eq_true (by assumption)
       obtain ⟨ad215, A215_0, c215_0, e215, hx215_0, hl215_0, hi215_0⟩ := at_L1 HR0_3.out ((rd_T64 x11_2 x13_2).f0) p215 q215
       have hw215_0 := hx215_0
       cases e215
       (try replace hx215_0 := (HB.out.cell (World.block_lt_of_cell? w _ hx215_0)).trans hx215_0)
       have HR215_0 := Aside0.mk hi215_0
       have HC215_0 := Aside0.mk hl215_0
       clear hi215_0 hl215_0
       replace p215 := eq_true p215
       replace q215 := eq_true q215
       have p216 : 0 ≤ (x78_3 : Int) := of_decide_eq_true (by assumption)
       have q216 : x78_3 < ((rd_L1 l0_3 ((rd_T64 x11_2 x13_2).f0)).length : Int) := of_decide_eq_true (by assumption)
       obtain ⟨ad216, e216, hx216_0⟩ := Kd.at_int HR215_0.out x78_3 p216 q216
       have hw216_0 := hx216_0
       cases e216
       (try replace hx216_0 := (HB.out.cell (World.block_lt_of_cell? w _ hx216_0)).trans hx216_0)
       replace p216 := eq_true p216
       replace q216 := eq_true q216
       have p217 : 0 ≤ (((rd_T64 x11_2 x13_2).f1) : Int) := of_decide_eq_true (by assumption)
       have q217 : ((rd_T64 x11_2 x13_2).f1) < (l1_3.length : Int) := of_decide_eq_true (by assumption)
       obtain ⟨ad217, A217_0, c217_0, e217, hx217_0, hl217_0, hi217_0⟩ := at_L1 HR1_3.out ((rd_T64 x11_2 x13_2).f1) p217 q217
       have hw217_0 := hx217_0
       cases e217
       (try replace hx217_0 := (HB.out.cell (World.block_lt_of_cell? w _ hx217_0)).trans hx217_0)
       have HR217_0 := Aside0.mk hi217_0
       have HC217_0 := Aside0.mk hl217_0
       clear hi217_0 hl217_0
       replace p217 := eq_true p217
       replace q217 := eq_true q217
       have p218 : 0 ≤ (x78_3 : Int) := of_decide_eq_true (by assumption)
       have q218 : x78_3 < ((rd_L1 l1_3 ((rd_T64 x11_2 x13_2).f1)).length : Int) := of_decide_eq_true (by assumption)
       obtain ⟨ad218, e218, hx218_0⟩ := Kd.at_int HR217_0.out x78_3 p218 q218
       have hw218_0 := hx218_0
       cases e218
       (try replace hx218_0 := (HB.out.cell (World.block_lt_of_cell? w _ hx218_0)).trans hx218_0)
       replace p218 := eq_true p218
       replace q218 := eq_true q218
       refine start_ (n := 21) (S := fun w' => w'.cell? ⟨gb199, 0, none⟩ = some (.int .i64 a0_0) ∧ w'.cell? ⟨gb199, 1, none⟩ = some (.int .i64 a0_1) ∧ w'.cell? ⟨gb199, 2, none⟩ = some (.slice A0_2 l0_2.length c0_2) ∧ w'.cell? ⟨gb199, 3, none⟩ = some (.slice (some ad215) l0_3.length c0_3) ∧ w'.cell? ⟨gb211, 0, none⟩ = some (.int .i64 ((rd_T64 x11_2 x13_2).f0)) ∧ w'.cell? ⟨gb211, 1, none⟩ = some (.int .i64 ((rd_T64 x11_2 x13_2).f1)) ∧ w'.cell? ⟨gb200, 0, none⟩ = some (.int .i64 a1_0) ∧ w'.cell? ⟨gb200, 1, none⟩ = some (.int .i64 a1_1) ∧ w'.cell? ⟨gb200, 2, none⟩ = some (.slice A1_2 l1_2.length c1_2) ∧ w'.cell? ⟨gb200, 3, none⟩ = some (.slice (some ad217) l1_3.length c1_3) ∧ w'.cell? (ad215.add (((rd_T64 x11_2 x13_2).f0)).toNat) = some (.slice (some ad216) (rd_L1 l0_3 ((rd_T64 x11_2 x13_2).f0)).length c215_0) ∧ w'.cell? (ad216.add (x78_3).toNat) = some (.int .i64 (rd (rd_L1 l0_3 ((rd_T64 x11_2 x13_2).f0)) x78_3)) ∧ w'.cell? (ad217.add (((rd_T64 x11_2 x13_2).f1)).toNat) = some (.slice (some ad218) (rd_L1 l1_3 ((rd_T64 x11_2 x13_2).f1)).length c217_0) ∧ w'.cell? (ad218.add (x78_3).toNat) = some (.int .i64 (rd (rd_L1 l1_3 ((rd_T64 x11_2 x13_2).f1)) x78_3))) (ds := []) #[false, false, false, false, false, false, false, false, false, false, false, false, false, false, false, false, false, false, false, false, false] (by kernel_rfl) rfl rfl ⟨(blk_cell BK199.out 0).trans rfl, (blk_cell BK199.out 1).trans rfl, (blk_cell BK199.out 2).trans rfl, (blk_cell BK199.out 3).trans rfl, (blk_cell BK211.out 0).trans rfl, (blk_cell BK211.out 1).trans rfl, (blk_cell BK200.out 0).trans rfl, (blk_cell BK200.out 1).trans rfl, (blk_cell BK200.out 2).trans rfl, (blk_cell BK200.out 3).trans rfl, ((HB.out.cell (World.block_lt_of_cell? w _ hw215_0)).trans hw215_0), ((HB.out.cell (World.block_lt_of_cell? w _ hw216_0)).trans hw216_0), ((HB.out.cell (World.block_lt_of_cell? w _ hw217_0)).trans hw217_0), ((HB.out.cell (World.block_lt_of_cell? w _ hw218_0)).trans hw218_0)⟩ (fun hHeld => ?_); refine with_tabW dfa_Product.tab20 dfa_Product.bits20 (fun HT_ HW_ => ?_)
       generalize wr.drew = w91 at HO_11 HO_15 HO_210002 HO_210003 BK199 BK200 BK201 BK204 BK209 BK211 HB HR215_0 HR217_0 hx215_0 hx216_0 hx217_0 hx218_0 hHeld ⊢
       refine pure_ (i := 0) (N := some 81) (v := ?_) (a' := ?_) #[true, false, false, false, false, false, false, false, false, false, false, false, false, false, false, false, false, false, false, false, false] rfl rfl (any_of HT_.out (by kernel_rfl)) (fun _ _ _ h => h) (Or.inl ⟨by rfl, ?_⟩) ?_ ?_
       rotate_left
       (focus
       intro w'
       go_simp
       with_reducible rfl
       )
       rotate_left
       (focus
       simp only [Act.put, sA, sB, sC, i64_w, i32_w]
       rfl
       )
       refine pure_ (i := 2) (N := some 83) (v := ?_) (a' := ?_) #[true, false, true, false, false, false, false, false, false, false, false, false, false, false, false, false, false, false, false, false, false] rfl rfl (any_of HT_.out (by kernel_rfl)) (fun _ _ _ h => h) (Or.inl ⟨by rfl, ?_⟩) ?_ ?_
       rotate_left
       (focus
       intro w'
       go_simp
       with_reducible rfl
       )
       rotate_left
       (focus
       simp only [Act.put, sA, sB, sC, i64_w, i32_w]
       rfl
       )
       refine pure_ (i := 6) (N := some 87) (v := ?_) (a' := ?_) #[true, false, true, false, false, false, true, false, false, false, false, false, false, false, false, false, false, false, false, false, false] rfl rfl (any_of HT_.out (by kernel_rfl)) (fun _ _ _ h => h) (Or.inl ⟨by rfl, ?_⟩) ?_ ?_
       rotate_left
       (focus
       intro w'
       go_simp
       with_reducible rfl
       )
       rotate_left
       (focus
       simp only [Act.put, sA, sB, sC, i64_w, i32_w]
       rfl
       )
       refine pure_ (i := 9) (N := some 90) (v := ?_) (a' := ?_) #[true, false, true, false, false, false, true, false, false, true, false, false, false, false, false, false, false, false, false, false, false] rfl rfl (any_of HT_.out (by kernel_rfl)) (fun _ _ _ h => h) (Or.inl ⟨by rfl, ?_⟩) ?_ ?_
       rotate_left
       (focus
       intro w'
       go_simp
       with_reducible rfl
       )
       rotate_left
       (focus
       simp only [Act.put, sA, sB, sC, i64_w, i32_w]
       rfl
       )
       refine pure_ (i := 11) (N := some 92) (v := ?_) (a' := ?_) #[true, false, true, false, false, false, true, false, false, true, false, true, false, false, false, false, false, false, false, false, false] rfl rfl (any_of HT_.out (by kernel_rfl)) (fun _ _ _ h => h) (Or.inl ⟨by rfl, ?_⟩) ?_ ?_
       rotate_left
       (focus
       intro w'
       go_simp
       with_reducible rfl
       )
       rotate_left
       (focus
       simp only [Act.put, sA, sB, sC, i64_w, i32_w]
       rfl
       )
       refine pure_ (i := 15) (N := some 96) (v := ?_) (a' := ?_) #[true, false, true, false, false, false, true, false, false, true, false, true, false, false, false, true, false, false, false, false, false] rfl rfl (any_of HT_.out (by kernel_rfl)) (fun _ _ _ h => h) (Or.inl ⟨by rfl, ?_⟩) ?_ ?_
       rotate_left
       (focus
       intro w'
       go_simp
       with_reducible rfl
       )
       rotate_left
       (focus
       simp only [Act.put, sA, sB, sC, i64_w, i32_w]
       rfl
       )
       refine take_ (i := 1) (N := some 82) (v := ?_) (a' := ?_) #[true, true, true, false, false, false, true, false, false, true, false, true, false, false, false, true, false, false, false, false, false] rfl rfl (take_ofW HT_.out HW_.out (by kernel_rfl)) (fun _ _ _ h => h) (Or.inl ⟨by rfl, ?_⟩) hHeld ?_ ?_
       rotate_left
       (focus
       rintro w' ⟨s0, s1, s2, s3, s4, s5, s6, s7, s8, s9, s10, s11, s12, s13⟩
       go_simp
       with_reducible rfl
       )
       rotate_left
       (focus
       simp only [Act.put, sA, sB, sC, i64_w, i32_w]
       rfl
       )
       refine take_ (i := 3) (N := some 84) (v := ?_) (a' := ?_) #[true, true, true, true, false, false, true, false, false, true, false, true, false, false, false, true, false, false, false, false, false] rfl rfl (take_ofW HT_.out HW_.out (by kernel_rfl)) (fun _ _ _ h => h) (Or.inl ⟨by rfl, ?_⟩) hHeld ?_ ?_
       rotate_left
       (focus
       rintro w' ⟨s0, s1, s2, s3, s4, s5, s6, s7, s8, s9, s10, s11, s12, s13⟩
       go_simp
       with_reducible rfl
       )
       rotate_left
       (focus
       simp only [Act.put, sA, sB, sC, i64_w, i32_w]
       rfl
       )
       refine pure_ (i := 4) (N := some 85) (v := ?_) (a' := ?_) #[true, true, true, true, true, false, true, false, false, true, false, true, false, false, false, true, false, false, false, false, false] rfl rfl (any_of HT_.out (by kernel_rfl)) (fun _ _ _ h => h) (Or.inl ⟨by rfl, ?_⟩) ?_ ?_
       rotate_left
       (focus
       intro w'
       go_simp
       with_reducible rfl
       )
       rotate_left
       (focus
       simp only [Act.put, sA, sB, sC, i64_w, i32_w]
       rfl
       )
       refine take_ (i := 5) (N := some 86) (v := ?_) (a' := ?_) #[true, true, true, true, true, true, true, false, false, true, false, true, false, false, false, true, false, false, false, false, false] rfl rfl (take_ofW HT_.out HW_.out (by kernel_rfl)) (fun _ _ _ h => h) (Or.inl ⟨by rfl, ?_⟩) hHeld ?_ ?_
       rotate_left
       (focus
       rintro w' ⟨s0, s1, s2, s3, s4, s5, s6, s7, s8, s9, s10, s11, s12, s13⟩
       go_simp
       with_reducible rfl
       )
       rotate_left
       (focus
       simp only [Act.put, sA, sB, sC, i64_w, i32_w]
       rfl
       )
       refine pure_ (i := 7) (N := some 88) (v := ?_) (a' := ?_) #[true, true, true, true, true, true, true, true, false, true, false, true, false, false, false, true, false, false, false, false, false] rfl rfl (any_of HT_.out (by kernel_rfl)) (fun _ _ _ h => h) (Or.inl ⟨by rfl, ?_⟩) ?_ ?_
       rotate_left
       (focus
       intro w'
       go_simp
       with_reducible rfl
       )
       rotate_left
       (focus
       simp only [Act.put, sA, sB, sC, i64_w, i32_w]
       rfl
       )
       refine take_ (i := 8) (N := some 89) (v := ?_) (a' := ?_) #[true, true, true, true, true, true, true, true, true, true, false, true, false, false, false, true, false, false, false, false, false] rfl rfl (take_ofW HT_.out HW_.out (by kernel_rfl)) (fun _ _ _ h => h) (Or.inl ⟨by rfl, ?_⟩) hHeld ?_ ?_
       rotate_left
       (focus
       rintro w' ⟨s0, s1, s2, s3, s4, s5, s6, s7, s8, s9, s10, s11, s12, s13⟩
       go_simp
       with_reducible rfl
       )
       rotate_left
       (focus
       simp only [Act.put, sA, sB, sC, i64_w, i32_w]
       rfl
       )
       refine take_ (i := 10) (N := some 91) (v := ?_) (a' := ?_) #[true, true, true, true, true, true, true, true, true, true, true, true, false, false, false, true, false, false, false, false, false] rfl rfl (take_ofW HT_.out HW_.out (by kernel_rfl)) (fun _ _ _ h => h) (Or.inl ⟨by rfl, ?_⟩) hHeld ?_ ?_
       rotate_left
       (focus
       rintro w' ⟨s0, s1, s2, s3, s4, s5, s6, s7, s8, s9, s10, s11, s12, s13⟩
       go_simp
       with_reducible rfl
       )
       rotate_left
       (focus
       simp only [Act.put, sA, sB, sC, i64_w, i32_w]
       rfl
       )
       refine take_ (i := 12) (N := some 93) (v := ?_) (a' := ?_) #[true, true, true, true, true, true, true, true, true, true, true, true, true, false, false, true, false, false, false, false, false] rfl rfl (take_ofW HT_.out HW_.out (by kernel_rfl)) (fun _ _ _ h => h) (Or.inl ⟨by rfl, ?_⟩) hHeld ?_ ?_
       rotate_left
       (focus
       rintro w' ⟨s0, s1, s2, s3, s4, s5, s6, s7, s8, s9, s10, s11, s12, s13⟩
       go_simp
       with_reducible rfl
       )
       rotate_left
       (focus
       simp only [Act.put, sA, sB, sC, i64_w, i32_w]
       rfl
       )
       refine pure_ (i := 13) (N := some 94) (v := ?_) (a' := ?_) #[true, true, true, true, true, true, true, true, true, true, true, true, true, true, false, true, false, false, false, false, false] rfl rfl (any_of HT_.out (by kernel_rfl)) (fun _ _ _ h => h) (Or.inl ⟨by rfl, ?_⟩) ?_ ?_
       rotate_left
       (focus
       intro w'
       go_simp
       with_reducible rfl
       )
       rotate_left
       (focus
       simp only [Act.put, sA, sB, sC, i64_w, i32_w]
       rfl
       )
       refine take_ (i := 14) (N := some 95) (v := ?_) (a' := ?_) #[true, true, true, true, true, true, true, true, true, true, true, true, true, true, true, true, false, false, false, false, false] rfl rfl (take_ofW HT_.out HW_.out (by kernel_rfl)) (fun _ _ _ h => h) (Or.inl ⟨by rfl, ?_⟩) hHeld ?_ ?_
       rotate_left
       (focus
       rintro w' ⟨s0, s1, s2, s3, s4, s5, s6, s7, s8, s9, s10, s11, s12, s13⟩
       go_simp
       with_reducible rfl
       )
       rotate_left
       (focus
       simp only [Act.put, sA, sB, sC, i64_w, i32_w]
       rfl
       )
       refine pure_ (i := 16) (N := some 97) (v := ?_) (a' := ?_) #[true, true, true, true, true, true, true, true, true, true, true, true, true, true, true, true, true, false, false, false, false] rfl rfl (any_of HT_.out (by kernel_rfl)) (fun _ _ _ h => h) (Or.inl ⟨by rfl, ?_⟩) ?_ ?_
       rotate_left
       (focus
       intro w'
       go_simp
       with_reducible rfl
       )
       rotate_left
       (focus
       simp only [Act.put, sA, sB, sC, i64_w, i32_w]
       rfl
       )
       refine take_ (i := 17) (N := some 98) (v := ?_) (a' := ?_) #[true, true, true, true, true, true, true, true, true, true, true, true, true, true, true, true, true, true, false, false, false] rfl rfl (take_ofW HT_.out HW_.out (by kernel_rfl)) (fun _ _ _ h => h) (Or.inl ⟨by rfl, ?_⟩) hHeld ?_ ?_
       rotate_left
       (focus
       rintro w' ⟨s0, s1, s2, s3, s4, s5, s6, s7, s8, s9, s10, s11, s12, s13⟩
       go_simp
       with_reducible rfl
       )
       rotate_left
       (focus
       simp only [Act.put, sA, sB, sC, i64_w, i32_w]
       rfl
       )
       refine pure_ (i := 18) (N := some 99) (v := ?_) (a' := ?_) #[true, true, true, true, true, true, true, true, true, true, true, true, true, true, true, true, true, true, true, false, false] rfl rfl (any_of HT_.out (by kernel_rfl)) (fun _ _ _ h => h) (Or.inl ⟨by rfl, ?_⟩) ?_ ?_
       rotate_left
       (focus
       intro w'
       go_simp
       with_reducible rfl
       )
       rotate_left
       (focus
       simp only [Act.put, sA, sB, sC, i64_w, i32_w]
       rfl
       )
       refine one_ (i := 19) (N := some 17) #[true, true, true, true, true, true, true, true, true, true, true, true, true, true, true, true, true, true, true, true, false] rfl rfl (one_of HT_.out (by kernel_rfl)) (by decide) (fun K hK => ?_)
       refine box_step ?hg (N := 17) ?hd (cs := #[.int .i64 0, .int .i64 0]) (t := 64) ?hr ?_; (case hd => rfl); (case hg => rfl); (case hr => first | (go_simp; done) | (go_simp; rfl))
       intro gb219 hg w92 hbox hb
       have n0_ := aM (Kd.R_below (Kd.R_elderB (uR HO_11.out) gb219 (Nat.le_of_eq hg.symm)) hb)
       have n1_ := aM (Kd.R_below (uR HO_15.out) hb)
       have n2_ := aM (Kd.R_below (uR HO_210002.out) hb)
       have n3_ := aM (Kd.S_below (by (with_reducible repeat (first | apply Kd.S_alloc | apply Kd.S_drewN | apply Kd.S_drew)); exact HO_210003.out) hb)
       have n4_ := aM (blk_below (uB BK199.out) hb)
       have n5_ := aM (blk_below (uB BK200.out) hb)
       have n6_ := aM (blk_below (uB BK201.out) hb)
       have n7_ := aM (blk_below (g := gb204) (o := mapO ek64 (Value.int .i64) x205000_3) (uB BK204.out) hb)
       have n8_ := aM (blk_below (uB BK209.out) hb)
       have n9_ := aM (blk_below (uB BK211.out) hb)
       have n10_ := aM (below_step (by repeat (first | (with_reducible first | exact HB.out | apply bA | apply bN | apply bD | refine bS ?_ ‹_›) | exact HB.out)) hb)
       have n11_ := aM (hbox)
       have n12_ := aM ((by rw [hg]; exact (below_size (by repeat (first | (with_reducible first | exact HB.out | apply bA | apply bN | apply bD | refine bS ?_ ‹_›) | exact HB.out))) : w.heap.size ≤ gb219))
       have n13_ := aM ((by rw [hg]; exact (below_size (by repeat (first | (with_reducible first | exact HB.out | apply bA | apply bN | apply bD | refine bS ?_ ‹_›) | exact HB.out))) : w.heap.size ≤ gb219))
       have n14_ := aM ((by rw [hg]; exact Nat.ne_of_lt (blk_lt (uB BK199.out)) : gb199 ≠ gb219))
       have n15_ := aM ((by rw [hg]; exact Nat.ne_of_gt (blk_lt (uB BK199.out)) : gb219 ≠ gb199))
       have n16_ := aM ((by rw [hg]; exact Nat.ne_of_lt (blk_lt (uB BK200.out)) : gb200 ≠ gb219))
       have n17_ := aM ((by rw [hg]; exact Nat.ne_of_gt (blk_lt (uB BK200.out)) : gb219 ≠ gb200))
       have n18_ := aM ((by rw [hg]; exact Nat.ne_of_lt (blk_lt (uB BK201.out)) : gb201 ≠ gb219))
       have n19_ := aM ((by rw [hg]; exact Nat.ne_of_gt (blk_lt (uB BK201.out)) : gb219 ≠ gb201))
       have n20_ := aM ((by rw [hg]; exact Nat.ne_of_lt (blk_lt (g := gb204) (o := mapO ek64 (Value.int .i64) x205000_3) (uB BK204.out)) : gb204 ≠ gb219))
       have n21_ := aM ((by rw [hg]; exact Nat.ne_of_gt (blk_lt (g := gb204) (o := mapO ek64 (Value.int .i64) x205000_3) (uB BK204.out)) : gb219 ≠ gb204))
       have n22_ := aM ((by rw [hg]; exact Nat.ne_of_lt (blk_lt (uB BK209.out)) : gb209 ≠ gb219))
       have n23_ := aM ((by rw [hg]; exact Nat.ne_of_gt (blk_lt (uB BK209.out)) : gb219 ≠ gb209))
       have n24_ := aM ((by rw [hg]; exact Nat.ne_of_lt (blk_lt (uB BK211.out)) : gb211 ≠ gb219))
       have n25_ := aM ((by rw [hg]; exact Nat.ne_of_gt (blk_lt (uB BK211.out)) : gb219 ≠ gb211))
       clear HO_11
       clear HO_15
       clear HO_210002
       clear HO_210003
       clear BK199
       clear BK200
       clear BK201
       clear BK204
       clear BK209
       clear BK211
       clear HB
       have HO_11 := n0_
       have HO_15 := n1_
       have HO_210002 := n2_
       have HO_210003 := n3_
       have BK199 := n4_
       have BK200 := n5_
       have BK201 := n6_
       have BK204 := n7_
       have BK209 := n8_
       have BK211 := n9_
       have HB := n10_
       have BK219 := n11_
       have GW219 := n12_
       have GE219 := n13_
       have NB199_219 := n14_
       have NB219_199 := n15_
       have NB200_219 := n16_
       have NB219_200 := n17_
       have NB201_219 := n18_
       have NB219_201 := n19_
       have NB204_219 := n20_
       have NB219_204 := n21_
       have NB209_219 := n22_
       have NB219_209 := n23_
       have NB211_219 := n24_
       have NB219_211 := n25_
       clear n0_ n1_ n2_ n3_ n4_ n5_ n6_ n7_ n8_ n9_ n10_ n11_ n12_ n13_ n14_ n15_ n16_ n17_ n18_ n19_ n20_ n21_ n22_ n23_ n24_ n25_
       clear hb hbox hg
       refine hK.out _ _ ⟨(blk_cell BK199.out 0).trans rfl, (blk_cell BK199.out 1).trans rfl, (blk_cell BK199.out 2).trans rfl, (blk_cell BK199.out 3).trans rfl, (blk_cell BK211.out 0).trans rfl, (blk_cell BK211.out 1).trans rfl, (blk_cell BK200.out 0).trans rfl, (blk_cell BK200.out 1).trans rfl, (blk_cell BK200.out 2).trans rfl, (blk_cell BK200.out 3).trans rfl, ((HB.out.cell (World.block_lt_of_cell? w _ hw215_0)).trans hw215_0), ((HB.out.cell (World.block_lt_of_cell? w _ hw216_0)).trans hw216_0), ((HB.out.cell (World.block_lt_of_cell? w _ hw217_0)).trans hw217_0), ((HB.out.cell (World.block_lt_of_cell? w _ hw218_0)).trans hw218_0)⟩ (fun hHeld => ?_)
       clear hK K
       refine norm_ (a' := ?_) ?_ ?_
       rotate_left
       (focus
       show Act.put _ (some 17) _ = _
       simp only [Act.put, sA, sB, sC, i64_w, i32_w]
       rfl
       )
       refine one_ (i := 20) (N := none) #[true, true, true, true, true, true, true, true, true, true, true, true, true, true, true, true, true, true, true, true, true] rfl rfl (one_of HT_.out (by kernel_rfl)) (by decide) (fun K hK => ?_)
       have hs93 : w92.cell? ⟨gb219, 0, none⟩ = some (.int .i64 0) := (blk_cell BK219.out 0).trans rfl
       have hfs93 := blk_frozen BK219.out 0
       have hns93_0 := NB199_219.out
       have hns93_1 := NB200_219.out
       have hns93_2 := NB201_219.out
       have hns93_3 := NB204_219.out
       have hns93_4 := NB209_219.out
       have hns93_5 := NB211_219.out
       have hms93_0 := NB219_199.out
       have hms93_1 := NB219_200.out
       have hms93_2 := NB219_201.out
       have hms93_3 := NB219_204.out
       have hms93_4 := NB219_209.out
       have hms93_5 := NB219_211.out
       have hs94 : w92.cell? ⟨gb219, 1, none⟩ = some (.int .i64 0) := (blk_cell BK219.out 1).trans rfl
       have hfs94 := blk_frozen BK219.out 1
       have hns94_0 := NB199_219.out
       have hns94_1 := NB200_219.out
       have hns94_2 := NB201_219.out
       have hns94_3 := NB204_219.out
       have hns94_4 := NB209_219.out
       have hns94_5 := NB211_219.out
       have hms94_0 := NB219_199.out
       have hms94_1 := NB219_200.out
       have hms94_2 := NB219_201.out
       have hms94_3 := NB219_204.out
       have hms94_4 := NB219_209.out
       have hms94_5 := NB219_211.out
       refine skip_ (w1 := ?_) (by rfl) rfl ?_ ?_
       rotate_left
       (focus
       go_simp
       rfl
       )
       refine hK.out _ _ ⟨((cell_far (p := ⟨gb219, _, none⟩) NB199_219.out _).trans (((cell_far (p := ⟨gb219, _, none⟩) NB199_219.out _).trans (hHeld.1)))), ((cell_far (p := ⟨gb219, _, none⟩) NB199_219.out _).trans (((cell_far (p := ⟨gb219, _, none⟩) NB199_219.out _).trans (hHeld.2.1)))), ((cell_far (p := ⟨gb219, _, none⟩) NB199_219.out _).trans (((cell_far (p := ⟨gb219, _, none⟩) NB199_219.out _).trans (hHeld.2.2.1)))), ((cell_far (p := ⟨gb219, _, none⟩) NB199_219.out _).trans (((cell_far (p := ⟨gb219, _, none⟩) NB199_219.out _).trans (hHeld.2.2.2.1)))), ((cell_far (p := ⟨gb219, _, none⟩) NB211_219.out _).trans (((cell_far (p := ⟨gb219, _, none⟩) NB211_219.out _).trans (hHeld.2.2.2.2.1)))), ((cell_far (p := ⟨gb219, _, none⟩) NB211_219.out _).trans (((cell_far (p := ⟨gb219, _, none⟩) NB211_219.out _).trans (hHeld.2.2.2.2.2.1)))), ((cell_far (p := ⟨gb219, _, none⟩) NB200_219.out _).trans (((cell_far (p := ⟨gb219, _, none⟩) NB200_219.out _).trans (hHeld.2.2.2.2.2.2.1)))), ((cell_far (p := ⟨gb219, _, none⟩) NB200_219.out _).trans (((cell_far (p := ⟨gb219, _, none⟩) NB200_219.out _).trans (hHeld.2.2.2.2.2.2.2.1)))), ((cell_far (p := ⟨gb219, _, none⟩) NB200_219.out _).trans (((cell_far (p := ⟨gb219, _, none⟩) NB200_219.out _).trans (hHeld.2.2.2.2.2.2.2.2.1)))), ((cell_far (p := ⟨gb219, _, none⟩) NB200_219.out _).trans (((cell_far (p := ⟨gb219, _, none⟩) NB200_219.out _).trans (hHeld.2.2.2.2.2.2.2.2.2.1)))), ((cell_far (p := ⟨gb219, _, none⟩) (by first | exact nl1 hw215_0 GW219.out | exact nl2 hw215_0 GW219.out | exact nl3 hw215_0 GW219.out | (dsimp only; exact Nat.ne_of_lt (Nat.lt_of_lt_of_le (by have := World.block_lt_of_cell? _ _ hw215_0; first | rwa [add_block] at this | exact this) GW219.out))) _).trans (((cell_far (p := ⟨gb219, _, none⟩) (by first | exact nl1 hw215_0 GW219.out | exact nl2 hw215_0 GW219.out | exact nl3 hw215_0 GW219.out | (dsimp only; exact Nat.ne_of_lt (Nat.lt_of_lt_of_le (by have := World.block_lt_of_cell? _ _ hw215_0; first | rwa [add_block] at this | exact this) GW219.out))) _).trans (hHeld.2.2.2.2.2.2.2.2.2.2.1)))), ((cell_far (p := ⟨gb219, _, none⟩) (by first | exact nl1 hw216_0 GW219.out | exact nl2 hw216_0 GW219.out | exact nl3 hw216_0 GW219.out | (dsimp only; exact Nat.ne_of_lt (Nat.lt_of_lt_of_le (by have := World.block_lt_of_cell? _ _ hw216_0; first | rwa [add_block] at this | exact this) GW219.out))) _).trans (((cell_far (p := ⟨gb219, _, none⟩) (by first | exact nl1 hw216_0 GW219.out | exact nl2 hw216_0 GW219.out | exact nl3 hw216_0 GW219.out | (dsimp only; exact Nat.ne_of_lt (Nat.lt_of_lt_of_le (by have := World.block_lt_of_cell? _ _ hw216_0; first | rwa [add_block] at this | exact this) GW219.out))) _).trans (hHeld.2.2.2.2.2.2.2.2.2.2.2.1)))), ((cell_far (p := ⟨gb219, _, none⟩) (by first | exact nl1 hw217_0 GW219.out | exact nl2 hw217_0 GW219.out | exact nl3 hw217_0 GW219.out | (dsimp only; exact Nat.ne_of_lt (Nat.lt_of_lt_of_le (by have := World.block_lt_of_cell? _ _ hw217_0; first | rwa [add_block] at this | exact this) GW219.out))) _).trans (((cell_far (p := ⟨gb219, _, none⟩) (by first | exact nl1 hw217_0 GW219.out | exact nl2 hw217_0 GW219.out | exact nl3 hw217_0 GW219.out | (dsimp only; exact Nat.ne_of_lt (Nat.lt_of_lt_of_le (by have := World.block_lt_of_cell? _ _ hw217_0; first | rwa [add_block] at this | exact this) GW219.out))) _).trans (hHeld.2.2.2.2.2.2.2.2.2.2.2.2.1)))), ((cell_far (p := ⟨gb219, _, none⟩) (by first | exact nl1 hw218_0 GW219.out | exact nl2 hw218_0 GW219.out | exact nl3 hw218_0 GW219.out | (dsimp only; exact Nat.ne_of_lt (Nat.lt_of_lt_of_le (by have := World.block_lt_of_cell? _ _ hw218_0; first | rwa [add_block] at this | exact this) GW219.out))) _).trans (((cell_far (p := ⟨gb219, _, none⟩) (by first | exact nl1 hw218_0 GW219.out | exact nl2 hw218_0 GW219.out | exact nl3 hw218_0 GW219.out | (dsimp only; exact Nat.ne_of_lt (Nat.lt_of_lt_of_le (by have := World.block_lt_of_cell? _ _ hw218_0; first | rwa [add_block] at this | exact this) GW219.out))) _).trans (hHeld.2.2.2.2.2.2.2.2.2.2.2.2.2))))⟩ (fun hHeld => ?_)
       clear hK K
       refine done_ (done_of HT_.out (by kernel_rfl)) ?_
       have n0_ : Aside0 (Kd.R k64 64 ((w92.setCell ⟨gb219, 0, none⟩ (.int .i64 (rd (rd_L1 l0_3 ((rd_T64 x11_2 x13_2).f0)) x78_3))).setCell ⟨gb219, 1, none⟩ (.int .i64 (rd (rd_L1 l1_3 ((rd_T64 x11_2 x13_2).f1)) x78_3))) w.heap.size (fun k_ => k_ ≠ gb211 ∧ k_ ≠ gb219) u11 x11_3) := ⟨by (with_reducible repeat (first | apply Kd.R_alloc | apply Kd.R_drewN | apply Kd.R_drew)); exact Kd.R_mono (Kd.R_far (p := ⟨gb219, 1, none⟩) (Kd.R_far (p := ⟨gb219, 0, none⟩) (Kd.R_mono HO_11.out (fun k_ hk => (⟨hk, hk.2⟩ : _ ∧ k_ ≠ gb219))) (fun _ hk => hk.2) (.int .i64 (rd (rd_L1 l0_3 ((rd_T64 x11_2 x13_2).f0)) x78_3))) (fun _ hk => hk.2) (.int .i64 (rd (rd_L1 l1_3 ((rd_T64 x11_2 x13_2).f1)) x78_3))) (fun _ hk => ⟨hk.1.1, hk.1.2⟩)⟩
       have n1_ : Aside0 (Kd.R (Kd.int .i64) 3 ((w92.setCell ⟨gb219, 0, none⟩ (.int .i64 (rd (rd_L1 l0_3 ((rd_T64 x11_2 x13_2).f0)) x78_3))).setCell ⟨gb219, 1, none⟩ (.int .i64 (rd (rd_L1 l1_3 ((rd_T64 x11_2 x13_2).f1)) x78_3))) w.heap.size (fun _ => True) (.slice Ao79 x15_3.length co79) x15_3) := ⟨by (with_reducible repeat (first | apply Kd.R_alloc | apply Kd.R_drewN | apply Kd.R_drew)); exact Kd.R_mono (Kd.R_far (p := ⟨gb219, 1, none⟩) (Kd.R_far (p := ⟨gb219, 0, none⟩) (Kd.R_types HO_15.out BK219.out (by decide)) (fun _ hk => hk.2) (.int .i64 (rd (rd_L1 l0_3 ((rd_T64 x11_2 x13_2).f0)) x78_3))) (fun _ hk => hk.2) (.int .i64 (rd (rd_L1 l1_3 ((rd_T64 x11_2 x13_2).f1)) x78_3))) (fun _ hk => trivial)⟩
       have n2_ : Aside0 (Kd.R Kd.bool 4 ((w92.setCell ⟨gb219, 0, none⟩ (.int .i64 (rd (rd_L1 l0_3 ((rd_T64 x11_2 x13_2).f0)) x78_3))).setCell ⟨gb219, 1, none⟩ (.int .i64 (rd (rd_L1 l1_3 ((rd_T64 x11_2 x13_2).f1)) x78_3))) w.heap.size (fun _ => True) u210002 x210002_2) := ⟨by (with_reducible repeat (first | apply Kd.R_alloc | apply Kd.R_drewN | apply Kd.R_drew)); exact Kd.R_mono (Kd.R_far (p := ⟨gb219, 1, none⟩) (Kd.R_far (p := ⟨gb219, 0, none⟩) (Kd.R_types HO_210002.out BK219.out (by decide)) (fun _ hk => hk.2) (.int .i64 (rd (rd_L1 l0_3 ((rd_T64 x11_2 x13_2).f0)) x78_3))) (fun _ hk => hk.2) (.int .i64 (rd (rd_L1 l1_3 ((rd_T64 x11_2 x13_2).f1)) x78_3))) (fun _ hk => trivial)⟩
       have n3_ : Aside0 (Kd.S (Kd.slice 3 (Kd.int .i64)) 38 ((w92.setCell ⟨gb219, 0, none⟩ (.int .i64 (rd (rd_L1 l0_3 ((rd_T64 x11_2 x13_2).f0)) x78_3))).setCell ⟨gb219, 1, none⟩ (.int .i64 (rd (rd_L1 l1_3 ((rd_T64 x11_2 x13_2).f1)) x78_3))) w.heap.size (fun k_ => some k_ ≠ (.slice Ao79 x15_3.length co79 : Value).ownBlock) u210003 x210003_2) := ⟨by (with_reducible repeat (first | apply Kd.S_alloc | apply Kd.S_drewN | apply Kd.S_drew)); exact Kd.S_mono (Kd.S_far (p := ⟨gb219, 1, none⟩) (Kd.S_far (p := ⟨gb219, 0, none⟩) (Kd.S_types HO_210003.out BK219.out (by decide)) (fun _ hk => hk.2) (.int .i64 (rd (rd_L1 l0_3 ((rd_T64 x11_2 x13_2).f0)) x78_3))) (fun _ hk => hk.2) (.int .i64 (rd (rd_L1 l1_3 ((rd_T64 x11_2 x13_2).f1)) x78_3))) (fun _ hk => hk.1)⟩
       have n4_ : Aside0 (((w92.setCell ⟨gb219, 0, none⟩ (.int .i64 (rd (rd_L1 l0_3 ((rd_T64 x11_2 x13_2).f0)) x78_3))).setCell ⟨gb219, 1, none⟩ (.int .i64 (rd (rd_L1 l1_3 ((rd_T64 x11_2 x13_2).f1)) x78_3))).heap[gb199]? = some (.cells #[.int .i64 a0_0, .int .i64 a0_1, .slice A0_2 l0_2.length c0_2, .slice (some ad215) l0_3.length c0_3] 25 (0, 0))) := ⟨by (with_reducible repeat (first | refine kN ?_ | refine kD ?_ | refine kA ?_ | refine blk_far ?_ NB199_219.out _)); exact BK199.out⟩
       have n5_ : Aside0 (((w92.setCell ⟨gb219, 0, none⟩ (.int .i64 (rd (rd_L1 l0_3 ((rd_T64 x11_2 x13_2).f0)) x78_3))).setCell ⟨gb219, 1, none⟩ (.int .i64 (rd (rd_L1 l1_3 ((rd_T64 x11_2 x13_2).f1)) x78_3))).heap[gb200]? = some (.cells #[.int .i64 a1_0, .int .i64 a1_1, .slice A1_2 l1_2.length c1_2, .slice (some ad217) l1_3.length c1_3] 25 (0, 0))) := ⟨by (with_reducible repeat (first | refine kN ?_ | refine kD ?_ | refine kA ?_ | refine blk_far ?_ NB200_219.out _)); exact BK200.out⟩
       have n6_ : Aside0 (((w92.setCell ⟨gb219, 0, none⟩ (.int .i64 (rd (rd_L1 l0_3 ((rd_T64 x11_2 x13_2).f0)) x78_3))).setCell ⟨gb219, 1, none⟩ (.int .i64 (rd (rd_L1 l1_3 ((rd_T64 x11_2 x13_2).f1)) x78_3))).heap[gb201]? = some (.cells #[.int .i64 x202000_3, .int .i64 x202001_3, .slice none 0 0, .slice none 0 0] 25 (0, 0))) := ⟨by (with_reducible repeat (first | refine kN ?_ | refine kD ?_ | refine kA ?_ | refine blk_far ?_ NB201_219.out _)); exact BK201.out⟩
       have n7_ : Aside0 (((w92.setCell ⟨gb219, 0, none⟩ (.int .i64 (rd (rd_L1 l0_3 ((rd_T64 x11_2 x13_2).f0)) x78_3))).setCell ⟨gb219, 1, none⟩ (.int .i64 (rd (rd_L1 l1_3 ((rd_T64 x11_2 x13_2).f1)) x78_3))).heap[gb204]? = some (mapO ek64 (Value.int .i64) x205000_3)) := ⟨by (with_reducible repeat (first | refine kN ?_ | refine kD ?_ | refine kA ?_)); refine blkF ?_ NB204_219.out _; (with_reducible repeat (first | refine kN ?_ | refine kD ?_ | refine kA ?_)); refine blkF ?_ NB204_219.out _; (with_reducible repeat (first | refine kN ?_ | refine kD ?_ | refine kA ?_)); exact BK204.out⟩
       have n8_ : Aside0 (((w92.setCell ⟨gb219, 0, none⟩ (.int .i64 (rd (rd_L1 l0_3 ((rd_T64 x11_2 x13_2).f0)) x78_3))).setCell ⟨gb219, 1, none⟩ (.int .i64 (rd (rd_L1 l1_3 ((rd_T64 x11_2 x13_2).f1)) x78_3))).heap[gb209]? = some (.cells #[.int .i64 a0_0, .int .i64 0, u210002, u210003] 25 (0, 0))) := ⟨by (with_reducible repeat (first | refine kN ?_ | refine kD ?_ | refine kA ?_ | refine blk_far ?_ NB209_219.out _)); exact BK209.out⟩
       have n9_ : Aside0 (((w92.setCell ⟨gb219, 0, none⟩ (.int .i64 (rd (rd_L1 l0_3 ((rd_T64 x11_2 x13_2).f0)) x78_3))).setCell ⟨gb219, 1, none⟩ (.int .i64 (rd (rd_L1 l1_3 ((rd_T64 x11_2 x13_2).f1)) x78_3))).heap[gb211]? = some (.cells #[.int .i64 ((rd_T64 x11_2 x13_2).f0), .int .i64 ((rd_T64 x11_2 x13_2).f1)] 64 (0, 0))) := ⟨by (with_reducible repeat (first | refine kN ?_ | refine kD ?_ | refine kA ?_ | refine blk_far ?_ NB211_219.out _)); exact BK211.out⟩
       have n10_ : Aside0 (((w92.setCell ⟨gb219, 0, none⟩ (.int .i64 (rd (rd_L1 l0_3 ((rd_T64 x11_2 x13_2).f0)) x78_3))).setCell ⟨gb219, 1, none⟩ (.int .i64 (rd (rd_L1 l1_3 ((rd_T64 x11_2 x13_2).f1)) x78_3))).heap[gb219]? = some (.cells #[.int .i64 (rd (rd_L1 l0_3 ((rd_T64 x11_2 x13_2).f0)) x78_3), .int .i64 (rd (rd_L1 l1_3 ((rd_T64 x11_2 x13_2).f1)) x78_3)] 64 (0, 0))) := ⟨by (with_reducible repeat (first | refine kN ?_ | refine kD ?_ | refine kA ?_)); refine blk_put (cs := #[.int .i64 (rd (rd_L1 l0_3 ((rd_T64 x11_2 x13_2).f0)) x78_3), .int .i64 0]) ?_ 1 _ rfl; (with_reducible repeat (first | refine kN ?_ | refine kD ?_ | refine kA ?_)); refine blk_put (cs := #[.int .i64 0, .int .i64 0]) ?_ 0 _ rfl; (with_reducible repeat (first | refine kN ?_ | refine kD ?_ | refine kA ?_)); exact BK219.out⟩
       have n11_ : Aside0 (Below w.heap.size w ((w92.setCell ⟨gb219, 0, none⟩ (.int .i64 (rd (rd_L1 l0_3 ((rd_T64 x11_2 x13_2).f0)) x78_3))).setCell ⟨gb219, 1, none⟩ (.int .i64 (rd (rd_L1 l1_3 ((rd_T64 x11_2 x13_2).f1)) x78_3)))) := ⟨by repeat (first | (with_reducible first | exact HB.out | apply bA | apply bN | apply bD | refine bS ?_ ‹_›) | exact HB.out)⟩
       (try clear HO_11)
       (try clear HO_15)
       (try clear HO_210002)
       (try clear HO_210003)
       (try clear BK199)
       (try clear BK200)
       (try clear BK201)
       (try clear BK204)
       (try clear BK209)
       (try clear BK211)
       (try clear BK219)
       (try clear HB)
       generalize ((w92.setCell ⟨gb219, 0, none⟩ (.int .i64 (rd (rd_L1 l0_3 ((rd_T64 x11_2 x13_2).f0)) x78_3))).setCell ⟨gb219, 1, none⟩ (.int .i64 (rd (rd_L1 l1_3 ((rd_T64 x11_2 x13_2).f1)) x78_3))) = w95 at n0_ n1_ n2_ n3_ n4_ n5_ n6_ n7_ n8_ n9_ n10_ n11_ ⊢
       have HO_11 := n0_
       have HO_15 := n1_
       have HO_210002 := n2_
       have HO_210003 := n3_
       have BK199 := n4_
       have BK200 := n5_
       have BK201 := n6_
       have BK204 := n7_
       have BK209 := n8_
       have BK211 := n9_
       have BK219 := n10_
       have HB := n11_
       clear n0_ n1_ n2_ n3_ n4_ n5_ n6_ n7_ n8_ n9_ n10_ n11_
       have hnb96 := NB219_199.out
       have hnc96 := NB199_219.out
       have hnb97 := NB219_200.out
       have hnc97 := NB200_219.out
       have hnb98 := NB219_201.out
       have hnc98 := NB201_219.out
       have hnb99 := NB219_204.out
       have hnc99 := NB204_219.out
       have hnb100 := NB219_209.out
       have hnc100 := NB209_219.out
       have hnb101 := NB219_211.out
       have hnc101 := NB211_219.out
       have hcz102_0 : w95.cell? ⟨gb219, 0, none⟩ = some (.int .i64 (rd (rd_L1 l0_3 ((rd_T64 x11_2 x13_2).f0)) x78_3)) := (blk_cell BK219.out 0).trans rfl
       have hcz102_1 : w95.cell? ⟨gb219, 1, none⟩ = some (.int .i64 (rd (rd_L1 l1_3 ((rd_T64 x11_2 x13_2).f1)) x78_3)) := (blk_cell BK219.out 1).trans rfl
       have hfz102_0 := blk_frozen BK219.out 0
       have hfz102_1 := blk_frozen BK219.out 1
       have p90 : 0 ≤ (x78_3 : Int) := of_decide_eq_true (by assumption)
       have q90 : (x78_3 : Int) < ((x15_3.length : Int) : Int) := of_decide_eq_true (by assumption)
       obtain ⟨go90, co90, eo90, gb90, gl90, cl90, HG90⟩ := Kd.R_form HO_15.out (by first | omega | (have e_ := (Kd.R_reads' HO_15.out).1; omega))
       (first | cases eo90 | (injection eo90 with ea_ en_ ec_; (first | subst ea_ | (injection ea_ with ea_; subst ea_)); subst ec_; clear en_))
       have GB90 := Aside0.mk gb90
       have GG90 := Aside0.mk HG90
       clear gb90 gl90 HG90
       obtain ⟨hx90_0, hf90_0⟩ := Kd.R_celln 0 HO_15.out (x78_3 : Int) p90 q90
       replace p90 := eq_true p90
       replace q90 := eq_true q90
       obtain ⟨hy103_, hz103_⟩ := Kd.R_celln 0 HO_15.out (x78_3 : Int) (of_decide_eq_true (by assumption)) (of_decide_eq_true (by assumption))
       have HP103 := Kd.R_putg HO_15.out (x78_3 : Int) (AM.get x205000_3 (⟨rd (rd_L1 l0_3 ((rd_T64 x11_2 x13_2).f0)) x78_3, rd (rd_L1 l1_3 ((rd_T64 x11_2 x13_2).f1)) x78_3⟩ : S64) 0)
       try go_wp2_with (first | ((with_reducible refine gate_dst (N := 103) rfl ?_); at_lookup; refine wp_lookOk rfl _ _ _ rfl 64 3 keyOk64 Try.underlying65 gb204 x205000_3 (show _ = some (mapO ek64 (Value.int .i64) x205000_3) from by (with_reducible repeat (first | refine kN ?_ | refine kD ?_ | refine kA ?_)); exact BK204.out) rfl (⟨rd (rd_L1 l0_3 ((rd_T64 x11_2 x13_2).f0)) x78_3, rd (rd_L1 l1_3 ((rd_T64 x11_2 x13_2).f1)) x78_3⟩ : S64) rfl 0 (zv3 _) ?_) | ((with_reducible refine gate_store (t := 3) (p := 124) rfl ?_); refine store_event (t := 3) (p := 124) (v := ?vo_w104) (w1 := (w95.setCell ⟨go90, (x78_3 : Int).toNat, none⟩ (.int .i64 (AM.get x205000_3 (⟨rd (rd_L1 l0_3 ((rd_T64 x11_2 x13_2).f0)) x78_3, rd (rd_L1 l1_3 ((rd_T64 x11_2 x13_2).f1)) x78_3⟩ : S64) 0)))) ?hg ?ho ?hn ?hr ?_; (case ho => rfl); (case hg => rfl); (case hn => rfl); (case hr => first | (go_simp; done) | (go_simp; rfl)); intro w104 hw; have hg : w95.grownBy w104 (some go90) := (by rw [hw]; exact HP103.2); have hp_ : Kd.R (Kd.int .i64) 3 w104 w.heap.size (fun _ => True) (.slice (some ⟨go90, 0, none⟩) x15_3.length co79) y220 := (by rw [hw, Ny220.out]; exact HP103.1); clear HP103; have n0_ := aM (Kd.R_over' (v := (.slice (some ⟨go90, 0, none⟩) x15_3.length co79)) (uR HO_11.out) (Kd.R_typed HO_15.out) (by decide) hg); have n1_ := aM (hp_); have n2_ := aM (Kd.R_over' (v := (.slice (some ⟨go90, 0, none⟩) x15_3.length co79)) (uR HO_210002.out) (Kd.R_typed HO_15.out) (by decide) hg); have n3_ := aM (Kd.S_after (v := (.slice (some ⟨go90, 0, none⟩) x15_3.length co79)) (v1 := (.slice (some ⟨go90, 0, none⟩) x15_3.length co79)) (ok := (fun _ => True)) (by (with_reducible repeat (first | apply Kd.S_alloc | apply Kd.S_drewN | apply Kd.S_drew)); exact Kd.S_mono HO_210003.out (fun _ hk => ⟨trivial, hk⟩)) hg (.inl rfl)); have n4_ := aM (blk_grown (uB BK199.out) hg (Kd.R_ne HO_15.out BK199.out (by decide))); have n5_ := aM (blk_grown (uB BK200.out) hg (Kd.R_ne HO_15.out BK200.out (by decide))); have n6_ := aM (blk_grown (uB BK201.out) hg (Kd.R_ne HO_15.out BK201.out (by decide))); have n7_ := aM (blk_grown (g := gb204) (o := mapO ek64 (Value.int .i64) x205000_3) (uB BK204.out) hg (R_neM HO_15.out BK204.out)); have n8_ := aM (blk_grown (uB BK209.out) hg (Kd.R_ne HO_15.out BK209.out (by decide))); have n9_ := aM (blk_grown (uB BK211.out) hg (Kd.R_ne HO_15.out BK211.out (by decide))); have n10_ := aM (blk_grown (uB BK219.out) hg (Kd.R_ne HO_15.out BK219.out (by decide))); have n11_ := aM ((by rw [hw]; exact below_set (HB.out) GB90.out : Below w.heap.size w w104)); clear HO_11; clear HO_15; clear HO_210002; clear HO_210003; clear BK199; clear BK200; clear BK201; clear BK204; clear BK209; clear BK211; clear BK219; clear HB; have HO_11 := n0_; have HO_15 := n1_; have HO_210002 := n2_; have HO_210003 := n3_; have BK199 := n4_; have BK200 := n5_; have BK201 := n6_; have BK204 := n7_; have BK209 := n8_; have BK211 := n9_; have BK219 := n10_; have HB := n11_; clear n0_ n1_ n2_ n3_ n4_ n5_ n6_ n7_ n8_ n9_ n10_ n11_; clear hg hw hp_))
       (try simp only [← hl15_3])
       go_roundg k3
       case measure => have := HJ7.out; have := HK2.out; have := HK3.out; omega
       case rel => exact ⟨(x11_3), (y220), (wrap64 (x78_3 + 1)), (x202000_3), (x202001_3), (x205000_3), (by first | rfl | (simp; done) | (simp [*]; done)), H', ⟨by have := HJ7.out; have := HK2.out; have := HK3.out; omega⟩, ⟨by (try simp only [hl15_3]); (with_reducible repeat (first | apply Kd.R_alloc | apply Kd.R_drewN | apply Kd.R_drew)); exact Kd.R_mono HO_11.out (fun _ hk => hk.1)⟩, ⟨by (try simp only [hl15_3]); (with_reducible repeat (first | apply Kd.R_alloc | apply Kd.R_drewN | apply Kd.R_drew)); exact HO_15.out⟩, ⟨by (try simp only [hl15_3]); (with_reducible repeat (first | apply Kd.R_alloc | apply Kd.R_drewN | apply Kd.R_drew)); exact HO_210002.out⟩, ⟨by (try simp only [hl15_3]); (with_reducible repeat (first | apply Kd.S_alloc | apply Kd.S_drewN | apply Kd.S_drew)); exact Kd.S_mono HO_210003.out (fun _ hk => hk.2)⟩, ⟨by (try simp only [hl15_3]); (with_reducible repeat (first | refine kN ?_ | refine kD ?_ | refine kA ?_)); exact BK199.out⟩, ⟨by (try simp only [hl15_3]); (with_reducible repeat (first | refine kN ?_ | refine kD ?_ | refine kA ?_)); exact BK200.out⟩, ⟨by (try simp only [hl15_3]); (with_reducible repeat (first | refine kN ?_ | refine kD ?_ | refine kA ?_)); exact BK201.out⟩, ⟨by (try simp only [hl15_3]); (with_reducible repeat (first | refine kN ?_ | refine kD ?_ | refine kA ?_)); exact BK204.out⟩, ⟨by (try simp only [hl15_3]); (with_reducible repeat (first | refine kN ?_ | refine kD ?_ | refine kA ?_)); exact BK209.out⟩, ⟨by (try simp only [hl15_3]); (with_reducible repeat (first | refine kN ?_ | refine kD ?_ | refine kA ?_)); exact BK211.out⟩, ⟨by repeat (first | (with_reducible first | exact HB.out | apply bA | apply bN | apply bD | refine bS ?_ ‹_›) | exact HB.out)⟩⟩
       )
       (focus
       rw [if_neg c89] at H
       exact absurd H (by simp)
       )
       )
       (focus
       rw [if_neg c88] at H
       have c88b0 : (AM.has x205000_3 (⟨rd (rd_L1 l0_3 ((rd_T64 x11_2 x13_2).f0)) x78_3, rd (rd_L1 l1_3 ((rd_T64 x11_2 x13_2).f1)) x78_3⟩ : S64)) = false := by simpa using c88
       clear c88
       by_cases c105 : (x11_3.length : Int) ≥ 512
       (focus
       rw [if_pos c105] at H
       have c105b0 : decide (512 ≤ (x11_3.length : Int)) = true := decide_eq_true c105
       (try (have c105b0_hl15_3 := c105b0; simp only [hl15_3] at c105b0_hl15_3))
       have c105b1 : decide (512 ≤ x11_3.length) = true := decide_eq_true (by omega)
       (try (have c105b1_hl15_3 := c105b1; simp only [hl15_3] at c105b1_hl15_3))
       clear c105
       simp only [Option.some.injEq, Prod.mk.injEq] at H
       obtain ⟨rfl, rfl, rfl, rfl, rfl⟩ := H
       try go_wp2
       have n0_ := aM (Kd.R_drew HO_11.out)
       have n1_ := aM (Kd.R_drew HO_15.out)
       have n2_ := aM (Kd.R_drew HO_210002.out)
       have n3_ := aM (Kd.S_drew HO_210003.out)
       have n4_ := aM (blk_drew BK199.out)
       have n5_ := aM (blk_drew BK200.out)
       have n6_ := aM (blk_drew BK201.out)
       have n7_ := aM (blk_drew BK204.out)
       have n8_ := aM (blk_drew BK209.out)
       have n9_ := aM (blk_drew BK211.out)
       have n10_ := aM (below_drew1 HB.out)
       clear HO_11
       clear HO_15
       clear HO_210002
       clear HO_210003
       clear BK199
       clear BK200
       clear BK201
       clear BK204
       clear BK209
       clear BK211
       clear HB
       have HO_11 := n0_
       have HO_15 := n1_
       have HO_210002 := n2_
       have HO_210003 := n3_
       have BK199 := n4_
       have BK200 := n5_
       have BK201 := n6_
       have BK204 := n7_
       have BK209 := n8_
       have BK211 := n9_
       have HB := n10_
       clear n0_ n1_ n2_ n3_ n4_ n5_ n6_ n7_ n8_ n9_ n10_
       have p215 : 0 ≤ (((rd_T64 x11_2 x13_2).f0) : Int) := of_decide_eq_true (by assumption)
       have q215 : ((rd_T64 x11_2 x13_2).f0) < (l0_3.length : Int) := of_decide_eq_true (by assumption)
       obtain ⟨ad215, A215_0, c215_0, e215, hx215_0, hl215_0, hi215_0⟩ := at_L1 HR0_3.out ((rd_T64 x11_2 x13_2).f0) p215 q215
       have hw215_0 := hx215_0
       cases e215
       (try replace hx215_0 := (HB.out.cell (World.block_lt_of_cell? w _ hx215_0)).trans hx215_0)
       have HR215_0 := Aside0.mk hi215_0
       have HC215_0 := Aside0.mk hl215_0
       clear hi215_0 hl215_0
       replace p215 := eq_true p215
       replace q215 := eq_true q215
       have p216 : 0 ≤ (x78_3 : Int) := of_decide_eq_true (by assumption)
       have q216 : x78_3 < ((rd_L1 l0_3 ((rd_T64 x11_2 x13_2).f0)).length : Int) := of_decide_eq_true (by assumption)
       obtain ⟨ad216, e216, hx216_0⟩ := Kd.at_int HR215_0.out x78_3 p216 q216
       have hw216_0 := hx216_0
       cases e216
       (try replace hx216_0 := (HB.out.cell (World.block_lt_of_cell? w _ hx216_0)).trans hx216_0)
       replace p216 := eq_true p216
       replace q216 := eq_true q216
       have p217 : 0 ≤ (((rd_T64 x11_2 x13_2).f1) : Int) := of_decide_eq_true (by assumption)
       have q217 : ((rd_T64 x11_2 x13_2).f1) < (l1_3.length : Int) := of_decide_eq_true (by assumption)
       obtain ⟨ad217, A217_0, c217_0, e217, hx217_0, hl217_0, hi217_0⟩ := at_L1 HR1_3.out ((rd_T64 x11_2 x13_2).f1) p217 q217
       have hw217_0 := hx217_0
       cases e217
       (try replace hx217_0 := (HB.out.cell (World.block_lt_of_cell? w _ hx217_0)).trans hx217_0)
       have HR217_0 := Aside0.mk hi217_0
       have HC217_0 := Aside0.mk hl217_0
       clear hi217_0 hl217_0
       replace p217 := eq_true p217
       replace q217 := eq_true q217
       have p218 : 0 ≤ (x78_3 : Int) := of_decide_eq_true (by assumption)
       have q218 : x78_3 < ((rd_L1 l1_3 ((rd_T64 x11_2 x13_2).f1)).length : Int) := of_decide_eq_true (by assumption)
       obtain ⟨ad218, e218, hx218_0⟩ := Kd.at_int HR217_0.out x78_3 p218 q218
       have hw218_0 := hx218_0
       cases e218
       (try replace hx218_0 := (HB.out.cell (World.block_lt_of_cell? w _ hx218_0)).trans hx218_0)
       replace p218 := eq_true p218
       replace q218 := eq_true q218
       refine start_ (n := 21) (S := fun w' => w'.cell? ⟨gb199, 0, none⟩ = some (.int .i64 a0_0) ∧ w'.cell? ⟨gb199, 1, none⟩ = some (.int .i64 a0_1) ∧ w'.cell? ⟨gb199, 2, none⟩ = some (.slice A0_2 l0_2.length c0_2) ∧ w'.cell? ⟨gb199, 3, none⟩ = some (.slice (some ad215) l0_3.length c0_3) ∧ w'.cell? ⟨gb211, 0, none⟩ = some (.int .i64 ((rd_T64 x11_2 x13_2).f0)) ∧ w'.cell? ⟨gb211, 1, none⟩ = some (.int .i64 ((rd_T64 x11_2 x13_2).f1)) ∧ w'.cell? ⟨gb200, 0, none⟩ = some (.int .i64 a1_0) ∧ w'.cell? ⟨gb200, 1, none⟩ = some (.int .i64 a1_1) ∧ w'.cell? ⟨gb200, 2, none⟩ = some (.slice A1_2 l1_2.length c1_2) ∧ w'.cell? ⟨gb200, 3, none⟩ = some (.slice (some ad217) l1_3.length c1_3) ∧ w'.cell? (ad215.add (((rd_T64 x11_2 x13_2).f0)).toNat) = some (.slice (some ad216) (rd_L1 l0_3 ((rd_T64 x11_2 x13_2).f0)).length c215_0) ∧ w'.cell? (ad216.add (x78_3).toNat) = some (.int .i64 (rd (rd_L1 l0_3 ((rd_T64 x11_2 x13_2).f0)) x78_3)) ∧ w'.cell? (ad217.add (((rd_T64 x11_2 x13_2).f1)).toNat) = some (.slice (some ad218) (rd_L1 l1_3 ((rd_T64 x11_2 x13_2).f1)).length c217_0) ∧ w'.cell? (ad218.add (x78_3).toNat) = some (.int .i64 (rd (rd_L1 l1_3 ((rd_T64 x11_2 x13_2).f1)) x78_3))) (ds := []) #[false, false, false, false, false, false, false, false, false, false, false, false, false, false, false, false, false, false, false, false, false] (by kernel_rfl) rfl rfl ⟨(blk_cell BK199.out 0).trans rfl, (blk_cell BK199.out 1).trans rfl, (blk_cell BK199.out 2).trans rfl, (blk_cell BK199.out 3).trans rfl, (blk_cell BK211.out 0).trans rfl, (blk_cell BK211.out 1).trans rfl, (blk_cell BK200.out 0).trans rfl, (blk_cell BK200.out 1).trans rfl, (blk_cell BK200.out 2).trans rfl, (blk_cell BK200.out 3).trans rfl, ((HB.out.cell (World.block_lt_of_cell? w _ hw215_0)).trans hw215_0), ((HB.out.cell (World.block_lt_of_cell? w _ hw216_0)).trans hw216_0), ((HB.out.cell (World.block_lt_of_cell? w _ hw217_0)).trans hw217_0), ((HB.out.cell (World.block_lt_of_cell? w _ hw218_0)).trans hw218_0)⟩ (fun hHeld => ?_); refine with_tabW dfa_Product.tab20 dfa_Product.bits20 (fun HT_ HW_ => ?_)
       generalize wr.drew = w106 at HO_11 HO_15 HO_210002 HO_210003 BK199 BK200 BK201 BK204 BK209 BK211 HB HR215_0 HR217_0 hx215_0 hx216_0 hx217_0 hx218_0 hHeld ⊢
       refine pure_ (i := 0) (N := some 81) (v := ?_) (a' := ?_) #[true, false, false, false, false, false, false, false, false, false, false, false, false, false, false, false, false, false, false, false, false] rfl rfl (any_of HT_.out (by kernel_rfl)) (fun _ _ _ h => h) (Or.inl ⟨by rfl, ?_⟩) ?_ ?_
       rotate_left
       (focus
       intro w'
       go_simp
       with_reducible rfl
       )
       rotate_left
       (focus
       simp only [Act.put, sA, sB, sC, i64_w, i32_w]
       rfl
       )
       refine pure_ (i := 2) (N := some 83) (v := ?_) (a' := ?_) #[true, false, true, false, false, false, false, false, false, false, false, false, false, false, false, false, false, false, false, false, false] rfl rfl (any_of HT_.out (by kernel_rfl)) (fun _ _ _ h => h) (Or.inl ⟨by rfl, ?_⟩) ?_ ?_
       rotate_left
       (focus
       intro w'
       go_simp
       with_reducible rfl
       )
       rotate_left
       (focus
       simp only [Act.put, sA, sB, sC, i64_w, i32_w]
       rfl
       )
       refine pure_ (i := 6) (N := some 87) (v := ?_) (a' := ?_) #[true, false, true, false, false, false, true, false, false, false, false, false, false, false, false, false, false, false, false, false, false] rfl rfl (any_of HT_.out (by kernel_rfl)) (fun _ _ _ h => h) (Or.inl ⟨by rfl, ?_⟩) ?_ ?_
       rotate_left
       (focus
       intro w'
       go_simp
       with_reducible rfl
       )
       rotate_left
       (focus
       simp only [Act.put, sA, sB, sC, i64_w, i32_w]
       rfl
       )
       refine pure_ (i := 9) (N := some 90) (v := ?_) (a' := ?_) #[true, false, true, false, false, false, true, false, false, true, false, false, false, false, false, false, false, false, false, false, false] rfl rfl (any_of HT_.out (by kernel_rfl)) (fun _ _ _ h => h) (Or.inl ⟨by rfl, ?_⟩) ?_ ?_
       rotate_left
       (focus
       intro w'
       go_simp
       with_reducible rfl
       )
       rotate_left
       (focus
       simp only [Act.put, sA, sB, sC, i64_w, i32_w]
       rfl
       )
       refine pure_ (i := 11) (N := some 92) (v := ?_) (a' := ?_) #[true, false, true, false, false, false, true, false, false, true, false, true, false, false, false, false, false, false, false, false, false] rfl rfl (any_of HT_.out (by kernel_rfl)) (fun _ _ _ h => h) (Or.inl ⟨by rfl, ?_⟩) ?_ ?_
       rotate_left
       (focus
       intro w'
       go_simp
       with_reducible rfl
       )
       rotate_left
       (focus
       simp only [Act.put, sA, sB, sC, i64_w, i32_w]
       rfl
       )
       refine pure_ (i := 15) (N := some 96) (v := ?_) (a' := ?_) #[true, false, true, false, false, false, true, false, false, true, false, true, false, false, false, true, false, false, false, false, false] rfl rfl (any_of HT_.out (by kernel_rfl)) (fun _ _ _ h => h) (Or.inl ⟨by rfl, ?_⟩) ?_ ?_
       rotate_left
       (focus
       intro w'
       go_simp
       with_reducible rfl
       )
       rotate_left
       (focus
       simp only [Act.put, sA, sB, sC, i64_w, i32_w]
       rfl
       )
       refine take_ (i := 1) (N := some 82) (v := ?_) (a' := ?_) #[true, true, true, false, false, false, true, false, false, true, false, true, false, false, false, true, false, false, false, false, false] rfl rfl (take_ofW HT_.out HW_.out (by kernel_rfl)) (fun _ _ _ h => h) (Or.inl ⟨by rfl, ?_⟩) hHeld ?_ ?_
       rotate_left
       (focus
       rintro w' ⟨s0, s1, s2, s3, s4, s5, s6, s7, s8, s9, s10, s11, s12, s13⟩
       go_simp
       with_reducible rfl
       )
       rotate_left
       (focus
       simp only [Act.put, sA, sB, sC, i64_w, i32_w]
       rfl
       )
       refine take_ (i := 3) (N := some 84) (v := ?_) (a' := ?_) #[true, true, true, true, false, false, true, false, false, true, false, true, false, false, false, true, false, false, false, false, false] rfl rfl (take_ofW HT_.out HW_.out (by kernel_rfl)) (fun _ _ _ h => h) (Or.inl ⟨by rfl, ?_⟩) hHeld ?_ ?_
       rotate_left
       (focus
       rintro w' ⟨s0, s1, s2, s3, s4, s5, s6, s7, s8, s9, s10, s11, s12, s13⟩
       go_simp
       with_reducible rfl
       )
       rotate_left
       (focus
       simp only [Act.put, sA, sB, sC, i64_w, i32_w]
       rfl
       )
       refine pure_ (i := 4) (N := some 85) (v := ?_) (a' := ?_) #[true, true, true, true, true, false, true, false, false, true, false, true, false, false, false, true, false, false, false, false, false] rfl rfl (any_of HT_.out (by kernel_rfl)) (fun _ _ _ h => h) (Or.inl ⟨by rfl, ?_⟩) ?_ ?_
       rotate_left
       (focus
       intro w'
       go_simp
       with_reducible rfl
       )
       rotate_left
       (focus
       simp only [Act.put, sA, sB, sC, i64_w, i32_w]
       rfl
       )
       refine take_ (i := 5) (N := some 86) (v := ?_) (a' := ?_) #[true, true, true, true, true, true, true, false, false, true, false, true, false, false, false, true, false, false, false, false, false] rfl rfl (take_ofW HT_.out HW_.out (by kernel_rfl)) (fun _ _ _ h => h) (Or.inl ⟨by rfl, ?_⟩) hHeld ?_ ?_
       rotate_left
       (focus
       rintro w' ⟨s0, s1, s2, s3, s4, s5, s6, s7, s8, s9, s10, s11, s12, s13⟩
       go_simp
       with_reducible rfl
       )
       rotate_left
       (focus
       simp only [Act.put, sA, sB, sC, i64_w, i32_w]
       rfl
       )
       refine pure_ (i := 7) (N := some 88) (v := ?_) (a' := ?_) #[true, true, true, true, true, true, true, true, false, true, false, true, false, false, false, true, false, false, false, false, false] rfl rfl (any_of HT_.out (by kernel_rfl)) (fun _ _ _ h => h) (Or.inl ⟨by rfl, ?_⟩) ?_ ?_
       rotate_left
       (focus
       intro w'
       go_simp
       with_reducible rfl
       )
       rotate_left
       (focus
       simp only [Act.put, sA, sB, sC, i64_w, i32_w]
       rfl
       )
       refine take_ (i := 8) (N := some 89) (v := ?_) (a' := ?_) #[true, true, true, true, true, true, true, true, true, true, false, true, false, false, false, true, false, false, false, false, false] rfl rfl (take_ofW HT_.out HW_.out (by kernel_rfl)) (fun _ _ _ h => h) (Or.inl ⟨by rfl, ?_⟩) hHeld ?_ ?_
       rotate_left
       (focus
       rintro w' ⟨s0, s1, s2, s3, s4, s5, s6, s7, s8, s9, s10, s11, s12, s13⟩
       go_simp
       with_reducible rfl
       )
       rotate_left
       (focus
       simp only [Act.put, sA, sB, sC, i64_w, i32_w]
       rfl
       )
       refine take_ (i := 10) (N := some 91) (v := ?_) (a' := ?_) #[true, true, true, true, true, true, true, true, true, true, true, true, false, false, false, true, false, false, false, false, false] rfl rfl (take_ofW HT_.out HW_.out (by kernel_rfl)) (fun _ _ _ h => h) (Or.inl ⟨by rfl, ?_⟩) hHeld ?_ ?_
       rotate_left
       (focus
       rintro w' ⟨s0, s1, s2, s3, s4, s5, s6, s7, s8, s9, s10, s11, s12, s13⟩
       go_simp
       with_reducible rfl
       )
       rotate_left
       (focus
       simp only [Act.put, sA, sB, sC, i64_w, i32_w]
       rfl
       )
       refine take_ (i := 12) (N := some 93) (v := ?_) (a' := ?_) #[true, true, true, true, true, true, true, true, true, true, true, true, true, false, false, true, false, false, false, false, false] rfl rfl (take_ofW HT_.out HW_.out (by kernel_rfl)) (fun _ _ _ h => h) (Or.inl ⟨by rfl, ?_⟩) hHeld ?_ ?_
       rotate_left
       (focus
       rintro w' ⟨s0, s1, s2, s3, s4, s5, s6, s7, s8, s9, s10, s11, s12, s13⟩
       go_simp
       with_reducible rfl
       )
       rotate_left
       (focus
       simp only [Act.put, sA, sB, sC, i64_w, i32_w]
       rfl
       )
       refine pure_ (i := 13) (N := some 94) (v := ?_) (a' := ?_) #[true, true, true, true, true, true, true, true, true, true, true, true, true, true, false, true, false, false, false, false, false] rfl rfl (any_of HT_.out (by kernel_rfl)) (fun _ _ _ h => h) (Or.inl ⟨by rfl, ?_⟩) ?_ ?_
       rotate_left
       (focus
       intro w'
       go_simp
       with_reducible rfl
       )
       rotate_left
       (focus
       simp only [Act.put, sA, sB, sC, i64_w, i32_w]
       rfl
       )
       refine take_ (i := 14) (N := some 95) (v := ?_) (a' := ?_) #[true, true, true, true, true, true, true, true, true, true, true, true, true, true, true, true, false, false, false, false, false] rfl rfl (take_ofW HT_.out HW_.out (by kernel_rfl)) (fun _ _ _ h => h) (Or.inl ⟨by rfl, ?_⟩) hHeld ?_ ?_
       rotate_left
       (focus
       rintro w' ⟨s0, s1, s2, s3, s4, s5, s6, s7, s8, s9, s10, s11, s12, s13⟩
       go_simp
       with_reducible rfl
       )
       rotate_left
       (focus
       simp only [Act.put, sA, sB, sC, i64_w, i32_w]
       rfl
       )
       refine pure_ (i := 16) (N := some 97) (v := ?_) (a' := ?_) #[true, true, true, true, true, true, true, true, true, true, true, true, true, true, true, true, true, false, false, false, false] rfl rfl (any_of HT_.out (by kernel_rfl)) (fun _ _ _ h => h) (Or.inl ⟨by rfl, ?_⟩) ?_ ?_
       rotate_left
       (focus
       intro w'
       go_simp
       with_reducible rfl
       )
       rotate_left
       (focus
       simp only [Act.put, sA, sB, sC, i64_w, i32_w]
       rfl
       )
       refine take_ (i := 17) (N := some 98) (v := ?_) (a' := ?_) #[true, true, true, true, true, true, true, true, true, true, true, true, true, true, true, true, true, true, false, false, false] rfl rfl (take_ofW HT_.out HW_.out (by kernel_rfl)) (fun _ _ _ h => h) (Or.inl ⟨by rfl, ?_⟩) hHeld ?_ ?_
       rotate_left
       (focus
       rintro w' ⟨s0, s1, s2, s3, s4, s5, s6, s7, s8, s9, s10, s11, s12, s13⟩
       go_simp
       with_reducible rfl
       )
       rotate_left
       (focus
       simp only [Act.put, sA, sB, sC, i64_w, i32_w]
       rfl
       )
       refine pure_ (i := 18) (N := some 99) (v := ?_) (a' := ?_) #[true, true, true, true, true, true, true, true, true, true, true, true, true, true, true, true, true, true, true, false, false] rfl rfl (any_of HT_.out (by kernel_rfl)) (fun _ _ _ h => h) (Or.inl ⟨by rfl, ?_⟩) ?_ ?_
       rotate_left
       (focus
       intro w'
       go_simp
       with_reducible rfl
       )
       rotate_left
       (focus
       simp only [Act.put, sA, sB, sC, i64_w, i32_w]
       rfl
       )
       refine one_ (i := 19) (N := some 17) #[true, true, true, true, true, true, true, true, true, true, true, true, true, true, true, true, true, true, true, true, false] rfl rfl (one_of HT_.out (by kernel_rfl)) (by decide) (fun K hK => ?_)
       refine box_step ?hg (N := 17) ?hd (cs := #[.int .i64 0, .int .i64 0]) (t := 64) ?hr ?_; (case hd => rfl); (case hg => rfl); (case hr => first | (go_simp; done) | (go_simp; rfl))
       intro gb219 hg w107 hbox hb
       have n0_ := aM (Kd.R_below (Kd.R_elderB (uR HO_11.out) gb219 (Nat.le_of_eq hg.symm)) hb)
       have n1_ := aM (Kd.R_below (uR HO_15.out) hb)
       have n2_ := aM (Kd.R_below (uR HO_210002.out) hb)
       have n3_ := aM (Kd.S_below (by (with_reducible repeat (first | apply Kd.S_alloc | apply Kd.S_drewN | apply Kd.S_drew)); exact HO_210003.out) hb)
       have n4_ := aM (blk_below (uB BK199.out) hb)
       have n5_ := aM (blk_below (uB BK200.out) hb)
       have n6_ := aM (blk_below (uB BK201.out) hb)
       have n7_ := aM (blk_below (g := gb204) (o := mapO ek64 (Value.int .i64) x205000_3) (uB BK204.out) hb)
       have n8_ := aM (blk_below (uB BK209.out) hb)
       have n9_ := aM (blk_below (uB BK211.out) hb)
       have n10_ := aM (below_step (by repeat (first | (with_reducible first | exact HB.out | apply bA | apply bN | apply bD | refine bS ?_ ‹_›) | exact HB.out)) hb)
       have n11_ := aM (hbox)
       have n12_ := aM ((by rw [hg]; exact (below_size (by repeat (first | (with_reducible first | exact HB.out | apply bA | apply bN | apply bD | refine bS ?_ ‹_›) | exact HB.out))) : w.heap.size ≤ gb219))
       have n13_ := aM ((by rw [hg]; exact (below_size (by repeat (first | (with_reducible first | exact HB.out | apply bA | apply bN | apply bD | refine bS ?_ ‹_›) | exact HB.out))) : w.heap.size ≤ gb219))
       have n14_ := aM ((by rw [hg]; exact Nat.ne_of_lt (blk_lt (uB BK199.out)) : gb199 ≠ gb219))
       have n15_ := aM ((by rw [hg]; exact Nat.ne_of_gt (blk_lt (uB BK199.out)) : gb219 ≠ gb199))
       have n16_ := aM ((by rw [hg]; exact Nat.ne_of_lt (blk_lt (uB BK200.out)) : gb200 ≠ gb219))
       have n17_ := aM ((by rw [hg]; exact Nat.ne_of_gt (blk_lt (uB BK200.out)) : gb219 ≠ gb200))
       have n18_ := aM ((by rw [hg]; exact Nat.ne_of_lt (blk_lt (uB BK201.out)) : gb201 ≠ gb219))
       have n19_ := aM ((by rw [hg]; exact Nat.ne_of_gt (blk_lt (uB BK201.out)) : gb219 ≠ gb201))
       have n20_ := aM ((by rw [hg]; exact Nat.ne_of_lt (blk_lt (g := gb204) (o := mapO ek64 (Value.int .i64) x205000_3) (uB BK204.out)) : gb204 ≠ gb219))
       have n21_ := aM ((by rw [hg]; exact Nat.ne_of_gt (blk_lt (g := gb204) (o := mapO ek64 (Value.int .i64) x205000_3) (uB BK204.out)) : gb219 ≠ gb204))
       have n22_ := aM ((by rw [hg]; exact Nat.ne_of_lt (blk_lt (uB BK209.out)) : gb209 ≠ gb219))
       have n23_ := aM ((by rw [hg]; exact Nat.ne_of_gt (blk_lt (uB BK209.out)) : gb219 ≠ gb209))
       have n24_ := aM ((by rw [hg]; exact Nat.ne_of_lt (blk_lt (uB BK211.out)) : gb211 ≠ gb219))
       have n25_ := aM ((by rw [hg]; exact Nat.ne_of_gt (blk_lt (uB BK211.out)) : gb219 ≠ gb211))
       clear HO_11
       clear HO_15
       clear HO_210002
       clear HO_210003
       clear BK199
       clear BK200
       clear BK201
       clear BK204
       clear BK209
       clear BK211
       clear HB
       have HO_11 := n0_
       have HO_15 := n1_
       have HO_210002 := n2_
       have HO_210003 := n3_
       have BK199 := n4_
       have BK200 := n5_
       have BK201 := n6_
       have BK204 := n7_
       have BK209 := n8_
       have BK211 := n9_
       have HB := n10_
       have BK219 := n11_
       have GW219 := n12_
       have GE219 := n13_
       have NB199_219 := n14_
       have NB219_199 := n15_
       have NB200_219 := n16_
       have NB219_200 := n17_
       have NB201_219 := n18_
       have NB219_201 := n19_
       have NB204_219 := n20_
       have NB219_204 := n21_
       have NB209_219 := n22_
       have NB219_209 := n23_
       have NB211_219 := n24_
       have NB219_211 := n25_
       clear n0_ n1_ n2_ n3_ n4_ n5_ n6_ n7_ n8_ n9_ n10_ n11_ n12_ n13_ n14_ n15_ n16_ n17_ n18_ n19_ n20_ n21_ n22_ n23_ n24_ n25_
       clear hb hbox hg
       refine hK.out _ _ ⟨(blk_cell BK199.out 0).trans rfl, (blk_cell BK199.out 1).trans rfl, (blk_cell BK199.out 2).trans rfl, (blk_cell BK199.out 3).trans rfl, (blk_cell BK211.out 0).trans rfl, (blk_cell BK211.out 1).trans rfl, (blk_cell BK200.out 0).trans rfl, (blk_cell BK200.out 1).trans rfl, (blk_cell BK200.out 2).trans rfl, (blk_cell BK200.out 3).trans rfl, ((HB.out.cell (World.block_lt_of_cell? w _ hw215_0)).trans hw215_0), ((HB.out.cell (World.block_lt_of_cell? w _ hw216_0)).trans hw216_0), ((HB.out.cell (World.block_lt_of_cell? w _ hw217_0)).trans hw217_0), ((HB.out.cell (World.block_lt_of_cell? w _ hw218_0)).trans hw218_0)⟩ (fun hHeld => ?_)
       clear hK K
       refine norm_ (a' := ?_) ?_ ?_
       rotate_left
       (focus
       show Act.put _ (some 17) _ = _
       simp only [Act.put, sA, sB, sC, i64_w, i32_w]
       rfl
       )
       refine one_ (i := 20) (N := none) #[true, true, true, true, true, true, true, true, true, true, true, true, true, true, true, true, true, true, true, true, true] rfl rfl (one_of HT_.out (by kernel_rfl)) (by decide) (fun K hK => ?_)
       have hs108 : w107.cell? ⟨gb219, 0, none⟩ = some (.int .i64 0) := (blk_cell BK219.out 0).trans rfl
       have hfs108 := blk_frozen BK219.out 0
       have hns108_0 := NB199_219.out
       have hns108_1 := NB200_219.out
       have hns108_2 := NB201_219.out
       have hns108_3 := NB204_219.out
       have hns108_4 := NB209_219.out
       have hns108_5 := NB211_219.out
       have hms108_0 := NB219_199.out
       have hms108_1 := NB219_200.out
       have hms108_2 := NB219_201.out
       have hms108_3 := NB219_204.out
       have hms108_4 := NB219_209.out
       have hms108_5 := NB219_211.out
       have hs109 : w107.cell? ⟨gb219, 1, none⟩ = some (.int .i64 0) := (blk_cell BK219.out 1).trans rfl
       have hfs109 := blk_frozen BK219.out 1
       have hns109_0 := NB199_219.out
       have hns109_1 := NB200_219.out
       have hns109_2 := NB201_219.out
       have hns109_3 := NB204_219.out
       have hns109_4 := NB209_219.out
       have hns109_5 := NB211_219.out
       have hms109_0 := NB219_199.out
       have hms109_1 := NB219_200.out
       have hms109_2 := NB219_201.out
       have hms109_3 := NB219_204.out
       have hms109_4 := NB219_209.out
       have hms109_5 := NB219_211.out
       refine skip_ (w1 := ?_) (by rfl) rfl ?_ ?_
       rotate_left
       (focus
       go_simp
       rfl
       )
       refine hK.out _ _ ⟨((cell_far (p := ⟨gb219, _, none⟩) NB199_219.out _).trans (((cell_far (p := ⟨gb219, _, none⟩) NB199_219.out _).trans (hHeld.1)))), ((cell_far (p := ⟨gb219, _, none⟩) NB199_219.out _).trans (((cell_far (p := ⟨gb219, _, none⟩) NB199_219.out _).trans (hHeld.2.1)))), ((cell_far (p := ⟨gb219, _, none⟩) NB199_219.out _).trans (((cell_far (p := ⟨gb219, _, none⟩) NB199_219.out _).trans (hHeld.2.2.1)))), ((cell_far (p := ⟨gb219, _, none⟩) NB199_219.out _).trans (((cell_far (p := ⟨gb219, _, none⟩) NB199_219.out _).trans (hHeld.2.2.2.1)))), ((cell_far (p := ⟨gb219, _, none⟩) NB211_219.out _).trans (((cell_far (p := ⟨gb219, _, none⟩) NB211_219.out _).trans (hHeld.2.2.2.2.1)))), ((cell_far (p := ⟨gb219, _, none⟩) NB211_219.out _).trans (((cell_far (p := ⟨gb219, _, none⟩) NB211_219.out _).trans (hHeld.2.2.2.2.2.1)))), ((cell_far (p := ⟨gb219, _, none⟩) NB200_219.out _).trans (((cell_far (p := ⟨gb219, _, none⟩) NB200_219.out _).trans (hHeld.2.2.2.2.2.2.1)))), ((cell_far (p := ⟨gb219, _, none⟩) NB200_219.out _).trans (((cell_far (p := ⟨gb219, _, none⟩) NB200_219.out _).trans (hHeld.2.2.2.2.2.2.2.1)))), ((cell_far (p := ⟨gb219, _, none⟩) NB200_219.out _).trans (((cell_far (p := ⟨gb219, _, none⟩) NB200_219.out _).trans (hHeld.2.2.2.2.2.2.2.2.1)))), ((cell_far (p := ⟨gb219, _, none⟩) NB200_219.out _).trans (((cell_far (p := ⟨gb219, _, none⟩) NB200_219.out _).trans (hHeld.2.2.2.2.2.2.2.2.2.1)))), ((cell_far (p := ⟨gb219, _, none⟩) (by first | exact nl1 hw215_0 GW219.out | exact nl2 hw215_0 GW219.out | exact nl3 hw215_0 GW219.out | (dsimp only; exact Nat.ne_of_lt (Nat.lt_of_lt_of_le (by have := World.block_lt_of_cell? _ _ hw215_0; first | rwa [add_block] at this | exact this) GW219.out))) _).trans (((cell_far (p := ⟨gb219, _, none⟩) (by first | exact nl1 hw215_0 GW219.out | exact nl2 hw215_0 GW219.out | exact nl3 hw215_0 GW219.out | (dsimp only; exact Nat.ne_of_lt (Nat.lt_of_lt_of_le (by have := World.block_lt_of_cell? _ _ hw215_0; first | rwa [add_block] at this | exact this) GW219.out))) _).trans (hHeld.2.2.2.2.2.2.2.2.2.2.1)))), ((cell_far (p := ⟨gb219, _, none⟩) (by first | exact nl1 hw216_0 GW219.out | exact nl2 hw216_0 GW219.out | exact nl3 hw216_0 GW219.out | (dsimp only; exact Nat.ne_of_lt (Nat.lt_of_lt_of_le (by have := World.block_lt_of_cell? _ _ hw216_0; first | rwa [add_block] at this | exact this) GW219.out))) _).trans (((cell_far (p := ⟨gb219, _, none⟩) (by first | exact nl1 hw216_0 GW219.out | exact nl2 hw216_0 GW219.out | exact nl3 hw216_0 GW219.out | (dsimp only; exact Nat.ne_of_lt (Nat.lt_of_lt_of_le (by have := World.block_lt_of_cell? _ _ hw216_0; first | rwa [add_block] at this | exact this) GW219.out))) _).trans (hHeld.2.2.2.2.2.2.2.2.2.2.2.1)))), ((cell_far (p := ⟨gb219, _, none⟩) (by first | exact nl1 hw217_0 GW219.out | exact nl2 hw217_0 GW219.out | exact nl3 hw217_0 GW219.out | (dsimp only; exact Nat.ne_of_lt (Nat.lt_of_lt_of_le (by have := World.block_lt_of_cell? _ _ hw217_0; first | rwa [add_block] at this | exact this) GW219.out))) _).trans (((cell_far (p := ⟨gb219, _, none⟩) (by first | exact nl1 hw217_0 GW219.out | exact nl2 hw217_0 GW219.out | exact nl3 hw217_0 GW219.out | (dsimp only; exact Nat.ne_of_lt (Nat.lt_of_lt_of_le (by have := World.block_lt_of_cell? _ _ hw217_0; first | rwa [add_block] at this | exact this) GW219.out))) _).trans (hHeld.2.2.2.2.2.2.2.2.2.2.2.2.1)))), ((cell_far (p := ⟨gb219, _, none⟩) (by first | exact nl1 hw218_0 GW219.out | exact nl2 hw218_0 GW219.out | exact nl3 hw218_0 GW219.out | (dsimp only; exact Nat.ne_of_lt (Nat.lt_of_lt_of_le (by have := World.block_lt_of_cell? _ _ hw218_0; first | rwa [add_block] at this | exact this) GW219.out))) _).trans (((cell_far (p := ⟨gb219, _, none⟩) (by first | exact nl1 hw218_0 GW219.out | exact nl2 hw218_0 GW219.out | exact nl3 hw218_0 GW219.out | (dsimp only; exact Nat.ne_of_lt (Nat.lt_of_lt_of_le (by have := World.block_lt_of_cell? _ _ hw218_0; first | rwa [add_block] at this | exact this) GW219.out))) _).trans (hHeld.2.2.2.2.2.2.2.2.2.2.2.2.2))))⟩ (fun hHeld => ?_)
       clear hK K
       refine done_ (done_of HT_.out (by kernel_rfl)) ?_
       have hnb110 := NB219_199.out
       have hnc110 := NB199_219.out
       have hnb111 := NB219_200.out
       have hnc111 := NB200_219.out
       have hnb112 := NB219_201.out
       have hnc112 := NB201_219.out
       have hnb113 := NB219_204.out
       have hnc113 := NB204_219.out
       have hnb114 := NB219_209.out
       have hnc114 := NB209_219.out
       have hnb115 := NB219_211.out
       have hnc115 := NB211_219.out
       have hcz116_0 : w107.cell? ⟨gb219, 0, none⟩ = some (.int .i64 0) := (blk_cell BK219.out 0).trans rfl
       have hcz116_1 : w107.cell? ⟨gb219, 1, none⟩ = some (.int .i64 0) := (blk_cell BK219.out 1).trans rfl
       have hfz116_0 := blk_frozen BK219.out 0
       have hfz116_1 := blk_frozen BK219.out 1
       obtain ⟨Ao117, co117, eo117⟩ := Kd.R_slice HO_11.out
       subst eo117
       have hnb118 := NB201_199.out
       have hnc118 := NB199_201.out
       have hnb119 := NB201_200.out
       have hnc119 := NB200_201.out
       have hnb120 := NB201_204.out
       have hnc120 := NB204_201.out
       have hnb121 := NB201_209.out
       have hnc121 := NB209_201.out
       have hnb122 := NB201_211.out
       have hnc122 := NB211_201.out
       have hcz123_0 : w107.cell? ⟨gb201, 0, none⟩ = some (.int .i64 x202000_3) := (blk_cell BK201.out 0).trans rfl
       have hcz123_1 : w107.cell? ⟨gb201, 1, none⟩ = some (.int .i64 x202001_3) := (blk_cell BK201.out 1).trans rfl
       have hcz123_2 : w107.cell? ⟨gb201, 2, none⟩ = some (.slice none 0 0) := (blk_cell BK201.out 2).trans rfl
       have hcz123_3 : w107.cell? ⟨gb201, 3, none⟩ = some (.slice none 0 0) := (blk_cell BK201.out 3).trans rfl
       have hfz123_0 := blk_frozen BK201.out 0
       have hfz123_1 := blk_frozen BK201.out 1
       have hfz123_2 := blk_frozen BK201.out 2
       have hfz123_3 := blk_frozen BK201.out 3
       try go_wp2_with (first | ((with_reducible refine gate_dst (N := 103) rfl ?_); at_lookup; refine wp_lookOk rfl _ _ _ rfl 64 3 keyOk64 Try.underlying65 gb204 x205000_3 (show _ = some (mapO ek64 (Value.int .i64) x205000_3) from by (with_reducible repeat (first | refine kN ?_ | refine kD ?_ | refine kA ?_)); refine blkF ?_ NB204_219.out _; (with_reducible repeat (first | refine kN ?_ | refine kD ?_ | refine kA ?_)); refine blkF ?_ NB204_219.out _; (with_reducible repeat (first | refine kN ?_ | refine kD ?_ | refine kA ?_)); exact BK204.out) rfl (⟨rd (rd_L1 l0_3 ((rd_T64 x11_2 x13_2).f0)) x78_3, rd (rd_L1 l1_3 ((rd_T64 x11_2 x13_2).f1)) x78_3⟩ : S64) rfl 0 (zv3 _) ?_))
       refine bodyPost_ret (results_ct rfl _ _ gb201 25 #[.int .i64 0, .int .i64 0, .slice none 0 0, .slice none 0 0] (0, 0) _ rfl (by (with_reducible repeat (first | refine kN ?_ | refine kD ?_ | refine kA ?_)); refine blk_put (cs := #[.int .i64 0, .int .i64 0, .slice none 0 0, .slice none 0 0]) ?_ 3 _ rfl; (with_reducible repeat (first | refine kN ?_ | refine kD ?_ | refine kA ?_)); refine blk_put (cs := #[.int .i64 0, .int .i64 0, .slice none 0 0, .slice none 0 0]) ?_ 2 _ rfl; (with_reducible repeat (first | refine kN ?_ | refine kD ?_ | refine kA ?_)); refine blk_put (cs := #[.int .i64 0, .int .i64 x202001_3, .slice none 0 0, .slice none 0 0]) ?_ 1 _ rfl; (with_reducible repeat (first | refine kN ?_ | refine kD ?_ | refine kA ?_)); refine blk_put (cs := #[.int .i64 x202000_3, .int .i64 x202001_3, .slice none 0 0, .slice none 0 0]) ?_ 0 _ rfl; (with_reducible repeat (first | refine kN ?_ | refine kD ?_ | refine kA ?_ | refine blk_far ?_ NB201_219.out _)); exact BK201.out) Try.underlying25 rfl (by kernel_rfl)) rfl ?_
       exact ⟨_, _, by first | rfl | (simp [errW_none, errW_some] <;> rfl) | (simp [*, errW_none, errW_some] <;> rfl), (by first | exact (by first | exact Kd.R_nil _ _ _ _ _ | exact Kd.N_nil _ _ _ _ _ | exact Kd.V_nil _ _ _ _ _ | exact Kd.Q_nil _ _ _ _ _ | exact Kd.S_nil _ _ _ _ _) | (simp only [hl15_3]; exact (by first | exact Kd.R_nil _ _ _ _ _ | exact Kd.N_nil _ _ _ _ _ | exact Kd.V_nil _ _ _ _ _ | exact Kd.Q_nil _ _ _ _ _ | exact Kd.S_nil _ _ _ _ _))), (by first | exact (by first | exact Kd.S_nil _ _ _ _ _ | exact Kd.N_nil _ _ _ _ _ | exact Kd.V_nil _ _ _ _ _ | exact Kd.Q_nil _ _ _ _ _ | exact Kd.R_nil _ _ _ _ _) | (simp only [hl15_3]; exact (by first | exact Kd.S_nil _ _ _ _ _ | exact Kd.N_nil _ _ _ _ _ | exact Kd.V_nil _ _ _ _ _ | exact Kd.Q_nil _ _ _ _ _ | exact Kd.R_nil _ _ _ _ _))), by repeat (first | (with_reducible first | exact HB.out | apply bA | apply bN | apply bD | refine bS ?_ ‹_›) | exact HB.out)⟩
       )
       (focus
       rw [if_neg c105] at H
       have c105b0 : decide (512 ≤ (x11_3.length : Int)) = false := decide_eq_false c105
       (try (have c105b0_hl15_3 := c105b0; simp only [hl15_3] at c105b0_hl15_3))
       have c105b1 : decide (512 ≤ x11_3.length) = false := decide_eq_false (by omega)
       (try (have c105b1_hl15_3 := c105b1; simp only [hl15_3] at c105b1_hl15_3))
       clear c105
       obtain ⟨y221, hy221⟩ : ∃ y_ : AM S64 Int, y_ = (AM.put x205000_3 (⟨rd (rd_L1 l0_3 ((rd_T64 x11_2 x13_2).f0)) x78_3, rd (rd_L1 l1_3 ((rd_T64 x11_2 x13_2).f1)) x78_3⟩ : S64) (x11_3.length : Int)) := ⟨_, rfl⟩
       replace H : (if x11_3.length < 8796093022208 then (if x78_3 < (x15_3.length : Int) then (dfa_Product.l1 k3 a2 (x11_3 ++ [(⟨rd (rd_L1 l0_3 ((rd_T64 x11_2 x13_2).f0)) x78_3, rd (rd_L1 l1_3 ((rd_T64 x11_2 x13_2).f1)) x78_3⟩ : S64)]) x13_2 (x15_3.set (x78_3 : Int).toNat (x11_3.length : Int)) (y212.length : Int) (wrap64 (x78_3 + 1)) a0_0 a0_1 l0_2 l0_3 a1_0 a1_1 l1_2 l1_3 y221 a0_0 0 x210002_2 x210003_2 ((rd_T64 x11_2 x13_2).f0) ((rd_T64 x11_2 x13_2).f1)) else (none)) else (none)) = some (r1, r2, r3, r4, r5) := by first | (rw [hy221]; with_reducible exact H) | (have H2_ := (Option.bind_some _ _).symm.trans H; rw [hy221]; with_reducible exact H2_) | (have H2_ := (Option.bind_some _ _).symm.trans H; with_reducible exact H2_) | with_reducible exact H | (rw [hy221]; exact H) | exact H
       have Ny221 := Aside0.mk hy221
       clear hy221
       by_cases c124 : x11_3.length < 8796093022208
       (focus
       rw [if_pos c124] at H
       have LMc124 := Aside0.mk c124
       clear c124
       obtain ⟨y222, hy222⟩ : ∃ y_ : List (S64), y_ = (x11_3 ++ [(⟨rd (rd_L1 l0_3 ((rd_T64 x11_2 x13_2).f0)) x78_3, rd (rd_L1 l1_3 ((rd_T64 x11_2 x13_2).f1)) x78_3⟩ : S64)]) := ⟨_, rfl⟩
       replace H : (if x78_3 < (x15_3.length : Int) then (dfa_Product.l1 k3 a2 y222 x13_2 (x15_3.set (x78_3 : Int).toNat (x11_3.length : Int)) (y212.length : Int) (wrap64 (x78_3 + 1)) a0_0 a0_1 l0_2 l0_3 a1_0 a1_1 l1_2 l1_3 y221 a0_0 0 x210002_2 x210003_2 ((rd_T64 x11_2 x13_2).f0) ((rd_T64 x11_2 x13_2).f1)) else (none)) = some (r1, r2, r3, r4, r5) := by first | (rw [hy222]; with_reducible exact H) | (have H2_ := (Option.bind_some _ _).symm.trans H; rw [hy222]; with_reducible exact H2_) | (have H2_ := (Option.bind_some _ _).symm.trans H; with_reducible exact H2_) | with_reducible exact H | (rw [hy222]; exact H) | exact H
       have Ny222 := Aside0.mk hy222
       clear hy222
       by_cases c125 : x78_3 < (x15_3.length : Int)
       (focus
       rw [if_pos c125] at H
       have c125b0 : decide (x78_3 < (x15_3.length : Int)) = true := decide_eq_true c125
       (try (have c125b0_hl15_3 := c125b0; simp only [hl15_3] at c125b0_hl15_3))
       clear c125
       obtain ⟨y225, hy225⟩ : ∃ y_ : List Int, y_ = (x15_3.set (x78_3 : Int).toNat (x11_3.length : Int)) := ⟨_, rfl⟩
       replace H : (dfa_Product.l1 k3 a2 y222 x13_2 y225 (y212.length : Int) (wrap64 (x78_3 + 1)) a0_0 a0_1 l0_2 l0_3 a1_0 a1_1 l1_2 l1_3 y221 a0_0 0 x210002_2 x210003_2 ((rd_T64 x11_2 x13_2).f0) ((rd_T64 x11_2 x13_2).f1)) = some (r1, r2, r3, r4, r5) := by first | (rw [hy225]; with_reducible exact H) | (have H2_ := (Option.bind_some _ _).symm.trans H; rw [hy225]; with_reducible exact H2_) | (have H2_ := (Option.bind_some _ _).symm.trans H; with_reducible exact H2_) | with_reducible exact H | (rw [hy225]; exact H) | exact H
       have Ny225 := Aside0.mk hy225
       clear hy225
       have H' := Aside0.mk H
       clear H
       try go_wp2
       have n0_ := aM (Kd.R_drew HO_11.out)
       have n1_ := aM (Kd.R_drew HO_15.out)
       have n2_ := aM (Kd.R_drew HO_210002.out)
       have n3_ := aM (Kd.S_drew HO_210003.out)
       have n4_ := aM (blk_drew BK199.out)
       have n5_ := aM (blk_drew BK200.out)
       have n6_ := aM (blk_drew BK201.out)
       have n7_ := aM (blk_drew BK204.out)
       have n8_ := aM (blk_drew BK209.out)
       have n9_ := aM (blk_drew BK211.out)
       have n10_ := aM (below_drew1 HB.out)
       clear HO_11
       clear HO_15
       clear HO_210002
       clear HO_210003
       clear BK199
       clear BK200
       clear BK201
       clear BK204
       clear BK209
       clear BK211
       clear HB
       have HO_11 := n0_
       have HO_15 := n1_
       have HO_210002 := n2_
       have HO_210003 := n3_
       have BK199 := n4_
       have BK200 := n5_
       have BK201 := n6_
       have BK204 := n7_
       have BK209 := n8_
       have BK211 := n9_
       have HB := n10_
       clear n0_ n1_ n2_ n3_ n4_ n5_ n6_ n7_ n8_ n9_ n10_
       have p215 : 0 ≤ (((rd_T64 x11_2 x13_2).f0) : Int) := of_decide_eq_true (by assumption)
       have q215 : ((rd_T64 x11_2 x13_2).f0) < (l0_3.length : Int) := of_decide_eq_true (by assumption)
       obtain ⟨ad215, A215_0, c215_0, e215, hx215_0, hl215_0, hi215_0⟩ := at_L1 HR0_3.out ((rd_T64 x11_2 x13_2).f0) p215 q215
       have hw215_0 := hx215_0
       cases e215
       (try replace hx215_0 := (HB.out.cell (World.block_lt_of_cell? w _ hx215_0)).trans hx215_0)
       have HR215_0 := Aside0.mk hi215_0
       have HC215_0 := Aside0.mk hl215_0
       clear hi215_0 hl215_0
       replace p215 := eq_true p215
       replace q215 := eq_true q215
       have p216 : 0 ≤ (x78_3 : Int) := of_decide_eq_true (by assumption)
       have q216 : x78_3 < ((rd_L1 l0_3 ((rd_T64 x11_2 x13_2).f0)).length : Int) := of_decide_eq_true (by assumption)
       obtain ⟨ad216, e216, hx216_0⟩ := Kd.at_int HR215_0.out x78_3 p216 q216
       have hw216_0 := hx216_0
       cases e216
       (try replace hx216_0 := (HB.out.cell (World.block_lt_of_cell? w _ hx216_0)).trans hx216_0)
       replace p216 := eq_true p216
       replace q216 := eq_true q216
       have p217 : 0 ≤ (((rd_T64 x11_2 x13_2).f1) : Int) := of_decide_eq_true (by assumption)
       have q217 : ((rd_T64 x11_2 x13_2).f1) < (l1_3.length : Int) := of_decide_eq_true (by assumption)
       obtain ⟨ad217, A217_0, c217_0, e217, hx217_0, hl217_0, hi217_0⟩ := at_L1 HR1_3.out ((rd_T64 x11_2 x13_2).f1) p217 q217
       have hw217_0 := hx217_0
       cases e217
       (try replace hx217_0 := (HB.out.cell (World.block_lt_of_cell? w _ hx217_0)).trans hx217_0)
       have HR217_0 := Aside0.mk hi217_0
       have HC217_0 := Aside0.mk hl217_0
       clear hi217_0 hl217_0
       replace p217 := eq_true p217
       replace q217 := eq_true q217
       have p218 : 0 ≤ (x78_3 : Int) := of_decide_eq_true (by assumption)
       have q218 : x78_3 < ((rd_L1 l1_3 ((rd_T64 x11_2 x13_2).f1)).length : Int) := of_decide_eq_true (by assumption)
       obtain ⟨ad218, e218, hx218_0⟩ := Kd.at_int HR217_0.out x78_3 p218 q218
       have hw218_0 := hx218_0
       cases e218
       (try replace hx218_0 := (HB.out.cell (World.block_lt_of_cell? w _ hx218_0)).trans hx218_0)
       replace p218 := eq_true p218
       replace q218 := eq_true q218
       refine start_ (n := 21) (S := fun w' => w'.cell? ⟨gb199, 0, none⟩ = some (.int .i64 a0_0) ∧ w'.cell? ⟨gb199, 1, none⟩ = some (.int .i64 a0_1) ∧ w'.cell? ⟨gb199, 2, none⟩ = some (.slice A0_2 l0_2.length c0_2) ∧ w'.cell? ⟨gb199, 3, none⟩ = some (.slice (some ad215) l0_3.length c0_3) ∧ w'.cell? ⟨gb211, 0, none⟩ = some (.int .i64 ((rd_T64 x11_2 x13_2).f0)) ∧ w'.cell? ⟨gb211, 1, none⟩ = some (.int .i64 ((rd_T64 x11_2 x13_2).f1)) ∧ w'.cell? ⟨gb200, 0, none⟩ = some (.int .i64 a1_0) ∧ w'.cell? ⟨gb200, 1, none⟩ = some (.int .i64 a1_1) ∧ w'.cell? ⟨gb200, 2, none⟩ = some (.slice A1_2 l1_2.length c1_2) ∧ w'.cell? ⟨gb200, 3, none⟩ = some (.slice (some ad217) l1_3.length c1_3) ∧ w'.cell? (ad215.add (((rd_T64 x11_2 x13_2).f0)).toNat) = some (.slice (some ad216) (rd_L1 l0_3 ((rd_T64 x11_2 x13_2).f0)).length c215_0) ∧ w'.cell? (ad216.add (x78_3).toNat) = some (.int .i64 (rd (rd_L1 l0_3 ((rd_T64 x11_2 x13_2).f0)) x78_3)) ∧ w'.cell? (ad217.add (((rd_T64 x11_2 x13_2).f1)).toNat) = some (.slice (some ad218) (rd_L1 l1_3 ((rd_T64 x11_2 x13_2).f1)).length c217_0) ∧ w'.cell? (ad218.add (x78_3).toNat) = some (.int .i64 (rd (rd_L1 l1_3 ((rd_T64 x11_2 x13_2).f1)) x78_3))) (ds := []) #[false, false, false, false, false, false, false, false, false, false, false, false, false, false, false, false, false, false, false, false, false] (by kernel_rfl) rfl rfl ⟨(blk_cell BK199.out 0).trans rfl, (blk_cell BK199.out 1).trans rfl, (blk_cell BK199.out 2).trans rfl, (blk_cell BK199.out 3).trans rfl, (blk_cell BK211.out 0).trans rfl, (blk_cell BK211.out 1).trans rfl, (blk_cell BK200.out 0).trans rfl, (blk_cell BK200.out 1).trans rfl, (blk_cell BK200.out 2).trans rfl, (blk_cell BK200.out 3).trans rfl, ((HB.out.cell (World.block_lt_of_cell? w _ hw215_0)).trans hw215_0), ((HB.out.cell (World.block_lt_of_cell? w _ hw216_0)).trans hw216_0), ((HB.out.cell (World.block_lt_of_cell? w _ hw217_0)).trans hw217_0), ((HB.out.cell (World.block_lt_of_cell? w _ hw218_0)).trans hw218_0)⟩ (fun hHeld => ?_); refine with_tabW dfa_Product.tab20 dfa_Product.bits20 (fun HT_ HW_ => ?_)
       generalize wr.drew = w127 at HO_11 HO_15 HO_210002 HO_210003 BK199 BK200 BK201 BK204 BK209 BK211 HB HR215_0 HR217_0 hx215_0 hx216_0 hx217_0 hx218_0 hHeld ⊢
       refine pure_ (i := 0) (N := some 81) (v := ?_) (a' := ?_) #[true, false, false, false, false, false, false, false, false, false, false, false, false, false, false, false, false, false, false, false, false] rfl rfl (any_of HT_.out (by kernel_rfl)) (fun _ _ _ h => h) (Or.inl ⟨by rfl, ?_⟩) ?_ ?_
       rotate_left
       (focus
       intro w'
       go_simp
       with_reducible rfl
       )
       rotate_left
       (focus
       simp only [Act.put, sA, sB, sC, i64_w, i32_w]
       rfl
       )
       refine pure_ (i := 2) (N := some 83) (v := ?_) (a' := ?_) #[true, false, true, false, false, false, false, false, false, false, false, false, false, false, false, false, false, false, false, false, false] rfl rfl (any_of HT_.out (by kernel_rfl)) (fun _ _ _ h => h) (Or.inl ⟨by rfl, ?_⟩) ?_ ?_
       rotate_left
       (focus
       intro w'
       go_simp
       with_reducible rfl
       )
       rotate_left
       (focus
       simp only [Act.put, sA, sB, sC, i64_w, i32_w]
       rfl
       )
       refine pure_ (i := 6) (N := some 87) (v := ?_) (a' := ?_) #[true, false, true, false, false, false, true, false, false, false, false, false, false, false, false, false, false, false, false, false, false] rfl rfl (any_of HT_.out (by kernel_rfl)) (fun _ _ _ h => h) (Or.inl ⟨by rfl, ?_⟩) ?_ ?_
       rotate_left
       (focus
       intro w'
       go_simp
       with_reducible rfl
       )
       rotate_left
       (focus
       simp only [Act.put, sA, sB, sC, i64_w, i32_w]
       rfl
       )
       refine pure_ (i := 9) (N := some 90) (v := ?_) (a' := ?_) #[true, false, true, false, false, false, true, false, false, true, false, false, false, false, false, false, false, false, false, false, false] rfl rfl (any_of HT_.out (by kernel_rfl)) (fun _ _ _ h => h) (Or.inl ⟨by rfl, ?_⟩) ?_ ?_
       rotate_left
       (focus
       intro w'
       go_simp
       with_reducible rfl
       )
       rotate_left
       (focus
       simp only [Act.put, sA, sB, sC, i64_w, i32_w]
       rfl
       )
       refine pure_ (i := 11) (N := some 92) (v := ?_) (a' := ?_) #[true, false, true, false, false, false, true, false, false, true, false, true, false, false, false, false, false, false, false, false, false] rfl rfl (any_of HT_.out (by kernel_rfl)) (fun _ _ _ h => h) (Or.inl ⟨by rfl, ?_⟩) ?_ ?_
       rotate_left
       (focus
       intro w'
       go_simp
       with_reducible rfl
       )
       rotate_left
       (focus
       simp only [Act.put, sA, sB, sC, i64_w, i32_w]
       rfl
       )
       refine pure_ (i := 15) (N := some 96) (v := ?_) (a' := ?_) #[true, false, true, false, false, false, true, false, false, true, false, true, false, false, false, true, false, false, false, false, false] rfl rfl (any_of HT_.out (by kernel_rfl)) (fun _ _ _ h => h) (Or.inl ⟨by rfl, ?_⟩) ?_ ?_
       rotate_left
       (focus
       intro w'
       go_simp
       with_reducible rfl
       )
       rotate_left
       (focus
       simp only [Act.put, sA, sB, sC, i64_w, i32_w]
       rfl
       )
       refine take_ (i := 1) (N := some 82) (v := ?_) (a' := ?_) #[true, true, true, false, false, false, true, false, false, true, false, true, false, false, false, true, false, false, false, false, false] rfl rfl (take_ofW HT_.out HW_.out (by kernel_rfl)) (fun _ _ _ h => h) (Or.inl ⟨by rfl, ?_⟩) hHeld ?_ ?_
       rotate_left
       (focus
       rintro w' ⟨s0, s1, s2, s3, s4, s5, s6, s7, s8, s9, s10, s11, s12, s13⟩
       go_simp
       with_reducible rfl
       )
       rotate_left
       (focus
       simp only [Act.put, sA, sB, sC, i64_w, i32_w]
       rfl
       )
       refine take_ (i := 3) (N := some 84) (v := ?_) (a' := ?_) #[true, true, true, true, false, false, true, false, false, true, false, true, false, false, false, true, false, false, false, false, false] rfl rfl (take_ofW HT_.out HW_.out (by kernel_rfl)) (fun _ _ _ h => h) (Or.inl ⟨by rfl, ?_⟩) hHeld ?_ ?_
       rotate_left
       (focus
       rintro w' ⟨s0, s1, s2, s3, s4, s5, s6, s7, s8, s9, s10, s11, s12, s13⟩
       go_simp
       with_reducible rfl
       )
       rotate_left
       (focus
       simp only [Act.put, sA, sB, sC, i64_w, i32_w]
       rfl
       )
       refine pure_ (i := 4) (N := some 85) (v := ?_) (a' := ?_) #[true, true, true, true, true, false, true, false, false, true, false, true, false, false, false, true, false, false, false, false, false] rfl rfl (any_of HT_.out (by kernel_rfl)) (fun _ _ _ h => h) (Or.inl ⟨by rfl, ?_⟩) ?_ ?_
       rotate_left
       (focus
       intro w'
       go_simp
       with_reducible rfl
       )
       rotate_left
       (focus
       simp only [Act.put, sA, sB, sC, i64_w, i32_w]
       rfl
       )
       refine take_ (i := 5) (N := some 86) (v := ?_) (a' := ?_) #[true, true, true, true, true, true, true, false, false, true, false, true, false, false, false, true, false, false, false, false, false] rfl rfl (take_ofW HT_.out HW_.out (by kernel_rfl)) (fun _ _ _ h => h) (Or.inl ⟨by rfl, ?_⟩) hHeld ?_ ?_
       rotate_left
       (focus
       rintro w' ⟨s0, s1, s2, s3, s4, s5, s6, s7, s8, s9, s10, s11, s12, s13⟩
       go_simp
       with_reducible rfl
       )
       rotate_left
       (focus
       simp only [Act.put, sA, sB, sC, i64_w, i32_w]
       rfl
       )
       refine pure_ (i := 7) (N := some 88) (v := ?_) (a' := ?_) #[true, true, true, true, true, true, true, true, false, true, false, true, false, false, false, true, false, false, false, false, false] rfl rfl (any_of HT_.out (by kernel_rfl)) (fun _ _ _ h => h) (Or.inl ⟨by rfl, ?_⟩) ?_ ?_
       rotate_left
       (focus
       intro w'
       go_simp
       with_reducible rfl
       )
       rotate_left
       (focus
       simp only [Act.put, sA, sB, sC, i64_w, i32_w]
       rfl
       )
       refine take_ (i := 8) (N := some 89) (v := ?_) (a' := ?_) #[true, true, true, true, true, true, true, true, true, true, false, true, false, false, false, true, false, false, false, false, false] rfl rfl (take_ofW HT_.out HW_.out (by kernel_rfl)) (fun _ _ _ h => h) (Or.inl ⟨by rfl, ?_⟩) hHeld ?_ ?_
       rotate_left
       (focus
       rintro w' ⟨s0, s1, s2, s3, s4, s5, s6, s7, s8, s9, s10, s11, s12, s13⟩
       go_simp
       with_reducible rfl
       )
       rotate_left
       (focus
       simp only [Act.put, sA, sB, sC, i64_w, i32_w]
       rfl
       )
       refine take_ (i := 10) (N := some 91) (v := ?_) (a' := ?_) #[true, true, true, true, true, true, true, true, true, true, true, true, false, false, false, true, false, false, false, false, false] rfl rfl (take_ofW HT_.out HW_.out (by kernel_rfl)) (fun _ _ _ h => h) (Or.inl ⟨by rfl, ?_⟩) hHeld ?_ ?_
       rotate_left
       (focus
       rintro w' ⟨s0, s1, s2, s3, s4, s5, s6, s7, s8, s9, s10, s11, s12, s13⟩
       go_simp
       with_reducible rfl
       )
       rotate_left
       (focus
       simp only [Act.put, sA, sB, sC, i64_w, i32_w]
       rfl
       )
       refine take_ (i := 12) (N := some 93) (v := ?_) (a' := ?_) #[true, true, true, true, true, true, true, true, true, true, true, true, true, false, false, true, false, false, false, false, false] rfl rfl (take_ofW HT_.out HW_.out (by kernel_rfl)) (fun _ _ _ h => h) (Or.inl ⟨by rfl, ?_⟩) hHeld ?_ ?_
       rotate_left
       (focus
       rintro w' ⟨s0, s1, s2, s3, s4, s5, s6, s7, s8, s9, s10, s11, s12, s13⟩
       go_simp
       with_reducible rfl
       )
       rotate_left
       (focus
       simp only [Act.put, sA, sB, sC, i64_w, i32_w]
       rfl
       )
       refine pure_ (i := 13) (N := some 94) (v := ?_) (a' := ?_) #[true, true, true, true, true, true, true, true, true, true, true, true, true, true, false, true, false, false, false, false, false] rfl rfl (any_of HT_.out (by kernel_rfl)) (fun _ _ _ h => h) (Or.inl ⟨by rfl, ?_⟩) ?_ ?_
       rotate_left
       (focus
       intro w'
       go_simp
       with_reducible rfl
       )
       rotate_left
       (focus
       simp only [Act.put, sA, sB, sC, i64_w, i32_w]
       rfl
       )
       refine take_ (i := 14) (N := some 95) (v := ?_) (a' := ?_) #[true, true, true, true, true, true, true, true, true, true, true, true, true, true, true, true, false, false, false, false, false] rfl rfl (take_ofW HT_.out HW_.out (by kernel_rfl)) (fun _ _ _ h => h) (Or.inl ⟨by rfl, ?_⟩) hHeld ?_ ?_
       rotate_left
       (focus
       rintro w' ⟨s0, s1, s2, s3, s4, s5, s6, s7, s8, s9, s10, s11, s12, s13⟩
       go_simp
       with_reducible rfl
       )
       rotate_left
       (focus
       simp only [Act.put, sA, sB, sC, i64_w, i32_w]
       rfl
       )
       refine pure_ (i := 16) (N := some 97) (v := ?_) (a' := ?_) #[true, true, true, true, true, true, true, true, true, true, true, true, true, true, true, true, true, false, false, false, false] rfl rfl (any_of HT_.out (by kernel_rfl)) (fun _ _ _ h => h) (Or.inl ⟨by rfl, ?_⟩) ?_ ?_
       rotate_left
       (focus
       intro w'
       go_simp
       with_reducible rfl
       )
       rotate_left
       (focus
       simp only [Act.put, sA, sB, sC, i64_w, i32_w]
       rfl
       )
       refine take_ (i := 17) (N := some 98) (v := ?_) (a' := ?_) #[true, true, true, true, true, true, true, true, true, true, true, true, true, true, true, true, true, true, false, false, false] rfl rfl (take_ofW HT_.out HW_.out (by kernel_rfl)) (fun _ _ _ h => h) (Or.inl ⟨by rfl, ?_⟩) hHeld ?_ ?_
       rotate_left
       (focus
       rintro w' ⟨s0, s1, s2, s3, s4, s5, s6, s7, s8, s9, s10, s11, s12, s13⟩
       go_simp
       with_reducible rfl
       )
       rotate_left
       (focus
       simp only [Act.put, sA, sB, sC, i64_w, i32_w]
       rfl
       )
       refine pure_ (i := 18) (N := some 99) (v := ?_) (a' := ?_) #[true, true, true, true, true, true, true, true, true, true, true, true, true, true, true, true, true, true, true, false, false] rfl rfl (any_of HT_.out (by kernel_rfl)) (fun _ _ _ h => h) (Or.inl ⟨by rfl, ?_⟩) ?_ ?_
       rotate_left
       (focus
       intro w'
       go_simp
       with_reducible rfl
       )
       rotate_left
       (focus
       simp only [Act.put, sA, sB, sC, i64_w, i32_w]
       rfl
       )
       refine one_ (i := 19) (N := some 17) #[true, true, true, true, true, true, true, true, true, true, true, true, true, true, true, true, true, true, true, true, false] rfl rfl (one_of HT_.out (by kernel_rfl)) (by decide) (fun K hK => ?_)
       refine box_step ?hg (N := 17) ?hd (cs := #[.int .i64 0, .int .i64 0]) (t := 64) ?hr ?_; (case hd => rfl); (case hg => rfl); (case hr => first | (go_simp; done) | (go_simp; rfl))
       intro gb219 hg w128 hbox hb
       have n0_ := aM (Kd.R_below (Kd.R_elderB (uR HO_11.out) gb219 (Nat.le_of_eq hg.symm)) hb)
       have n1_ := aM (Kd.R_below (uR HO_15.out) hb)
       have n2_ := aM (Kd.R_below (uR HO_210002.out) hb)
       have n3_ := aM (Kd.S_below (by (with_reducible repeat (first | apply Kd.S_alloc | apply Kd.S_drewN | apply Kd.S_drew)); exact HO_210003.out) hb)
       have n4_ := aM (blk_below (uB BK199.out) hb)
       have n5_ := aM (blk_below (uB BK200.out) hb)
       have n6_ := aM (blk_below (uB BK201.out) hb)
       have n7_ := aM (blk_below (g := gb204) (o := mapO ek64 (Value.int .i64) x205000_3) (uB BK204.out) hb)
       have n8_ := aM (blk_below (uB BK209.out) hb)
       have n9_ := aM (blk_below (uB BK211.out) hb)
       have n10_ := aM (below_step (by repeat (first | (with_reducible first | exact HB.out | apply bA | apply bN | apply bD | refine bS ?_ ‹_›) | exact HB.out)) hb)
       have n11_ := aM (hbox)
       have n12_ := aM ((by rw [hg]; exact (below_size (by repeat (first | (with_reducible first | exact HB.out | apply bA | apply bN | apply bD | refine bS ?_ ‹_›) | exact HB.out))) : w.heap.size ≤ gb219))
       have n13_ := aM ((by rw [hg]; exact (below_size (by repeat (first | (with_reducible first | exact HB.out | apply bA | apply bN | apply bD | refine bS ?_ ‹_›) | exact HB.out))) : w.heap.size ≤ gb219))
       have n14_ := aM ((by rw [hg]; exact Nat.ne_of_lt (blk_lt (uB BK199.out)) : gb199 ≠ gb219))
       have n15_ := aM ((by rw [hg]; exact Nat.ne_of_gt (blk_lt (uB BK199.out)) : gb219 ≠ gb199))
       have n16_ := aM ((by rw [hg]; exact Nat.ne_of_lt (blk_lt (uB BK200.out)) : gb200 ≠ gb219))
       have n17_ := aM ((by rw [hg]; exact Nat.ne_of_gt (blk_lt (uB BK200.out)) : gb219 ≠ gb200))
       have n18_ := aM ((by rw [hg]; exact Nat.ne_of_lt (blk_lt (uB BK201.out)) : gb201 ≠ gb219))
       have n19_ := aM ((by rw [hg]; exact Nat.ne_of_gt (blk_lt (uB BK201.out)) : gb219 ≠ gb201))
       have n20_ := aM ((by rw [hg]; exact Nat.ne_of_lt (blk_lt (g := gb204) (o := mapO ek64 (Value.int .i64) x205000_3) (uB BK204.out)) : gb204 ≠ gb219))
       have n21_ := aM ((by rw [hg]; exact Nat.ne_of_gt (blk_lt (g := gb204) (o := mapO ek64 (Value.int .i64) x205000_3) (uB BK204.out)) : gb219 ≠ gb204))
       have n22_ := aM ((by rw [hg]; exact Nat.ne_of_lt (blk_lt (uB BK209.out)) : gb209 ≠ gb219))
       have n23_ := aM ((by rw [hg]; exact Nat.ne_of_gt (blk_lt (uB BK209.out)) : gb219 ≠ gb209))
       have n24_ := aM ((by rw [hg]; exact Nat.ne_of_lt (blk_lt (uB BK211.out)) : gb211 ≠ gb219))
       have n25_ := aM ((by rw [hg]; exact Nat.ne_of_gt (blk_lt (uB BK211.out)) : gb219 ≠ gb211))
       clear HO_11
       clear HO_15
       clear HO_210002
       clear HO_210003
       clear BK199
       clear BK200
       clear BK201
       clear BK204
       clear BK209
       clear BK211
       clear HB
       have HO_11 := n0_
       have HO_15 := n1_
       have HO_210002 := n2_
       have HO_210003 := n3_
       have BK199 := n4_
       have BK200 := n5_
       have BK201 := n6_
       have BK204 := n7_
       have BK209 := n8_
       have BK211 := n9_
       have HB := n10_
       have BK219 := n11_
       have GW219 := n12_
       have GE219 := n13_
       have NB199_219 := n14_
       have NB219_199 := n15_
       have NB200_219 := n16_
       have NB219_200 := n17_
       have NB201_219 := n18_
       have NB219_201 := n19_
       have NB204_219 := n20_
       have NB219_204 := n21_
       have NB209_219 := n22_
       have NB219_209 := n23_
       have NB211_219 := n24_
       have NB219_211 := n25_
       clear n0_ n1_ n2_ n3_ n4_ n5_ n6_ n7_ n8_ n9_ n10_ n11_ n12_ n13_ n14_ n15_ n16_ n17_ n18_ n19_ n20_ n21_ n22_ n23_ n24_ n25_
       clear hb hbox hg
       refine hK.out _ _ ⟨(blk_cell BK199.out 0).trans rfl, (blk_cell BK199.out 1).trans rfl, (blk_cell BK199.out 2).trans rfl, (blk_cell BK199.out 3).trans rfl, (blk_cell BK211.out 0).trans rfl, (blk_cell BK211.out 1).trans rfl, (blk_cell BK200.out 0).trans rfl, (blk_cell BK200.out 1).trans rfl, (blk_cell BK200.out 2).trans rfl, (blk_cell BK200.out 3).trans rfl, ((HB.out.cell (World.block_lt_of_cell? w _ hw215_0)).trans hw215_0), ((HB.out.cell (World.block_lt_of_cell? w _ hw216_0)).trans hw216_0), ((HB.out.cell (World.block_lt_of_cell? w _ hw217_0)).trans hw217_0), ((HB.out.cell (World.block_lt_of_cell? w _ hw218_0)).trans hw218_0)⟩ (fun hHeld => ?_)
       clear hK K
       refine norm_ (a' := ?_) ?_ ?_
       rotate_left
       (focus
       show Act.put _ (some 17) _ = _
       simp only [Act.put, sA, sB, sC, i64_w, i32_w]
       rfl
       )
       refine one_ (i := 20) (N := none) #[true, true, true, true, true, true, true, true, true, true, true, true, true, true, true, true, true, true, true, true, true] rfl rfl (one_of HT_.out (by kernel_rfl)) (by decide) (fun K hK => ?_)
       have hs129 : w128.cell? ⟨gb219, 0, none⟩ = some (.int .i64 0) := (blk_cell BK219.out 0).trans rfl
       have hfs129 := blk_frozen BK219.out 0
       have hns129_0 := NB199_219.out
       have hns129_1 := NB200_219.out
       have hns129_2 := NB201_219.out
       have hns129_3 := NB204_219.out
       have hns129_4 := NB209_219.out
       have hns129_5 := NB211_219.out
       have hms129_0 := NB219_199.out
       have hms129_1 := NB219_200.out
       have hms129_2 := NB219_201.out
       have hms129_3 := NB219_204.out
       have hms129_4 := NB219_209.out
       have hms129_5 := NB219_211.out
       have hs130 : w128.cell? ⟨gb219, 1, none⟩ = some (.int .i64 0) := (blk_cell BK219.out 1).trans rfl
       have hfs130 := blk_frozen BK219.out 1
       have hns130_0 := NB199_219.out
       have hns130_1 := NB200_219.out
       have hns130_2 := NB201_219.out
       have hns130_3 := NB204_219.out
       have hns130_4 := NB209_219.out
       have hns130_5 := NB211_219.out
       have hms130_0 := NB219_199.out
       have hms130_1 := NB219_200.out
       have hms130_2 := NB219_201.out
       have hms130_3 := NB219_204.out
       have hms130_4 := NB219_209.out
       have hms130_5 := NB219_211.out
       refine skip_ (w1 := ?_) (by rfl) rfl ?_ ?_
       rotate_left
       (focus
       go_simp
       rfl
       )
       refine hK.out _ _ ⟨((cell_far (p := ⟨gb219, _, none⟩) NB199_219.out _).trans (((cell_far (p := ⟨gb219, _, none⟩) NB199_219.out _).trans (hHeld.1)))), ((cell_far (p := ⟨gb219, _, none⟩) NB199_219.out _).trans (((cell_far (p := ⟨gb219, _, none⟩) NB199_219.out _).trans (hHeld.2.1)))), ((cell_far (p := ⟨gb219, _, none⟩) NB199_219.out _).trans (((cell_far (p := ⟨gb219, _, none⟩) NB199_219.out _).trans (hHeld.2.2.1)))), ((cell_far (p := ⟨gb219, _, none⟩) NB199_219.out _).trans (((cell_far (p := ⟨gb219, _, none⟩) NB199_219.out _).trans (hHeld.2.2.2.1)))), ((cell_far (p := ⟨gb219, _, none⟩) NB211_219.out _).trans (((cell_far (p := ⟨gb219, _, none⟩) NB211_219.out _).trans (hHeld.2.2.2.2.1)))), ((cell_far (p := ⟨gb219, _, none⟩) NB211_219.out _).trans (((cell_far (p := ⟨gb219, _, none⟩) NB211_219.out _).trans (hHeld.2.2.2.2.2.1)))), ((cell_far (p := ⟨gb219, _, none⟩) NB200_219.out _).trans (((cell_far (p := ⟨gb219, _, none⟩) NB200_219.out _).trans (hHeld.2.2.2.2.2.2.1)))), ((cell_far (p := ⟨gb219, _, none⟩) NB200_219.out _).trans (((cell_far (p := ⟨gb219, _, none⟩) NB200_219.out _).trans (hHeld.2.2.2.2.2.2.2.1)))), ((cell_far (p := ⟨gb219, _, none⟩) NB200_219.out _).trans (((cell_far (p := ⟨gb219, _, none⟩) NB200_219.out _).trans (hHeld.2.2.2.2.2.2.2.2.1)))), ((cell_far (p := ⟨gb219, _, none⟩) NB200_219.out _).trans (((cell_far (p := ⟨gb219, _, none⟩) NB200_219.out _).trans (hHeld.2.2.2.2.2.2.2.2.2.1)))), ((cell_far (p := ⟨gb219, _, none⟩) (by first | exact nl1 hw215_0 GW219.out | exact nl2 hw215_0 GW219.out | exact nl3 hw215_0 GW219.out | (dsimp only; exact Nat.ne_of_lt (Nat.lt_of_lt_of_le (by have := World.block_lt_of_cell? _ _ hw215_0; first | rwa [add_block] at this | exact this) GW219.out))) _).trans (((cell_far (p := ⟨gb219, _, none⟩) (by first | exact nl1 hw215_0 GW219.out | exact nl2 hw215_0 GW219.out | exact nl3 hw215_0 GW219.out | (dsimp only; exact Nat.ne_of_lt (Nat.lt_of_lt_of_le (by have := World.block_lt_of_cell? _ _ hw215_0; first | rwa [add_block] at this | exact this) GW219.out))) _).trans (hHeld.2.2.2.2.2.2.2.2.2.2.1)))), ((cell_far (p := ⟨gb219, _, none⟩) (by first | exact nl1 hw216_0 GW219.out | exact nl2 hw216_0 GW219.out | exact nl3 hw216_0 GW219.out | (dsimp only; exact Nat.ne_of_lt (Nat.lt_of_lt_of_le (by have := World.block_lt_of_cell? _ _ hw216_0; first | rwa [add_block] at this | exact this) GW219.out))) _).trans (((cell_far (p := ⟨gb219, _, none⟩) (by first | exact nl1 hw216_0 GW219.out | exact nl2 hw216_0 GW219.out | exact nl3 hw216_0 GW219.out | (dsimp only; exact Nat.ne_of_lt (Nat.lt_of_lt_of_le (by have := World.block_lt_of_cell? _ _ hw216_0; first | rwa [add_block] at this | exact this) GW219.out))) _).trans (hHeld.2.2.2.2.2.2.2.2.2.2.2.1)))), ((cell_far (p := ⟨gb219, _, none⟩) (by first | exact nl1 hw217_0 GW219.out | exact nl2 hw217_0 GW219.out | exact nl3 hw217_0 GW219.out | (dsimp only; exact Nat.ne_of_lt (Nat.lt_of_lt_of_le (by have := World.block_lt_of_cell? _ _ hw217_0; first | rwa [add_block] at this | exact this) GW219.out))) _).trans (((cell_far (p := ⟨gb219, _, none⟩) (by first | exact nl1 hw217_0 GW219.out | exact nl2 hw217_0 GW219.out | exact nl3 hw217_0 GW219.out | (dsimp only; exact Nat.ne_of_lt (Nat.lt_of_lt_of_le (by have := World.block_lt_of_cell? _ _ hw217_0; first | rwa [add_block] at this | exact this) GW219.out))) _).trans (hHeld.2.2.2.2.2.2.2.2.2.2.2.2.1)))), ((cell_far (p := ⟨gb219, _, none⟩) (by first | exact nl1 hw218_0 GW219.out | exact nl2 hw218_0 GW219.out | exact nl3 hw218_0 GW219.out | (dsimp only; exact Nat.ne_of_lt (Nat.lt_of_lt_of_le (by have := World.block_lt_of_cell? _ _ hw218_0; first | rwa [add_block] at this | exact this) GW219.out))) _).trans (((cell_far (p := ⟨gb219, _, none⟩) (by first | exact nl1 hw218_0 GW219.out | exact nl2 hw218_0 GW219.out | exact nl3 hw218_0 GW219.out | (dsimp only; exact Nat.ne_of_lt (Nat.lt_of_lt_of_le (by have := World.block_lt_of_cell? _ _ hw218_0; first | rwa [add_block] at this | exact this) GW219.out))) _).trans (hHeld.2.2.2.2.2.2.2.2.2.2.2.2.2))))⟩ (fun hHeld => ?_)
       clear hK K
       refine done_ (done_of HT_.out (by kernel_rfl)) ?_
       have hnb131 := NB219_199.out
       have hnc131 := NB199_219.out
       have hnb132 := NB219_200.out
       have hnc132 := NB200_219.out
       have hnb133 := NB219_201.out
       have hnc133 := NB201_219.out
       have hnb134 := NB219_204.out
       have hnc134 := NB204_219.out
       have hnb135 := NB219_209.out
       have hnc135 := NB209_219.out
       have hnb136 := NB219_211.out
       have hnc136 := NB211_219.out
       have hcz137_0 : w128.cell? ⟨gb219, 0, none⟩ = some (.int .i64 0) := (blk_cell BK219.out 0).trans rfl
       have hcz137_1 : w128.cell? ⟨gb219, 1, none⟩ = some (.int .i64 0) := (blk_cell BK219.out 1).trans rfl
       have hfz137_0 := blk_frozen BK219.out 0
       have hfz137_1 := blk_frozen BK219.out 1
       obtain ⟨Ao138, co138, eo138⟩ := Kd.R_slice HO_11.out
       subst eo138
       try go_wp2_with (first | ((with_reducible refine gate_dst (N := 103) rfl ?_); at_lookup; refine wp_lookOk rfl _ _ _ rfl 64 3 keyOk64 Try.underlying65 gb204 x205000_3 (show _ = some (mapO ek64 (Value.int .i64) x205000_3) from by (with_reducible repeat (first | refine kN ?_ | refine kD ?_ | refine kA ?_)); refine blkF ?_ NB204_219.out _; (with_reducible repeat (first | refine kN ?_ | refine kD ?_ | refine kA ?_)); refine blkF ?_ NB204_219.out _; (with_reducible repeat (first | refine kN ?_ | refine kD ?_ | refine kA ?_)); exact BK204.out) rfl (⟨rd (rd_L1 l0_3 ((rd_T64 x11_2 x13_2).f0)) x78_3, rd (rd_L1 l1_3 ((rd_T64 x11_2 x13_2).f1)) x78_3⟩ : S64) rfl 0 (zv3 _) ?_) | (at_mapUpdate; refine wp_putM rfl _ _ _ 65 (.inl rfl) 64 3 keyOk64 Try.underlying65 gb204 x205000_3 (show _ = some (mapO ek64 (Value.int .i64) x205000_3) from by (with_reducible repeat (first | refine kN ?_ | refine kD ?_ | refine kA ?_)); refine blkF ?_ NB204_219.out _; (with_reducible repeat (first | refine kN ?_ | refine kD ?_ | refine kA ?_)); refine blkF ?_ NB204_219.out _; (with_reducible repeat (first | refine kN ?_ | refine kD ?_ | refine kA ?_)); exact BK204.out) rfl (⟨rd (rd_L1 l0_3 ((rd_T64 x11_2 x13_2).f0)) x78_3, rd (rd_L1 l1_3 ((rd_T64 x11_2 x13_2).f1)) x78_3⟩ : S64) rfl (x11_3.length : Int) rfl ?_; intro w139 hbox hg; rw [← Ny221.out] at hbox; have n0_ := aM (R_overM (uR ((Kd.R_mono (Kd.R_far (p := ⟨gb219, 1, none⟩) (Kd.R_far (p := ⟨gb219, 0, none⟩) (Kd.R_mono HO_11.out (fun k_ hk => (⟨hk, hk.2⟩ : _ ∧ k_ ≠ gb219))) (fun _ hk => hk.2) (.int .i64 (rd (rd_L1 l0_3 ((rd_T64 x11_2 x13_2).f0)) x78_3))) (fun _ hk => hk.2) (.int .i64 (rd (rd_L1 l1_3 ((rd_T64 x11_2 x13_2).f1)) x78_3))) (fun _ h_ => h_.1)))) (show _ = some (mapO ek64 (Value.int .i64) x205000_3) from by (with_reducible repeat (first | refine kN ?_ | refine kD ?_ | refine kA ?_)); refine blkF ?_ NB204_219.out _; (with_reducible repeat (first | refine kN ?_ | refine kD ?_ | refine kA ?_)); refine blkF ?_ NB204_219.out _; (with_reducible repeat (first | refine kN ?_ | refine kD ?_ | refine kA ?_)); exact BK204.out) hg); have n1_ := aM (R_overM (uR ((Kd.R_mono (Kd.R_far (p := ⟨gb219, 1, none⟩) (Kd.R_far (p := ⟨gb219, 0, none⟩) (Kd.R_types HO_15.out BK219.out (by decide)) (fun _ hk => hk.2) (.int .i64 (rd (rd_L1 l0_3 ((rd_T64 x11_2 x13_2).f0)) x78_3))) (fun _ hk => hk.2) (.int .i64 (rd (rd_L1 l1_3 ((rd_T64 x11_2 x13_2).f1)) x78_3))) (fun _ h_ => h_.1)))) (show _ = some (mapO ek64 (Value.int .i64) x205000_3) from by (with_reducible repeat (first | refine kN ?_ | refine kD ?_ | refine kA ?_)); refine blkF ?_ NB204_219.out _; (with_reducible repeat (first | refine kN ?_ | refine kD ?_ | refine kA ?_)); refine blkF ?_ NB204_219.out _; (with_reducible repeat (first | refine kN ?_ | refine kD ?_ | refine kA ?_)); exact BK204.out) hg); have n2_ := aM (R_overM (uR ((Kd.R_mono (Kd.R_far (p := ⟨gb219, 1, none⟩) (Kd.R_far (p := ⟨gb219, 0, none⟩) (Kd.R_types HO_210002.out BK219.out (by decide)) (fun _ hk => hk.2) (.int .i64 (rd (rd_L1 l0_3 ((rd_T64 x11_2 x13_2).f0)) x78_3))) (fun _ hk => hk.2) (.int .i64 (rd (rd_L1 l1_3 ((rd_T64 x11_2 x13_2).f1)) x78_3))) (fun _ h_ => h_.1)))) (show _ = some (mapO ek64 (Value.int .i64) x205000_3) from by (with_reducible repeat (first | refine kN ?_ | refine kD ?_ | refine kA ?_)); refine blkF ?_ NB204_219.out _; (with_reducible repeat (first | refine kN ?_ | refine kD ?_ | refine kA ?_)); refine blkF ?_ NB204_219.out _; (with_reducible repeat (first | refine kN ?_ | refine kD ?_ | refine kA ?_)); exact BK204.out) hg); have n3_ := aM (S_overM (by (with_reducible repeat (first | apply Kd.S_alloc | apply Kd.S_drewN | apply Kd.S_drew)); exact (Kd.S_mono (Kd.S_far (p := ⟨gb219, 1, none⟩) (Kd.S_far (p := ⟨gb219, 0, none⟩) (Kd.S_types HO_210003.out BK219.out (by decide)) (fun _ hk => hk.2) (.int .i64 (rd (rd_L1 l0_3 ((rd_T64 x11_2 x13_2).f0)) x78_3))) (fun _ hk => hk.2) (.int .i64 (rd (rd_L1 l1_3 ((rd_T64 x11_2 x13_2).f1)) x78_3))) (fun _ h_ => h_.1))) (show _ = some (mapO ek64 (Value.int .i64) x205000_3) from by (with_reducible repeat (first | refine kN ?_ | refine kD ?_ | refine kA ?_)); refine blkF ?_ NB204_219.out _; (with_reducible repeat (first | refine kN ?_ | refine kD ?_ | refine kA ?_)); refine blkF ?_ NB204_219.out _; (with_reducible repeat (first | refine kN ?_ | refine kD ?_ | refine kA ?_)); exact BK204.out) hg); have n4_ := aM (blk_grown (g := gb199) (o := .cells #[.int .i64 a0_0, .int .i64 a0_1, .slice A0_2 l0_2.length c0_2, .slice (some ad215) l0_3.length c0_3] 25 (0, 0)) (by (with_reducible repeat (first | refine kN ?_ | refine kD ?_ | refine kA ?_ | refine blk_far ?_ NB199_219.out _)); exact BK199.out) hg (fun e_ => NB199_204.out (Option.some.inj e_))); have n5_ := aM (blk_grown (g := gb200) (o := .cells #[.int .i64 a1_0, .int .i64 a1_1, .slice A1_2 l1_2.length c1_2, .slice (some ad217) l1_3.length c1_3] 25 (0, 0)) (by (with_reducible repeat (first | refine kN ?_ | refine kD ?_ | refine kA ?_ | refine blk_far ?_ NB200_219.out _)); exact BK200.out) hg (fun e_ => NB200_204.out (Option.some.inj e_))); have n6_ := aM (blk_grown (g := gb201) (o := .cells #[.int .i64 x202000_3, .int .i64 x202001_3, .slice none 0 0, .slice none 0 0] 25 (0, 0)) (by (with_reducible repeat (first | refine kN ?_ | refine kD ?_ | refine kA ?_ | refine blk_far ?_ NB201_219.out _)); exact BK201.out) hg (fun e_ => NB201_204.out (Option.some.inj e_))); have n7_ := aM (hbox); have n8_ := aM (blk_grown (g := gb209) (o := .cells #[.int .i64 a0_0, .int .i64 0, u210002, u210003] 25 (0, 0)) (by (with_reducible repeat (first | refine kN ?_ | refine kD ?_ | refine kA ?_ | refine blk_far ?_ NB209_219.out _)); exact BK209.out) hg (fun e_ => NB209_204.out (Option.some.inj e_))); have n9_ := aM (blk_grown (g := gb211) (o := .cells #[.int .i64 ((rd_T64 x11_2 x13_2).f0), .int .i64 ((rd_T64 x11_2 x13_2).f1)] 64 (0, 0)) (by (with_reducible repeat (first | refine kN ?_ | refine kD ?_ | refine kA ?_ | refine blk_far ?_ NB211_219.out _)); exact BK211.out) hg (fun e_ => NB211_204.out (Option.some.inj e_))); have n10_ := aM (blk_grown (g := gb219) (o := .cells #[.int .i64 (rd (rd_L1 l0_3 ((rd_T64 x11_2 x13_2).f0)) x78_3), .int .i64 (rd (rd_L1 l1_3 ((rd_T64 x11_2 x13_2).f1)) x78_3)] 64 (0, 0)) (by (with_reducible repeat (first | refine kN ?_ | refine kD ?_ | refine kA ?_)); refine blk_put (cs := #[.int .i64 (rd (rd_L1 l0_3 ((rd_T64 x11_2 x13_2).f0)) x78_3), .int .i64 0]) ?_ 1 _ rfl; (with_reducible repeat (first | refine kN ?_ | refine kD ?_ | refine kA ?_)); refine blk_put (cs := #[.int .i64 0, .int .i64 0]) ?_ 0 _ rfl; (with_reducible repeat (first | refine kN ?_ | refine kD ?_ | refine kA ?_)); exact BK219.out) hg (fun e_ => NB219_204.out (Option.some.inj e_))); have n11_ := aM (below_mapO (by repeat (first | (with_reducible first | exact HB.out | apply bA | apply bN | apply bD | refine bS ?_ ‹_›) | exact HB.out)) (below_size (by repeat (first | (with_reducible first | exact HB.out | apply bA | apply bN | apply bD | refine bS ?_ ‹_›) | exact HB.out))) GE204.out hg); clear HO_11; clear HO_15; clear HO_210002; clear HO_210003; clear BK199; clear BK200; clear BK201; clear BK204; clear BK209; clear BK211; clear BK219; clear HB; have HO_11 := n0_; have HO_15 := n1_; have HO_210002 := n2_; have HO_210003 := n3_; have BK199 := n4_; have BK200 := n5_; have BK201 := n6_; have BK204 := n7_; have BK209 := n8_; have BK211 := n9_; have BK219 := n10_; have HB := n11_; clear n0_ n1_ n2_ n3_ n4_ n5_ n6_ n7_ n8_ n9_ n10_ n11_; clear hbox hg; have hcz140_0 : w139.cell? ⟨gb219, 0, none⟩ = some (.int .i64 (rd (rd_L1 l0_3 ((rd_T64 x11_2 x13_2).f0)) x78_3)) := (blk_cell BK219.out 0).trans rfl; have hcz140_1 : w139.cell? ⟨gb219, 1, none⟩ = some (.int .i64 (rd (rd_L1 l1_3 ((rd_T64 x11_2 x13_2).f1)) x78_3)) := (blk_cell BK219.out 1).trans rfl; have hfz140_0 := blk_frozen BK219.out 0; have hfz140_1 := blk_frozen BK219.out 1) | ((with_reducible refine gate_builtin (b := .append) (xs := #[.tmp 117, .tmp 119]) rfl ?_); at_builtin; refine Kd.R_append k64 (w0 := w) w.heap.size rfl (.tmp 117) (.tmp 119) 66 64 (.agg #[(.int .i64 0), (.int .i64 0)]) 16 rfl Try.underlying66 info64 rfl (by decide) (by omega) (.slice Ao138 x11_3.length co138) x11_3 (⟨rd (rd_L1 l0_3 ((rd_T64 x11_2 x13_2).f0)) x78_3, rd (rd_L1 l1_3 ((rd_T64 x11_2 x13_2).f1)) x78_3⟩ : S64) [.int .i64 (rd (rd_L1 l0_3 ((rd_T64 x11_2 x13_2).f0)) x78_3), .int .i64 (rd (rd_L1 l1_3 ((rd_T64 x11_2 x13_2).f1)) x78_3)] (fun k_ => k_ ≠ gb211 ∧ k_ ≠ gb219) (fun _ => False) rfl rfl ?aP (fun _ hk => hk.elim) ?aF ?aO ?aB ?aS ?aL ?_; (case aP => exact k64_mkM _ _ _ (⟨rd (rd_L1 l0_3 ((rd_T64 x11_2 x13_2).f0)) x78_3, rd (rd_L1 l1_3 ((rd_T64 x11_2 x13_2).f1)) x78_3⟩ : S64)); (case aB => exact (by repeat (first | (with_reducible first | exact HB.out | apply bA | apply bN | apply bD | refine bS ?_ ‹_›) | exact HB.out))); (case aF => exact (fun k_ hk => ⟨Kd.freshB (uB BK211.out) k_ hk, Kd.freshB (uB BK219.out) k_ hk⟩)); (case aO => exact (uR HO_11.out)); (case aS => exact (below_size (by repeat (first | (with_reducible first | exact HB.out | apply bA | apply bN | apply bD | refine bS ?_ ‹_›) | exact HB.out)))); (case aL => have := LMc124.out; omega); intro v223 w141 ho hb hg hat; rw [← Ny222.out] at ho; have n0_ := aM (Kd.R_over' (uR HO_15.out) (Kd.R_typed (uR HO_11.out)) (by decide) hg); have n1_ := aM (Kd.R_over' (uR HO_210002.out) (Kd.R_typed (uR HO_11.out)) (by decide) hg); have n2_ := aM (Kd.S_over' (by (with_reducible repeat (first | apply Kd.S_alloc | apply Kd.S_drewN | apply Kd.S_drew)); exact HO_210003.out) (Kd.R_typed (uR HO_11.out)) (by decide) hg); have n3_ := aM (blk_grown (uB BK199.out) hg (Kd.R_ne HO_11.out BK199.out (by decide))); have n4_ := aM (blk_grown (uB BK200.out) hg (Kd.R_ne HO_11.out BK200.out (by decide))); have n5_ := aM (blk_grown (uB BK201.out) hg (Kd.R_ne HO_11.out BK201.out (by decide))); have n6_ := aM (blk_grown (g := gb204) (o := mapO ek64 (Value.int .i64) y221) (uB BK204.out) hg (R_neM HO_11.out BK204.out)); have n7_ := aM (blk_grown (uB BK209.out) hg (Kd.R_ne HO_11.out BK209.out (by decide))); have n8_ := aM (blk_grown (uB BK211.out) hg (Kd.R_away HO_11.out (fun _ hk => hk.1))); have n9_ := aM (blk_grown (uB BK219.out) hg (Kd.R_away HO_11.out (fun _ hk => hk.2))); have n10_ := aM (hb); have n11_ := aM (ho); clear HO_15; clear HO_210002; clear HO_210003; clear BK199; clear BK200; clear BK201; clear BK204; clear BK209; clear BK211; clear BK219; clear HB; clear HO_11; have HO_15 := n0_; have HO_210002 := n1_; have HO_210003 := n2_; have BK199 := n3_; have BK200 := n4_; have BK201 := n5_; have BK204 := n6_; have BK209 := n7_; have BK211 := n8_; have BK219 := n9_; have HB := n10_; have HO224 := n11_; clear n0_ n1_ n2_ n3_ n4_ n5_ n6_ n7_ n8_ n9_ n10_ n11_; clear ho hb hg hat; have p126 : 0 ≤ (x78_3 : Int) := of_decide_eq_true (by assumption); have q126 : (x78_3 : Int) < ((x15_3.length : Int) : Int) := of_decide_eq_true (by assumption); obtain ⟨go126, co126, eo126, gb126, gl126, cl126, HG126⟩ := Kd.R_form HO_15.out (by first | omega | (have e_ := (Kd.R_reads' HO_15.out).1; omega)); (first | cases eo126 | (injection eo126 with ea_ en_ ec_; (first | subst ea_ | (injection ea_ with ea_; subst ea_)); subst ec_; clear en_)); have GB126 := Aside0.mk gb126; have GG126 := Aside0.mk HG126; clear gb126 gl126 HG126; obtain ⟨hx126_0, hf126_0⟩ := Kd.R_celln 0 HO_15.out (x78_3 : Int) p126 q126; replace p126 := eq_true p126; replace q126 := eq_true q126; obtain ⟨hy142_, hz142_⟩ := Kd.R_celln 0 HO_15.out (x78_3 : Int) (of_decide_eq_true (by assumption)) (of_decide_eq_true (by assumption)); have HP142 := Kd.R_putg HO_15.out (x78_3 : Int) (x11_3.length : Int)) | ((with_reducible refine gate_store (t := 3) (p := 124) rfl ?_); refine store_event (t := 3) (p := 124) (v := ?vo_w143) (w1 := (w141.setCell ⟨go126, (x78_3 : Int).toNat, none⟩ (.int .i64 (x11_3.length : Int)))) ?hg ?ho ?hn ?hr ?_; (case ho => rfl); (case hg => rfl); (case hn => rfl); (case hr => first | (go_simp; done) | (go_simp; rfl)); intro w143 hw; have hg : w141.grownBy w143 (some go126) := (by rw [hw]; exact HP142.2); have hp_ : Kd.R (Kd.int .i64) 3 w143 w.heap.size (fun _ => True) (.slice (some ⟨go126, 0, none⟩) x15_3.length co79) y225 := (by rw [hw, Ny225.out]; exact HP142.1); clear HP142; have n0_ := aM (hp_); have n1_ := aM (Kd.R_over' (v := (.slice (some ⟨go126, 0, none⟩) x15_3.length co79)) (uR HO_210002.out) (Kd.R_typed HO_15.out) (by decide) hg); have n2_ := aM (Kd.S_after (v := (.slice (some ⟨go126, 0, none⟩) x15_3.length co79)) (v1 := (.slice (some ⟨go126, 0, none⟩) x15_3.length co79)) (ok := (fun _ => True)) (by (with_reducible repeat (first | apply Kd.S_alloc | apply Kd.S_drewN | apply Kd.S_drew)); exact Kd.S_mono HO_210003.out (fun _ hk => ⟨trivial, hk⟩)) hg (.inl rfl)); have n3_ := aM (blk_grown (uB BK199.out) hg (Kd.R_ne HO_15.out BK199.out (by decide))); have n4_ := aM (blk_grown (uB BK200.out) hg (Kd.R_ne HO_15.out BK200.out (by decide))); have n5_ := aM (blk_grown (uB BK201.out) hg (Kd.R_ne HO_15.out BK201.out (by decide))); have n6_ := aM (blk_grown (g := gb204) (o := mapO ek64 (Value.int .i64) y221) (uB BK204.out) hg (R_neM HO_15.out BK204.out)); have n7_ := aM (blk_grown (uB BK209.out) hg (Kd.R_ne HO_15.out BK209.out (by decide))); have n8_ := aM (blk_grown (uB BK211.out) hg (Kd.R_ne HO_15.out BK211.out (by decide))); have n9_ := aM (blk_grown (uB BK219.out) hg (Kd.R_ne HO_15.out BK219.out (by decide))); have n10_ := aM (Kd.R_over' (v := (.slice (some ⟨go126, 0, none⟩) x15_3.length co79)) (uR HO224.out) (Kd.R_typed HO_15.out) (by decide) hg); have n11_ := aM ((by rw [hw]; exact below_set (HB.out) GB126.out : Below w.heap.size w w143)); clear HO_15; clear HO_210002; clear HO_210003; clear BK199; clear BK200; clear BK201; clear BK204; clear BK209; clear BK211; clear BK219; clear HO224; clear HB; have HO_15 := n0_; have HO_210002 := n1_; have HO_210003 := n2_; have BK199 := n3_; have BK200 := n4_; have BK201 := n5_; have BK204 := n6_; have BK209 := n7_; have BK211 := n8_; have BK219 := n9_; have HO224 := n10_; have HB := n11_; clear n0_ n1_ n2_ n3_ n4_ n5_ n6_ n7_ n8_ n9_ n10_ n11_; clear hg hw hp_))
       (try simp only [← hl15_3])
       go_roundg k3
       case measure => have := HJ7.out; have := HK2.out; have := HK3.out; omega
       case rel => exact ⟨(y222), (y225), (wrap64 (x78_3 + 1)), (x202000_3), (x202001_3), (y221), (by first | rfl | (simp; done) | (simp [*]; done)), H', ⟨by have := HJ7.out; have := HK2.out; have := HK3.out; omega⟩, ⟨by (try simp only [hl15_3]); (with_reducible repeat (first | apply Kd.R_alloc | apply Kd.R_drewN | apply Kd.R_drew)); exact Kd.R_mono HO224.out (fun _ hk => hk.1)⟩, ⟨by (try simp only [hl15_3]); (with_reducible repeat (first | apply Kd.R_alloc | apply Kd.R_drewN | apply Kd.R_drew)); exact HO_15.out⟩, ⟨by (try simp only [hl15_3]); (with_reducible repeat (first | apply Kd.R_alloc | apply Kd.R_drewN | apply Kd.R_drew)); exact HO_210002.out⟩, ⟨by (try simp only [hl15_3]); (with_reducible repeat (first | apply Kd.S_alloc | apply Kd.S_drewN | apply Kd.S_drew)); exact Kd.S_mono HO_210003.out (fun _ hk => hk.2)⟩, ⟨by (try simp only [hl15_3]); (with_reducible repeat (first | refine kN ?_ | refine kD ?_ | refine kA ?_)); exact BK199.out⟩, ⟨by (try simp only [hl15_3]); (with_reducible repeat (first | refine kN ?_ | refine kD ?_ | refine kA ?_)); exact BK200.out⟩, ⟨by (try simp only [hl15_3]); (with_reducible repeat (first | refine kN ?_ | refine kD ?_ | refine kA ?_)); exact BK201.out⟩, ⟨by (try simp only [hl15_3]); (with_reducible repeat (first | refine kN ?_ | refine kD ?_ | refine kA ?_)); exact BK204.out⟩, ⟨by (try simp only [hl15_3]); (with_reducible repeat (first | refine kN ?_ | refine kD ?_ | refine kA ?_)); exact BK209.out⟩, ⟨by (try simp only [hl15_3]); (with_reducible repeat (first | refine kN ?_ | refine kD ?_ | refine kA ?_)); exact BK211.out⟩, ⟨by repeat (first | (with_reducible first | exact HB.out | apply bA | apply bN | apply bD | refine bS ?_ ‹_›) | exact HB.out)⟩⟩
       )
       (focus
       rw [if_neg c125] at H
       exact absurd H (by simp)
       )
       )
       (focus
       rw [if_neg c124] at H
       exact absurd H (by simp)
       )
       )
       )
       )
       (focus
       rw [if_neg c87] at H
       exact absurd H (by simp)
       )
       )
       (focus
       rw [if_neg c86] at H
       exact absurd H (by simp)
       )
       )
       (focus
       rw [if_neg c85] at H
       exact absurd H (by simp)
       )
       )
       (focus
       rw [if_neg c84] at H
       exact absurd H (by simp)
       )
       )
       (focus
       rw [if_neg c83] at H
       exact absurd H (by simp)
       )
       )
       (focus
       rw [if_neg c82] at H
       exact absurd H (by simp)
       )
       )
       (focus
       rw [if_neg c81] at H
       exact absurd H (by simp)
       )
       )
       (focus
       rw [if_neg c80] at H
       have c80b0 : decide (x78_3 < (y212.length : Int)) = false := decide_eq_false c80
       (try (have c80b0_hl15_3 := c80b0; simp only [hl15_3] at c80b0_hl15_3))
       clear c80
       by_cases c144 : 0 ≤ ((rd_T64 x11_2 x13_2).f0)
       (focus
       rw [if_pos c144] at H
       have c144b0 : decide (0 ≤ ((rd_T64 x11_2 x13_2).f0)) = true := decide_eq_true c144
       clear c144
       by_cases c145 : ((rd_T64 x11_2 x13_2).f0) < (l0_2.length : Int)
       (focus
       rw [if_pos c145] at H
       have c145b0 : decide (((rd_T64 x11_2 x13_2).f0) < (l0_2.length : Int)) = true := decide_eq_true c145
       (try (have c145b0_hl15_3 := c145b0; simp only [hl15_3] at c145b0_hl15_3))
       clear c145
       obtain ⟨bq146, hbq146⟩ : ∃ b_ : Bool, b_ = (rdOf false l0_2 ((rd_T64 x11_2 x13_2).f0)) := ⟨_, rfl⟩
       replace H : (if bq146 = true then (if 0 ≤ ((rd_T64 x11_2 x13_2).f1) then (if ((rd_T64 x11_2 x13_2).f1) < (l1_2.length : Int) then (if rdOf false l1_2 ((rd_T64 x11_2 x13_2).f1) = true then (if x210003_2.length < 5864062014805 then (if x210002_2.length < 140737488355328 then (dfa_Product.l0 k3 a2 x11_3 (wrap64 (x13_2 + 1)) a0_0 a0_1 l0_2 l0_3 a1_0 a1_1 l1_2 l1_3 x205000_3 a0_0 0 (x210002_2 ++ [((Go.bits .and .i64 (a2 / 2 ^ ((0 + 2) + 1 : Int).toNat) 1) == 1)]) (x210003_2 ++ [x15_3])) else (none)) else (none)) else (if x210003_2.length < 5864062014805 then (if x210002_2.length < 140737488355328 then (dfa_Product.l0 k3 a2 x11_3 (wrap64 (x13_2 + 1)) a0_0 a0_1 l0_2 l0_3 a1_0 a1_1 l1_2 l1_3 x205000_3 a0_0 0 (x210002_2 ++ [((Go.bits .and .i64 (a2 / 2 ^ (0 + 2 : Int).toNat) 1) == 1)]) (x210003_2 ++ [x15_3])) else (none)) else (none))) else (none)) else (none)) else (if 0 ≤ ((rd_T64 x11_2 x13_2).f1) then (if ((rd_T64 x11_2 x13_2).f1) < (l1_2.length : Int) then (if rdOf false l1_2 ((rd_T64 x11_2 x13_2).f1) = true then (if x210003_2.length < 5864062014805 then (if x210002_2.length < 140737488355328 then (dfa_Product.l0 k3 a2 x11_3 (wrap64 (x13_2 + 1)) a0_0 a0_1 l0_2 l0_3 a1_0 a1_1 l1_2 l1_3 x205000_3 a0_0 0 (x210002_2 ++ [((Go.bits .and .i64 (a2 / 2 ^ (0 + 1 : Int).toNat) 1) == 1)]) (x210003_2 ++ [x15_3])) else (none)) else (none)) else (if x210003_2.length < 5864062014805 then (if x210002_2.length < 140737488355328 then (dfa_Product.l0 k3 a2 x11_3 (wrap64 (x13_2 + 1)) a0_0 a0_1 l0_2 l0_3 a1_0 a1_1 l1_2 l1_3 x205000_3 a0_0 0 (x210002_2 ++ [((Go.bits .and .i64 a2 1) == 1)]) (x210003_2 ++ [x15_3])) else (none)) else (none))) else (none)) else (none))) = some (r1, r2, r3, r4, r5) := by rw [← hbq146] at H; exact H
       have Nbq146 := Aside0.mk hbq146
       clear hbq146
       by_cases c147 : bq146 = true
       (focus
       subst c147
       have H1 : (if 0 ≤ ((rd_T64 x11_2 x13_2).f1) then (if ((rd_T64 x11_2 x13_2).f1) < (l1_2.length : Int) then (if rdOf false l1_2 ((rd_T64 x11_2 x13_2).f1) = true then (if x210003_2.length < 5864062014805 then (if x210002_2.length < 140737488355328 then (dfa_Product.l0 k3 a2 x11_3 (wrap64 (x13_2 + 1)) a0_0 a0_1 l0_2 l0_3 a1_0 a1_1 l1_2 l1_3 x205000_3 a0_0 0 (x210002_2 ++ [((Go.bits .and .i64 (a2 / 2 ^ ((0 + 2) + 1 : Int).toNat) 1) == 1)]) (x210003_2 ++ [x15_3])) else (none)) else (none)) else (if x210003_2.length < 5864062014805 then (if x210002_2.length < 140737488355328 then (dfa_Product.l0 k3 a2 x11_3 (wrap64 (x13_2 + 1)) a0_0 a0_1 l0_2 l0_3 a1_0 a1_1 l1_2 l1_3 x205000_3 a0_0 0 (x210002_2 ++ [((Go.bits .and .i64 (a2 / 2 ^ (0 + 2 : Int).toNat) 1) == 1)]) (x210003_2 ++ [x15_3])) else (none)) else (none))) else (none)) else (none)) = some (r1, r2, r3, r4, r5) := by rw [if_pos rfl] at H; exact H
       clear H
       have H := H1
       clear H1
       by_cases c148 : 0 ≤ ((rd_T64 x11_2 x13_2).f1)
       (focus
       rw [if_pos c148] at H
       have c148b0 : decide (0 ≤ ((rd_T64 x11_2 x13_2).f1)) = true := decide_eq_true c148
       clear c148
       by_cases c149 : ((rd_T64 x11_2 x13_2).f1) < (l1_2.length : Int)
       (focus
       rw [if_pos c149] at H
       have c149b0 : decide (((rd_T64 x11_2 x13_2).f1) < (l1_2.length : Int)) = true := decide_eq_true c149
       (try (have c149b0_hl15_3 := c149b0; simp only [hl15_3] at c149b0_hl15_3))
       clear c149
       obtain ⟨bq150, hbq150⟩ : ∃ b_ : Bool, b_ = (rdOf false l1_2 ((rd_T64 x11_2 x13_2).f1)) := ⟨_, rfl⟩
       replace H : (if bq150 = true then (if x210003_2.length < 5864062014805 then (if x210002_2.length < 140737488355328 then (dfa_Product.l0 k3 a2 x11_3 (wrap64 (x13_2 + 1)) a0_0 a0_1 l0_2 l0_3 a1_0 a1_1 l1_2 l1_3 x205000_3 a0_0 0 (x210002_2 ++ [((Go.bits .and .i64 (a2 / 2 ^ ((0 + 2) + 1 : Int).toNat) 1) == 1)]) (x210003_2 ++ [x15_3])) else (none)) else (none)) else (if x210003_2.length < 5864062014805 then (if x210002_2.length < 140737488355328 then (dfa_Product.l0 k3 a2 x11_3 (wrap64 (x13_2 + 1)) a0_0 a0_1 l0_2 l0_3 a1_0 a1_1 l1_2 l1_3 x205000_3 a0_0 0 (x210002_2 ++ [((Go.bits .and .i64 (a2 / 2 ^ (0 + 2 : Int).toNat) 1) == 1)]) (x210003_2 ++ [x15_3])) else (none)) else (none))) = some (r1, r2, r3, r4, r5) := by rw [← hbq150] at H; exact H
       have Nbq150 := Aside0.mk hbq150
       clear hbq150
       by_cases c151 : bq150 = true
       (focus
       subst c151
       have H1 : (if x210003_2.length < 5864062014805 then (if x210002_2.length < 140737488355328 then (dfa_Product.l0 k3 a2 x11_3 (wrap64 (x13_2 + 1)) a0_0 a0_1 l0_2 l0_3 a1_0 a1_1 l1_2 l1_3 x205000_3 a0_0 0 (x210002_2 ++ [((Go.bits .and .i64 (a2 / 2 ^ ((0 + 2) + 1 : Int).toNat) 1) == 1)]) (x210003_2 ++ [x15_3])) else (none)) else (none)) = some (r1, r2, r3, r4, r5) := by rw [if_pos rfl] at H; exact H
       clear H
       have H := H1
       clear H1
       by_cases c152 : x210003_2.length < 5864062014805
       (focus
       rw [if_pos c152] at H
       have LMc152 := Aside0.mk c152
       clear c152
       obtain ⟨y228, hy228⟩ : ∃ y_ : List (List Int), y_ = (x210003_2 ++ [x15_3]) := ⟨_, rfl⟩
       replace H : (if x210002_2.length < 140737488355328 then (dfa_Product.l0 k3 a2 x11_3 (wrap64 (x13_2 + 1)) a0_0 a0_1 l0_2 l0_3 a1_0 a1_1 l1_2 l1_3 x205000_3 a0_0 0 (x210002_2 ++ [((Go.bits .and .i64 (a2 / 2 ^ ((0 + 2) + 1 : Int).toNat) 1) == 1)]) y228) else (none)) = some (r1, r2, r3, r4, r5) := by first | (rw [hy228]; with_reducible exact H) | (have H2_ := (Option.bind_some _ _).symm.trans H; rw [hy228]; with_reducible exact H2_) | (have H2_ := (Option.bind_some _ _).symm.trans H; with_reducible exact H2_) | with_reducible exact H | (rw [hy228]; exact H) | exact H
       have Ny228 := Aside0.mk hy228
       clear hy228
       by_cases c153 : x210002_2.length < 140737488355328
       (focus
       rw [if_pos c153] at H
       have LMc153 := Aside0.mk c153
       clear c153
       obtain ⟨y231, hy231⟩ : ∃ y_ : List Bool, y_ = (x210002_2 ++ [((Go.bits .and .i64 (a2 / 2 ^ ((0 + 2) + 1 : Int).toNat) 1) == 1)]) := ⟨_, rfl⟩
       replace H : (dfa_Product.l0 k3 a2 x11_3 (wrap64 (x13_2 + 1)) a0_0 a0_1 l0_2 l0_3 a1_0 a1_1 l1_2 l1_3 x205000_3 a0_0 0 y231 y228) = some (r1, r2, r3, r4, r5) := by first | (rw [hy231]; with_reducible exact H) | (have H2_ := (Option.bind_some _ _).symm.trans H; rw [hy231]; with_reducible exact H2_) | (have H2_ := (Option.bind_some _ _).symm.trans H; with_reducible exact H2_) | with_reducible exact H | (rw [hy231]; exact H) | exact H
       have Ny231 := Aside0.mk hy231
       clear hy231
       have H' := Aside0.mk H
       clear H
       have hnb154 := NB199_200.out
       have hnc154 := NB200_199.out
       have hnb155 := NB199_201.out
       have hnc155 := NB201_199.out
       have hnb156 := NB199_204.out
       have hnc156 := NB204_199.out
       have hnb157 := NB199_209.out
       have hnc157 := NB209_199.out
       have hnb158 := NB199_211.out
       have hnc158 := NB211_199.out
       have hcz159_0 : wr.cell? ⟨gb199, 0, none⟩ = some (.int .i64 a0_0) := (blk_cell BK199.out 0).trans rfl
       have hcz159_1 : wr.cell? ⟨gb199, 1, none⟩ = some (.int .i64 a0_1) := (blk_cell BK199.out 1).trans rfl
       have hcz159_2 : wr.cell? ⟨gb199, 2, none⟩ = some (.slice A0_2 l0_2.length c0_2) := (blk_cell BK199.out 2).trans rfl
       have hcz159_3 : wr.cell? ⟨gb199, 3, none⟩ = some (.slice A0_3 l0_3.length c0_3) := (blk_cell BK199.out 3).trans rfl
       have hfz159_0 := blk_frozen BK199.out 0
       have hfz159_1 := blk_frozen BK199.out 1
       have hfz159_2 := blk_frozen BK199.out 2
       have hfz159_3 := blk_frozen BK199.out 3
       have hnb160 := NB211_200.out
       have hnc160 := NB200_211.out
       have hnb161 := NB211_201.out
       have hnc161 := NB201_211.out
       have hnb162 := NB211_204.out
       have hnc162 := NB204_211.out
       have hnb163 := NB211_209.out
       have hnc163 := NB209_211.out
       have hcz164_0 : wr.cell? ⟨gb211, 0, none⟩ = some (.int .i64 ((rd_T64 x11_2 x13_2).f0)) := (blk_cell BK211.out 0).trans rfl
       have hcz164_1 : wr.cell? ⟨gb211, 1, none⟩ = some (.int .i64 ((rd_T64 x11_2 x13_2).f1)) := (blk_cell BK211.out 1).trans rfl
       have hfz164_0 := blk_frozen BK211.out 0
       have hfz164_1 := blk_frozen BK211.out 1
       have p226 : 0 ≤ (((rd_T64 x11_2 x13_2).f0) : Int) := of_decide_eq_true (by assumption)
       have q226 : ((rd_T64 x11_2 x13_2).f0) < (l0_2.length : Int) := of_decide_eq_true (by assumption)
       obtain ⟨ad226, e226, hx226_0⟩ := Kd.at_bool HR0_2.out ((rd_T64 x11_2 x13_2).f0) p226 q226
       (try rw [← Nbq146.out] at hx226_0)
       (try rw [← Nbq150.out] at hx226_0)
       cases e226
       (try replace hx226_0 := (HB.out.cell (World.block_lt_of_cell? w _ hx226_0)).trans hx226_0)
       replace p226 := eq_true p226
       replace q226 := eq_true q226
       have hnb165 := NB200_201.out
       have hnc165 := NB201_200.out
       have hnb166 := NB200_204.out
       have hnc166 := NB204_200.out
       have hnb167 := NB200_209.out
       have hnc167 := NB209_200.out
       have hcz168_0 : wr.cell? ⟨gb200, 0, none⟩ = some (.int .i64 a1_0) := (blk_cell BK200.out 0).trans rfl
       have hcz168_1 : wr.cell? ⟨gb200, 1, none⟩ = some (.int .i64 a1_1) := (blk_cell BK200.out 1).trans rfl
       have hcz168_2 : wr.cell? ⟨gb200, 2, none⟩ = some (.slice A1_2 l1_2.length c1_2) := (blk_cell BK200.out 2).trans rfl
       have hcz168_3 : wr.cell? ⟨gb200, 3, none⟩ = some (.slice A1_3 l1_3.length c1_3) := (blk_cell BK200.out 3).trans rfl
       have hfz168_0 := blk_frozen BK200.out 0
       have hfz168_1 := blk_frozen BK200.out 1
       have hfz168_2 := blk_frozen BK200.out 2
       have hfz168_3 := blk_frozen BK200.out 3
       have p227 : 0 ≤ (((rd_T64 x11_2 x13_2).f1) : Int) := of_decide_eq_true (by assumption)
       have q227 : ((rd_T64 x11_2 x13_2).f1) < (l1_2.length : Int) := of_decide_eq_true (by assumption)
       obtain ⟨ad227, e227, hx227_0⟩ := Kd.at_bool HR1_2.out ((rd_T64 x11_2 x13_2).f1) p227 q227
       (try rw [← Nbq146.out] at hx227_0)
       (try rw [← Nbq150.out] at hx227_0)
       cases e227
       (try replace hx227_0 := (HB.out.cell (World.block_lt_of_cell? w _ hx227_0)).trans hx227_0)
       replace p227 := eq_true p227
       replace q227 := eq_true q227
       have hnb169 := NB209_201.out
       have hnc169 := NB201_209.out
       have hnb170 := NB209_204.out
       have hnc170 := NB204_209.out
       have hcz171_0 : wr.cell? ⟨gb209, 0, none⟩ = some (.int .i64 a0_0) := (blk_cell BK209.out 0).trans rfl
       have hcz171_1 : wr.cell? ⟨gb209, 1, none⟩ = some (.int .i64 0) := (blk_cell BK209.out 1).trans rfl
       have hcz171_2 : wr.cell? ⟨gb209, 2, none⟩ = some (u210002) := (blk_cell BK209.out 2).trans rfl
       have hcz171_3 : wr.cell? ⟨gb209, 3, none⟩ = some (u210003) := (blk_cell BK209.out 3).trans rfl
       have hfz171_0 := blk_frozen BK209.out 0
       have hfz171_1 := blk_frozen BK209.out 1
       have hfz171_2 := blk_frozen BK209.out 2
       have hfz171_3 := blk_frozen BK209.out 3
       go_wp2_with (first | ((with_reducible refine gate_builtin (b := .append) (xs := #[.tmp 143, .tmp 145]) rfl ?_); at_builtin; refine Kd.S_append (Kd.slice 3 (Kd.int .i64)) (w0 := w) w.heap.size rfl (.tmp 143) (.tmp 145) 23 38 (.slice none 0 0) 24 rfl Try.underlying23 info38 rfl (by decide) (by omega) u210003 x210003_2 x15_3 [.slice Ao79 x15_3.length co79] (fun _ => True) (fun k_ => some k_ = (.slice Ao79 x15_3.length co79 : Value).ownBlock) rfl rfl ?aP (fun k_ hk_ => ((Kd.R_mono (ok' := fun k_ => ((fun _ => True)) k_ ∧ some k_ ≠ (u210003 : Value).ownBlock) (Kd.R_apart' (HO_15.out) (Kd.S_typed HO_210003.out) (by decide)) (fun k_ hk => ⟨trivial, hk.2⟩))).1 k_ hk_.symm) ?aF ?aO ?aB ?aS ?aL ?_; (case aP => exact Kd.M_row (Kd.R_mono (Kd.R_tight rfl (Kd.R_mono (ok' := fun k_ => ((fun _ => True)) k_ ∧ some k_ ≠ (u210003 : Value).ownBlock) (Kd.R_apart' (HO_15.out) (Kd.S_typed HO_210003.out) (by decide)) (fun k_ hk => ⟨trivial, hk.2⟩))) (fun _ h_ => h_))); (case aB => exact (by repeat (first | (with_reducible first | exact HB.out | apply bA | apply bN | apply bD | refine bS ?_ ‹_›) | exact HB.out))); (case aF => exact (fun _ _ => trivial)); (case aO => exact (by (with_reducible repeat (first | apply Kd.S_alloc | apply Kd.S_drewN | apply Kd.S_drew)); exact Kd.S_mono HO_210003.out (fun k_ hk => ⟨trivial, fun e_ => hk e_⟩))); (case aS => exact (below_size (by repeat (first | (with_reducible first | exact HB.out | apply bA | apply bN | apply bD | refine bS ?_ ‹_›) | exact HB.out)))); (case aL => have := LMc152.out; omega); intro v229 w172 ho hb hg hat; rw [← Ny228.out] at ho; have n0_ := aM (Kd.R_over' (uR HO_11.out) (Kd.S_typed (by (with_reducible repeat (first | apply Kd.S_alloc | apply Kd.S_drewN | apply Kd.S_drew)); exact HO_210003.out)) (by decide) hg); have n1_ := aM (Kd.R_over' (uR HO_210002.out) (Kd.S_typed (by (with_reducible repeat (first | apply Kd.S_alloc | apply Kd.S_drewN | apply Kd.S_drew)); exact HO_210003.out)) (by decide) hg); have n2_ := aM (blk_grown (uB BK199.out) hg (Kd.S_ne HO_210003.out BK199.out (by decide))); have n3_ := aM (blk_grown (uB BK200.out) hg (Kd.S_ne HO_210003.out BK200.out (by decide))); have n4_ := aM (blk_grown (uB BK201.out) hg (Kd.S_ne HO_210003.out BK201.out (by decide))); have n5_ := aM (blk_grown (g := gb204) (o := mapO ek64 (Value.int .i64) x205000_3) (uB BK204.out) hg (S_neM HO_210003.out BK204.out)); have n6_ := aM (blk_grown (uB BK209.out) hg (Kd.S_ne HO_210003.out BK209.out (by decide))); have n7_ := aM (blk_grown (uB BK211.out) hg (Kd.S_ne HO_210003.out BK211.out (by decide))); have n8_ := aM (hb); have n9_ := aM (ho); clear HO_11; clear HO_210002; clear BK199; clear BK200; clear BK201; clear BK204; clear BK209; clear BK211; clear HB; clear HO_210003; clear HO_15; have HO_11 := n0_; have HO_210002 := n1_; have BK199 := n2_; have BK200 := n3_; have BK201 := n4_; have BK204 := n5_; have BK209 := n6_; have BK211 := n7_; have HB := n8_; have HO230 := n9_; clear n0_ n1_ n2_ n3_ n4_ n5_ n6_ n7_ n8_ n9_; clear ho hb hg hat; obtain ⟨Ao173, co173, eo173⟩ := Kd.S_slice HO230.out; subst eo173; have hcz174_0 : w172.cell? ⟨gb209, 0, none⟩ = some (.int .i64 a0_0) := (blk_cell BK209.out 0).trans rfl; have hcz174_1 : w172.cell? ⟨gb209, 1, none⟩ = some (.int .i64 0) := (blk_cell BK209.out 1).trans rfl; have hcz174_2 : w172.cell? ⟨gb209, 2, none⟩ = some (u210002) := (blk_cell BK209.out 2).trans rfl; have hcz174_3 : w172.cell? ⟨gb209, 3, none⟩ = some (u210003) := (blk_cell BK209.out 3).trans rfl; have hfz174_0 := blk_frozen BK209.out 0; have hfz174_1 := blk_frozen BK209.out 1; have hfz174_2 := blk_frozen BK209.out 2; have hfz174_3 := blk_frozen BK209.out 3) | ((with_reducible refine gate_builtin (b := .append) (xs := #[.tmp 149, .tmp 156]) rfl ?_); at_builtin; refine Kd.R_append Kd.bool (w0 := w) w.heap.size rfl (.tmp 149) (.tmp 156) 22 4 (.bool false) 1 rfl Try.underlying22 info4 rfl (by decide) (by omega) u210002 x210002_2 ((Go.bits .and .i64 (a2 / 2 ^ ((0 + 2) + 1 : Int).toNat) 1) == 1) [.bool ((Go.bits .and .i64 (a2 / 2 ^ ((0 + 2) + 1 : Int).toNat) 1) == 1)] (fun _ => True) (fun _ => False) rfl (by first | (go_simp; done) | (go_simp; rfl)) ?aP (fun _ hk => hk.elim) ?aF ?aO ?aB ?aS ?aL ?_; (case aP => exact rfl); (case aB => exact (by repeat (first | (with_reducible first | exact HB.out | apply bA | apply bN | apply bD | refine bS ?_ ‹_›) | exact HB.out))); (case aF => exact (fun _ _ => trivial)); (case aO => exact (uR (Kd.R_mono (Kd.R_far (p := ⟨gb209, 3, none⟩) (Kd.R_types HO_210002.out BK209.out (by decide)) (fun _ hk => hk.2) (.slice Ao173 y228.length co173)) (fun _ hk => trivial)))); (case aS => exact (below_size (by repeat (first | (with_reducible first | exact HB.out | apply bA | apply bN | apply bD | refine bS ?_ ‹_›) | exact HB.out)))); (case aL => have := LMc153.out; omega); intro v232 w175 ho hb hg hat; rw [← Ny231.out] at ho; have n0_ := aM (Kd.R_over' (uR ((Kd.R_mono (Kd.R_far (p := ⟨gb209, 3, none⟩) (Kd.R_types HO_11.out BK209.out (by decide)) (fun _ hk => hk.2) (.slice Ao173 y228.length co173)) (fun _ h_ => h_.1)))) (Kd.R_typed (uR ((Kd.R_mono (Kd.R_far (p := ⟨gb209, 3, none⟩) (Kd.R_types HO_210002.out BK209.out (by decide)) (fun _ hk => hk.2) (.slice Ao173 y228.length co173)) (fun _ h_ => h_.1))))) (by decide) hg); have n1_ := aM (blk_grown (g := gb199) (o := .cells #[.int .i64 a0_0, .int .i64 a0_1, .slice (some ad226) l0_2.length c0_2, .slice A0_3 l0_3.length c0_3] 25 (0, 0)) (by (with_reducible repeat (first | refine kN ?_ | refine kD ?_ | refine kA ?_ | refine blk_far ?_ NB199_209.out _)); exact BK199.out) hg (Kd.R_ne HO_210002.out BK199.out (by decide))); have n2_ := aM (blk_grown (g := gb200) (o := .cells #[.int .i64 a1_0, .int .i64 a1_1, .slice (some ad227) l1_2.length c1_2, .slice A1_3 l1_3.length c1_3] 25 (0, 0)) (by (with_reducible repeat (first | refine kN ?_ | refine kD ?_ | refine kA ?_ | refine blk_far ?_ NB200_209.out _)); exact BK200.out) hg (Kd.R_ne HO_210002.out BK200.out (by decide))); have n3_ := aM (blk_grown (g := gb201) (o := .cells #[.int .i64 x202000_3, .int .i64 x202001_3, .slice none 0 0, .slice none 0 0] 25 (0, 0)) (by (with_reducible repeat (first | refine kN ?_ | refine kD ?_ | refine kA ?_ | refine blk_far ?_ NB201_209.out _)); exact BK201.out) hg (Kd.R_ne HO_210002.out BK201.out (by decide))); have n4_ := aM (blk_grown (g := gb204) (o := mapO ek64 (Value.int .i64) x205000_3) (by (with_reducible repeat (first | refine kN ?_ | refine kD ?_ | refine kA ?_)); refine blkF ?_ NB204_209.out _; (with_reducible repeat (first | refine kN ?_ | refine kD ?_ | refine kA ?_)); exact BK204.out) hg (R_neM HO_210002.out BK204.out)); have n5_ := aM (blk_grown (g := gb209) (o := .cells #[.int .i64 a0_0, .int .i64 0, u210002, .slice Ao173 y228.length co173] 25 (0, 0)) (by (with_reducible repeat (first | refine kN ?_ | refine kD ?_ | refine kA ?_)); refine blk_put (cs := #[.int .i64 a0_0, .int .i64 0, u210002, u210003]) ?_ 3 _ rfl; (with_reducible repeat (first | refine kN ?_ | refine kD ?_ | refine kA ?_)); exact BK209.out) hg (Kd.R_ne HO_210002.out BK209.out (by decide))); have n6_ := aM (blk_grown (g := gb211) (o := .cells #[.int .i64 ((rd_T64 x11_2 x13_2).f0), .int .i64 ((rd_T64 x11_2 x13_2).f1)] 64 (0, 0)) (by (with_reducible repeat (first | refine kN ?_ | refine kD ?_ | refine kA ?_ | refine blk_far ?_ NB211_209.out _)); exact BK211.out) hg (Kd.R_ne HO_210002.out BK211.out (by decide))); have n7_ := aM (Kd.S_over' (by (with_reducible repeat (first | apply Kd.S_alloc | apply Kd.S_drewN | apply Kd.S_drew)); exact (Kd.S_mono (Kd.S_far (p := ⟨gb209, 3, none⟩) (Kd.S_types HO230.out BK209.out (by decide)) (fun _ hk => hk.2) (.slice Ao173 y228.length co173)) (fun _ h_ => h_.1))) (Kd.R_typed (uR ((Kd.R_mono (Kd.R_far (p := ⟨gb209, 3, none⟩) (Kd.R_types HO_210002.out BK209.out (by decide)) (fun _ hk => hk.2) (.slice Ao173 y228.length co173)) (fun _ h_ => h_.1))))) (by decide) hg); have n8_ := aM (hb); have n9_ := aM (ho); clear HO_11; clear BK199; clear BK200; clear BK201; clear BK204; clear BK209; clear BK211; clear HO230; clear HB; clear HO_210002; have HO_11 := n0_; have BK199 := n1_; have BK200 := n2_; have BK201 := n3_; have BK204 := n4_; have BK209 := n5_; have BK211 := n6_; have HO230 := n7_; have HB := n8_; have HO233 := n9_; clear n0_ n1_ n2_ n3_ n4_ n5_ n6_ n7_ n8_ n9_; clear ho hb hg hat; obtain ⟨Ao176, co176, eo176⟩ := Kd.R_slice HO233.out; subst eo176; have hcz177_0 : w175.cell? ⟨gb209, 0, none⟩ = some (.int .i64 a0_0) := (blk_cell BK209.out 0).trans rfl; have hcz177_1 : w175.cell? ⟨gb209, 1, none⟩ = some (.int .i64 0) := (blk_cell BK209.out 1).trans rfl; have hcz177_2 : w175.cell? ⟨gb209, 2, none⟩ = some (u210002) := (blk_cell BK209.out 2).trans rfl; have hcz177_3 : w175.cell? ⟨gb209, 3, none⟩ = some (.slice Ao173 y228.length co173) := (blk_cell BK209.out 3).trans rfl; have hfz177_0 := blk_frozen BK209.out 0; have hfz177_1 := blk_frozen BK209.out 1; have hfz177_2 := blk_frozen BK209.out 2; have hfz177_3 := blk_frozen BK209.out 3))
       (try simp only [← hl15_3])
       go_roundg k3
       case measure => have := HJ7.out; have := HK2.out; have := HK3.out; omega
       case rel => exact ⟨(x11_3), (wrap64 (x13_2 + 1)), (x202000_3), (x202001_3), (x205000_3), (y231), (y228), (.slice Ao176 y231.length co176), (.slice Ao173 y228.length co173), (by first | rfl | (simp; done) | (simp [*]; done)), H', ⟨by have := HJ7.out; have := HK2.out; have := HK3.out; omega⟩, ⟨by (try simp only [hl15_3]); (with_reducible repeat (first | apply Kd.R_alloc | apply Kd.R_drewN | apply Kd.R_drew)); exact Kd.R_mono (Kd.R_far (p := ⟨gb209, 2, none⟩) (Kd.R_types HO_11.out BK209.out (by decide)) (fun _ hk => hk.2) (.slice Ao176 y231.length co176)) (fun _ hk => trivial)⟩, ⟨by (try simp only [hl15_3]); (with_reducible repeat (first | apply Kd.R_alloc | apply Kd.R_drewN | apply Kd.R_drew)); exact Kd.R_mono (Kd.R_far (p := ⟨gb209, 2, none⟩) (Kd.R_types HO233.out BK209.out (by decide)) (fun _ hk => hk.2) (.slice Ao176 y231.length co176)) (fun _ hk => trivial)⟩, ⟨by (try simp only [hl15_3]); (with_reducible repeat (first | apply Kd.S_alloc | apply Kd.S_drewN | apply Kd.S_drew)); exact Kd.S_mono (Kd.S_far (p := ⟨gb209, 2, none⟩) (Kd.S_types HO230.out BK209.out (by decide)) (fun _ hk => hk.2) (.slice Ao176 y231.length co176)) (fun _ hk => trivial)⟩, ⟨by (try simp only [hl15_3]); (with_reducible repeat (first | refine kN ?_ | refine kD ?_ | refine kA ?_ | refine blk_far ?_ NB199_209.out _)); exact BK199.out⟩, ⟨by (try simp only [hl15_3]); (with_reducible repeat (first | refine kN ?_ | refine kD ?_ | refine kA ?_ | refine blk_far ?_ NB200_209.out _)); exact BK200.out⟩, ⟨by (try simp only [hl15_3]); (with_reducible repeat (first | refine kN ?_ | refine kD ?_ | refine kA ?_ | refine blk_far ?_ NB201_209.out _)); exact BK201.out⟩, ⟨by (try simp only [hl15_3]); (with_reducible repeat (first | refine kN ?_ | refine kD ?_ | refine kA ?_)); refine blkF ?_ NB204_209.out _; (with_reducible repeat (first | refine kN ?_ | refine kD ?_ | refine kA ?_)); exact BK204.out⟩, ⟨by (try simp only [hl15_3]); (with_reducible repeat (first | refine kN ?_ | refine kD ?_ | refine kA ?_)); refine blk_put (cs := #[.int .i64 a0_0, .int .i64 0, u210002, .slice Ao173 y228.length co173]) ?_ 2 _ rfl; (with_reducible repeat (first | refine kN ?_ | refine kD ?_ | refine kA ?_)); exact BK209.out⟩, ⟨by repeat (first | (with_reducible first | exact HB.out | apply bA | apply bN | apply bD | refine bS ?_ ‹_›) | exact HB.out)⟩⟩
       )
       (focus
       rw [if_neg c153] at H
       exact absurd H (by simp)
       )
       )
       (focus
       rw [if_neg c152] at H
       exact absurd H (by simp)
       )
       )
       (focus
       replace c151 := Bool.eq_false_iff.mpr c151
       subst c151
       have H1 : (if x210003_2.length < 5864062014805 then (if x210002_2.length < 140737488355328 then (dfa_Product.l0 k3 a2 x11_3 (wrap64 (x13_2 + 1)) a0_0 a0_1 l0_2 l0_3 a1_0 a1_1 l1_2 l1_3 x205000_3 a0_0 0 (x210002_2 ++ [((Go.bits .and .i64 (a2 / 2 ^ (0 + 2 : Int).toNat) 1) == 1)]) (x210003_2 ++ [x15_3])) else (none)) else (none)) = some (r1, r2, r3, r4, r5) := by rw [if_neg (show ¬ (false = true) by decide)] at H; exact H
       clear H
       have H := H1
       clear H1
       by_cases c178 : x210003_2.length < 5864062014805
       (focus
       rw [if_pos c178] at H
       have LMc178 := Aside0.mk c178
       clear c178
       obtain ⟨y234, hy234⟩ : ∃ y_ : List (List Int), y_ = (x210003_2 ++ [x15_3]) := ⟨_, rfl⟩
       replace H : (if x210002_2.length < 140737488355328 then (dfa_Product.l0 k3 a2 x11_3 (wrap64 (x13_2 + 1)) a0_0 a0_1 l0_2 l0_3 a1_0 a1_1 l1_2 l1_3 x205000_3 a0_0 0 (x210002_2 ++ [((Go.bits .and .i64 (a2 / 2 ^ (0 + 2 : Int).toNat) 1) == 1)]) y234) else (none)) = some (r1, r2, r3, r4, r5) := by first | (rw [hy234]; with_reducible exact H) | (have H2_ := (Option.bind_some _ _).symm.trans H; rw [hy234]; with_reducible exact H2_) | (have H2_ := (Option.bind_some _ _).symm.trans H; with_reducible exact H2_) | with_reducible exact H | (rw [hy234]; exact H) | exact H
       have Ny234 := Aside0.mk hy234
       clear hy234
       by_cases c179 : x210002_2.length < 140737488355328
       (focus
       rw [if_pos c179] at H
       have LMc179 := Aside0.mk c179
       clear c179
       obtain ⟨y237, hy237⟩ : ∃ y_ : List Bool, y_ = (x210002_2 ++ [((Go.bits .and .i64 (a2 / 2 ^ (0 + 2 : Int).toNat) 1) == 1)]) := ⟨_, rfl⟩
       replace H : (dfa_Product.l0 k3 a2 x11_3 (wrap64 (x13_2 + 1)) a0_0 a0_1 l0_2 l0_3 a1_0 a1_1 l1_2 l1_3 x205000_3 a0_0 0 y237 y234) = some (r1, r2, r3, r4, r5) := by first | (rw [hy237]; with_reducible exact H) | (have H2_ := (Option.bind_some _ _).symm.trans H; rw [hy237]; with_reducible exact H2_) | (have H2_ := (Option.bind_some _ _).symm.trans H; with_reducible exact H2_) | with_reducible exact H | (rw [hy237]; exact H) | exact H
       have Ny237 := Aside0.mk hy237
       clear hy237
       have H' := Aside0.mk H
       clear H
       have hnb180 := NB199_200.out
       have hnc180 := NB200_199.out
       have hnb181 := NB199_201.out
       have hnc181 := NB201_199.out
       have hnb182 := NB199_204.out
       have hnc182 := NB204_199.out
       have hnb183 := NB199_209.out
       have hnc183 := NB209_199.out
       have hnb184 := NB199_211.out
       have hnc184 := NB211_199.out
       have hcz185_0 : wr.cell? ⟨gb199, 0, none⟩ = some (.int .i64 a0_0) := (blk_cell BK199.out 0).trans rfl
       have hcz185_1 : wr.cell? ⟨gb199, 1, none⟩ = some (.int .i64 a0_1) := (blk_cell BK199.out 1).trans rfl
       have hcz185_2 : wr.cell? ⟨gb199, 2, none⟩ = some (.slice A0_2 l0_2.length c0_2) := (blk_cell BK199.out 2).trans rfl
       have hcz185_3 : wr.cell? ⟨gb199, 3, none⟩ = some (.slice A0_3 l0_3.length c0_3) := (blk_cell BK199.out 3).trans rfl
       have hfz185_0 := blk_frozen BK199.out 0
       have hfz185_1 := blk_frozen BK199.out 1
       have hfz185_2 := blk_frozen BK199.out 2
       have hfz185_3 := blk_frozen BK199.out 3
       have hnb186 := NB211_200.out
       have hnc186 := NB200_211.out
       have hnb187 := NB211_201.out
       have hnc187 := NB201_211.out
       have hnb188 := NB211_204.out
       have hnc188 := NB204_211.out
       have hnb189 := NB211_209.out
       have hnc189 := NB209_211.out
       have hcz190_0 : wr.cell? ⟨gb211, 0, none⟩ = some (.int .i64 ((rd_T64 x11_2 x13_2).f0)) := (blk_cell BK211.out 0).trans rfl
       have hcz190_1 : wr.cell? ⟨gb211, 1, none⟩ = some (.int .i64 ((rd_T64 x11_2 x13_2).f1)) := (blk_cell BK211.out 1).trans rfl
       have hfz190_0 := blk_frozen BK211.out 0
       have hfz190_1 := blk_frozen BK211.out 1
       have p226 : 0 ≤ (((rd_T64 x11_2 x13_2).f0) : Int) := of_decide_eq_true (by assumption)
       have q226 : ((rd_T64 x11_2 x13_2).f0) < (l0_2.length : Int) := of_decide_eq_true (by assumption)
       obtain ⟨ad226, e226, hx226_0⟩ := Kd.at_bool HR0_2.out ((rd_T64 x11_2 x13_2).f0) p226 q226
       (try rw [← Nbq146.out] at hx226_0)
       (try rw [← Nbq150.out] at hx226_0)
       cases e226
       (try replace hx226_0 := (HB.out.cell (World.block_lt_of_cell? w _ hx226_0)).trans hx226_0)
       replace p226 := eq_true p226
       replace q226 := eq_true q226
       have hnb191 := NB200_201.out
       have hnc191 := NB201_200.out
       have hnb192 := NB200_204.out
       have hnc192 := NB204_200.out
       have hnb193 := NB200_209.out
       have hnc193 := NB209_200.out
       have hcz194_0 : wr.cell? ⟨gb200, 0, none⟩ = some (.int .i64 a1_0) := (blk_cell BK200.out 0).trans rfl
       have hcz194_1 : wr.cell? ⟨gb200, 1, none⟩ = some (.int .i64 a1_1) := (blk_cell BK200.out 1).trans rfl
       have hcz194_2 : wr.cell? ⟨gb200, 2, none⟩ = some (.slice A1_2 l1_2.length c1_2) := (blk_cell BK200.out 2).trans rfl
       have hcz194_3 : wr.cell? ⟨gb200, 3, none⟩ = some (.slice A1_3 l1_3.length c1_3) := (blk_cell BK200.out 3).trans rfl
       have hfz194_0 := blk_frozen BK200.out 0
       have hfz194_1 := blk_frozen BK200.out 1
       have hfz194_2 := blk_frozen BK200.out 2
       have hfz194_3 := blk_frozen BK200.out 3
       have p227 : 0 ≤ (((rd_T64 x11_2 x13_2).f1) : Int) := of_decide_eq_true (by assumption)
       have q227 : ((rd_T64 x11_2 x13_2).f1) < (l1_2.length : Int) := of_decide_eq_true (by assumption)
       obtain ⟨ad227, e227, hx227_0⟩ := Kd.at_bool HR1_2.out ((rd_T64 x11_2 x13_2).f1) p227 q227
       (try rw [← Nbq146.out] at hx227_0)
       (try rw [← Nbq150.out] at hx227_0)
       cases e227
       (try replace hx227_0 := (HB.out.cell (World.block_lt_of_cell? w _ hx227_0)).trans hx227_0)
       replace p227 := eq_true p227
       replace q227 := eq_true q227
       have hnb195 := NB209_201.out
       have hnc195 := NB201_209.out
       have hnb196 := NB209_204.out
       have hnc196 := NB204_209.out
       have hcz197_0 : wr.cell? ⟨gb209, 0, none⟩ = some (.int .i64 a0_0) := (blk_cell BK209.out 0).trans rfl
       have hcz197_1 : wr.cell? ⟨gb209, 1, none⟩ = some (.int .i64 0) := (blk_cell BK209.out 1).trans rfl
       have hcz197_2 : wr.cell? ⟨gb209, 2, none⟩ = some (u210002) := (blk_cell BK209.out 2).trans rfl
       have hcz197_3 : wr.cell? ⟨gb209, 3, none⟩ = some (u210003) := (blk_cell BK209.out 3).trans rfl
       have hfz197_0 := blk_frozen BK209.out 0
       have hfz197_1 := blk_frozen BK209.out 1
       have hfz197_2 := blk_frozen BK209.out 2
       have hfz197_3 := blk_frozen BK209.out 3
       go_wp2_with (first | ((with_reducible refine gate_builtin (b := .append) (xs := #[.tmp 143, .tmp 145]) rfl ?_); at_builtin; refine Kd.S_append (Kd.slice 3 (Kd.int .i64)) (w0 := w) w.heap.size rfl (.tmp 143) (.tmp 145) 23 38 (.slice none 0 0) 24 rfl Try.underlying23 info38 rfl (by decide) (by omega) u210003 x210003_2 x15_3 [.slice Ao79 x15_3.length co79] (fun _ => True) (fun k_ => some k_ = (.slice Ao79 x15_3.length co79 : Value).ownBlock) rfl rfl ?aP (fun k_ hk_ => ((Kd.R_mono (ok' := fun k_ => ((fun _ => True)) k_ ∧ some k_ ≠ (u210003 : Value).ownBlock) (Kd.R_apart' (HO_15.out) (Kd.S_typed HO_210003.out) (by decide)) (fun k_ hk => ⟨trivial, hk.2⟩))).1 k_ hk_.symm) ?aF ?aO ?aB ?aS ?aL ?_; (case aP => exact Kd.M_row (Kd.R_mono (Kd.R_tight rfl (Kd.R_mono (ok' := fun k_ => ((fun _ => True)) k_ ∧ some k_ ≠ (u210003 : Value).ownBlock) (Kd.R_apart' (HO_15.out) (Kd.S_typed HO_210003.out) (by decide)) (fun k_ hk => ⟨trivial, hk.2⟩))) (fun _ h_ => h_))); (case aB => exact (by repeat (first | (with_reducible first | exact HB.out | apply bA | apply bN | apply bD | refine bS ?_ ‹_›) | exact HB.out))); (case aF => exact (fun _ _ => trivial)); (case aO => exact (by (with_reducible repeat (first | apply Kd.S_alloc | apply Kd.S_drewN | apply Kd.S_drew)); exact Kd.S_mono HO_210003.out (fun k_ hk => ⟨trivial, fun e_ => hk e_⟩))); (case aS => exact (below_size (by repeat (first | (with_reducible first | exact HB.out | apply bA | apply bN | apply bD | refine bS ?_ ‹_›) | exact HB.out)))); (case aL => have := LMc178.out; omega); intro v235 w198 ho hb hg hat; rw [← Ny234.out] at ho; have n0_ := aM (Kd.R_over' (uR HO_11.out) (Kd.S_typed (by (with_reducible repeat (first | apply Kd.S_alloc | apply Kd.S_drewN | apply Kd.S_drew)); exact HO_210003.out)) (by decide) hg); have n1_ := aM (Kd.R_over' (uR HO_210002.out) (Kd.S_typed (by (with_reducible repeat (first | apply Kd.S_alloc | apply Kd.S_drewN | apply Kd.S_drew)); exact HO_210003.out)) (by decide) hg); have n2_ := aM (blk_grown (uB BK199.out) hg (Kd.S_ne HO_210003.out BK199.out (by decide))); have n3_ := aM (blk_grown (uB BK200.out) hg (Kd.S_ne HO_210003.out BK200.out (by decide))); have n4_ := aM (blk_grown (uB BK201.out) hg (Kd.S_ne HO_210003.out BK201.out (by decide))); have n5_ := aM (blk_grown (g := gb204) (o := mapO ek64 (Value.int .i64) x205000_3) (uB BK204.out) hg (S_neM HO_210003.out BK204.out)); have n6_ := aM (blk_grown (uB BK209.out) hg (Kd.S_ne HO_210003.out BK209.out (by decide))); have n7_ := aM (blk_grown (uB BK211.out) hg (Kd.S_ne HO_210003.out BK211.out (by decide))); have n8_ := aM (hb); have n9_ := aM (ho); clear HO_11; clear HO_210002; clear BK199; clear BK200; clear BK201; clear BK204; clear BK209; clear BK211; clear HB; clear HO_210003; clear HO_15; have HO_11 := n0_; have HO_210002 := n1_; have BK199 := n2_; have BK200 := n3_; have BK201 := n4_; have BK204 := n5_; have BK209 := n6_; have BK211 := n7_; have HB := n8_; have HO236 := n9_; clear n0_ n1_ n2_ n3_ n4_ n5_ n6_ n7_ n8_ n9_; clear ho hb hg hat; obtain ⟨Ao199, co199, eo199⟩ := Kd.S_slice HO236.out; subst eo199; have hcz200_0 : w198.cell? ⟨gb209, 0, none⟩ = some (.int .i64 a0_0) := (blk_cell BK209.out 0).trans rfl; have hcz200_1 : w198.cell? ⟨gb209, 1, none⟩ = some (.int .i64 0) := (blk_cell BK209.out 1).trans rfl; have hcz200_2 : w198.cell? ⟨gb209, 2, none⟩ = some (u210002) := (blk_cell BK209.out 2).trans rfl; have hcz200_3 : w198.cell? ⟨gb209, 3, none⟩ = some (u210003) := (blk_cell BK209.out 3).trans rfl; have hfz200_0 := blk_frozen BK209.out 0; have hfz200_1 := blk_frozen BK209.out 1; have hfz200_2 := blk_frozen BK209.out 2; have hfz200_3 := blk_frozen BK209.out 3) | ((with_reducible refine gate_builtin (b := .append) (xs := #[.tmp 149, .tmp 156]) rfl ?_); at_builtin; refine Kd.R_append Kd.bool (w0 := w) w.heap.size rfl (.tmp 149) (.tmp 156) 22 4 (.bool false) 1 rfl Try.underlying22 info4 rfl (by decide) (by omega) u210002 x210002_2 ((Go.bits .and .i64 (a2 / 2 ^ (0 + 2 : Int).toNat) 1) == 1) [.bool ((Go.bits .and .i64 (a2 / 2 ^ (0 + 2 : Int).toNat) 1) == 1)] (fun _ => True) (fun _ => False) rfl (by first | (go_simp; done) | (go_simp; rfl)) ?aP (fun _ hk => hk.elim) ?aF ?aO ?aB ?aS ?aL ?_; (case aP => exact rfl); (case aB => exact (by repeat (first | (with_reducible first | exact HB.out | apply bA | apply bN | apply bD | refine bS ?_ ‹_›) | exact HB.out))); (case aF => exact (fun _ _ => trivial)); (case aO => exact (uR (Kd.R_mono (Kd.R_far (p := ⟨gb209, 3, none⟩) (Kd.R_types HO_210002.out BK209.out (by decide)) (fun _ hk => hk.2) (.slice Ao199 y234.length co199)) (fun _ hk => trivial)))); (case aS => exact (below_size (by repeat (first | (with_reducible first | exact HB.out | apply bA | apply bN | apply bD | refine bS ?_ ‹_›) | exact HB.out)))); (case aL => have := LMc179.out; omega); intro v238 w201 ho hb hg hat; rw [← Ny237.out] at ho; have n0_ := aM (Kd.R_over' (uR ((Kd.R_mono (Kd.R_far (p := ⟨gb209, 3, none⟩) (Kd.R_types HO_11.out BK209.out (by decide)) (fun _ hk => hk.2) (.slice Ao199 y234.length co199)) (fun _ h_ => h_.1)))) (Kd.R_typed (uR ((Kd.R_mono (Kd.R_far (p := ⟨gb209, 3, none⟩) (Kd.R_types HO_210002.out BK209.out (by decide)) (fun _ hk => hk.2) (.slice Ao199 y234.length co199)) (fun _ h_ => h_.1))))) (by decide) hg); have n1_ := aM (blk_grown (g := gb199) (o := .cells #[.int .i64 a0_0, .int .i64 a0_1, .slice (some ad226) l0_2.length c0_2, .slice A0_3 l0_3.length c0_3] 25 (0, 0)) (by (with_reducible repeat (first | refine kN ?_ | refine kD ?_ | refine kA ?_ | refine blk_far ?_ NB199_209.out _)); exact BK199.out) hg (Kd.R_ne HO_210002.out BK199.out (by decide))); have n2_ := aM (blk_grown (g := gb200) (o := .cells #[.int .i64 a1_0, .int .i64 a1_1, .slice (some ad227) l1_2.length c1_2, .slice A1_3 l1_3.length c1_3] 25 (0, 0)) (by (with_reducible repeat (first | refine kN ?_ | refine kD ?_ | refine kA ?_ | refine blk_far ?_ NB200_209.out _)); exact BK200.out) hg (Kd.R_ne HO_210002.out BK200.out (by decide))); have n3_ := aM (blk_grown (g := gb201) (o := .cells #[.int .i64 x202000_3, .int .i64 x202001_3, .slice none 0 0, .slice none 0 0] 25 (0, 0)) (by (with_reducible repeat (first | refine kN ?_ | refine kD ?_ | refine kA ?_ | refine blk_far ?_ NB201_209.out _)); exact BK201.out) hg (Kd.R_ne HO_210002.out BK201.out (by decide))); have n4_ := aM (blk_grown (g := gb204) (o := mapO ek64 (Value.int .i64) x205000_3) (by (with_reducible repeat (first | refine kN ?_ | refine kD ?_ | refine kA ?_)); refine blkF ?_ NB204_209.out _; (with_reducible repeat (first | refine kN ?_ | refine kD ?_ | refine kA ?_)); exact BK204.out) hg (R_neM HO_210002.out BK204.out)); have n5_ := aM (blk_grown (g := gb209) (o := .cells #[.int .i64 a0_0, .int .i64 0, u210002, .slice Ao199 y234.length co199] 25 (0, 0)) (by (with_reducible repeat (first | refine kN ?_ | refine kD ?_ | refine kA ?_)); refine blk_put (cs := #[.int .i64 a0_0, .int .i64 0, u210002, u210003]) ?_ 3 _ rfl; (with_reducible repeat (first | refine kN ?_ | refine kD ?_ | refine kA ?_)); exact BK209.out) hg (Kd.R_ne HO_210002.out BK209.out (by decide))); have n6_ := aM (blk_grown (g := gb211) (o := .cells #[.int .i64 ((rd_T64 x11_2 x13_2).f0), .int .i64 ((rd_T64 x11_2 x13_2).f1)] 64 (0, 0)) (by (with_reducible repeat (first | refine kN ?_ | refine kD ?_ | refine kA ?_ | refine blk_far ?_ NB211_209.out _)); exact BK211.out) hg (Kd.R_ne HO_210002.out BK211.out (by decide))); have n7_ := aM (Kd.S_over' (by (with_reducible repeat (first | apply Kd.S_alloc | apply Kd.S_drewN | apply Kd.S_drew)); exact (Kd.S_mono (Kd.S_far (p := ⟨gb209, 3, none⟩) (Kd.S_types HO236.out BK209.out (by decide)) (fun _ hk => hk.2) (.slice Ao199 y234.length co199)) (fun _ h_ => h_.1))) (Kd.R_typed (uR ((Kd.R_mono (Kd.R_far (p := ⟨gb209, 3, none⟩) (Kd.R_types HO_210002.out BK209.out (by decide)) (fun _ hk => hk.2) (.slice Ao199 y234.length co199)) (fun _ h_ => h_.1))))) (by decide) hg); have n8_ := aM (hb); have n9_ := aM (ho); clear HO_11; clear BK199; clear BK200; clear BK201; clear BK204; clear BK209; clear BK211; clear HO236; clear HB; clear HO_210002; have HO_11 := n0_; have BK199 := n1_; have BK200 := n2_; have BK201 := n3_; have BK204 := n4_; have BK209 := n5_; have BK211 := n6_; have HO236 := n7_; have HB := n8_; have HO239 := n9_; clear n0_ n1_ n2_ n3_ n4_ n5_ n6_ n7_ n8_ n9_; clear ho hb hg hat; obtain ⟨Ao202, co202, eo202⟩ := Kd.R_slice HO239.out; subst eo202; have hcz203_0 : w201.cell? ⟨gb209, 0, none⟩ = some (.int .i64 a0_0) := (blk_cell BK209.out 0).trans rfl; have hcz203_1 : w201.cell? ⟨gb209, 1, none⟩ = some (.int .i64 0) := (blk_cell BK209.out 1).trans rfl; have hcz203_2 : w201.cell? ⟨gb209, 2, none⟩ = some (u210002) := (blk_cell BK209.out 2).trans rfl; have hcz203_3 : w201.cell? ⟨gb209, 3, none⟩ = some (.slice Ao199 y234.length co199) := (blk_cell BK209.out 3).trans rfl; have hfz203_0 := blk_frozen BK209.out 0; have hfz203_1 := blk_frozen BK209.out 1; have hfz203_2 := blk_frozen BK209.out 2; have hfz203_3 := blk_frozen BK209.out 3))
       (try simp only [← hl15_3])
       go_roundg k3
       case measure => have := HJ7.out; have := HK2.out; have := HK3.out; omega
       case rel => exact ⟨(x11_3), (wrap64 (x13_2 + 1)), (x202000_3), (x202001_3), (x205000_3), (y237), (y234), (.slice Ao202 y237.length co202), (.slice Ao199 y234.length co199), (by first | rfl | (simp; done) | (simp [*]; done)), H', ⟨by have := HJ7.out; have := HK2.out; have := HK3.out; omega⟩, ⟨by (try simp only [hl15_3]); (with_reducible repeat (first | apply Kd.R_alloc | apply Kd.R_drewN | apply Kd.R_drew)); exact Kd.R_mono (Kd.R_far (p := ⟨gb209, 2, none⟩) (Kd.R_types HO_11.out BK209.out (by decide)) (fun _ hk => hk.2) (.slice Ao202 y237.length co202)) (fun _ hk => trivial)⟩, ⟨by (try simp only [hl15_3]); (with_reducible repeat (first | apply Kd.R_alloc | apply Kd.R_drewN | apply Kd.R_drew)); exact Kd.R_mono (Kd.R_far (p := ⟨gb209, 2, none⟩) (Kd.R_types HO239.out BK209.out (by decide)) (fun _ hk => hk.2) (.slice Ao202 y237.length co202)) (fun _ hk => trivial)⟩, ⟨by (try simp only [hl15_3]); (with_reducible repeat (first | apply Kd.S_alloc | apply Kd.S_drewN | apply Kd.S_drew)); exact Kd.S_mono (Kd.S_far (p := ⟨gb209, 2, none⟩) (Kd.S_types HO236.out BK209.out (by decide)) (fun _ hk => hk.2) (.slice Ao202 y237.length co202)) (fun _ hk => trivial)⟩, ⟨by (try simp only [hl15_3]); (with_reducible repeat (first | refine kN ?_ | refine kD ?_ | refine kA ?_ | refine blk_far ?_ NB199_209.out _)); exact BK199.out⟩, ⟨by (try simp only [hl15_3]); (with_reducible repeat (first | refine kN ?_ | refine kD ?_ | refine kA ?_ | refine blk_far ?_ NB200_209.out _)); exact BK200.out⟩, ⟨by (try simp only [hl15_3]); (with_reducible repeat (first | refine kN ?_ | refine kD ?_ | refine kA ?_ | refine blk_far ?_ NB201_209.out _)); exact BK201.out⟩, ⟨by (try simp only [hl15_3]); (with_reducible repeat (first | refine kN ?_ | refine kD ?_ | refine kA ?_)); refine blkF ?_ NB204_209.out _; (with_reducible repeat (first | refine kN ?_ | refine kD ?_ | refine kA ?_)); exact BK204.out⟩, ⟨by (try simp only [hl15_3]); (with_reducible repeat (first | refine kN ?_ | refine kD ?_ | refine kA ?_)); refine blk_put (cs := #[.int .i64 a0_0, .int .i64 0, u210002, .slice Ao199 y234.length co199]) ?_ 2 _ rfl; (with_reducible repeat (first | refine kN ?_ | refine kD ?_ | refine kA ?_)); exact BK209.out⟩, ⟨by repeat (first | (with_reducible first | exact HB.out | apply bA | apply bN | apply bD | refine bS ?_ ‹_›) | exact HB.out)⟩⟩
       )
       (focus
       rw [if_neg c179] at H
       exact absurd H (by simp)
       )
       )
       (focus
       rw [if_neg c178] at H
       exact absurd H (by simp)
       )
       )
       )
       (focus
       rw [if_neg c149] at H
       exact absurd H (by simp)
       )
       )
       (focus
       rw [if_neg c148] at H
       exact absurd H (by simp)
       )
       )
       (focus
       replace c147 := Bool.eq_false_iff.mpr c147
       subst c147
       have H1 : (if 0 ≤ ((rd_T64 x11_2 x13_2).f1) then (if ((rd_T64 x11_2 x13_2).f1) < (l1_2.length : Int) then (if rdOf false l1_2 ((rd_T64 x11_2 x13_2).f1) = true then (if x210003_2.length < 5864062014805 then (if x210002_2.length < 140737488355328 then (dfa_Product.l0 k3 a2 x11_3 (wrap64 (x13_2 + 1)) a0_0 a0_1 l0_2 l0_3 a1_0 a1_1 l1_2 l1_3 x205000_3 a0_0 0 (x210002_2 ++ [((Go.bits .and .i64 (a2 / 2 ^ (0 + 1 : Int).toNat) 1) == 1)]) (x210003_2 ++ [x15_3])) else (none)) else (none)) else (if x210003_2.length < 5864062014805 then (if x210002_2.length < 140737488355328 then (dfa_Product.l0 k3 a2 x11_3 (wrap64 (x13_2 + 1)) a0_0 a0_1 l0_2 l0_3 a1_0 a1_1 l1_2 l1_3 x205000_3 a0_0 0 (x210002_2 ++ [((Go.bits .and .i64 a2 1) == 1)]) (x210003_2 ++ [x15_3])) else (none)) else (none))) else (none)) else (none)) = some (r1, r2, r3, r4, r5) := by rw [if_neg (show ¬ (false = true) by decide)] at H; exact H
       clear H
       have H := H1
       clear H1
       by_cases c204 : 0 ≤ ((rd_T64 x11_2 x13_2).f1)
       (focus
       rw [if_pos c204] at H
       have c204b0 : decide (0 ≤ ((rd_T64 x11_2 x13_2).f1)) = true := decide_eq_true c204
       clear c204
       by_cases c205 : ((rd_T64 x11_2 x13_2).f1) < (l1_2.length : Int)
       (focus
       rw [if_pos c205] at H
       have c205b0 : decide (((rd_T64 x11_2 x13_2).f1) < (l1_2.length : Int)) = true := decide_eq_true c205
       (try (have c205b0_hl15_3 := c205b0; simp only [hl15_3] at c205b0_hl15_3))
       clear c205
       obtain ⟨bq206, hbq206⟩ : ∃ b_ : Bool, b_ = (rdOf false l1_2 ((rd_T64 x11_2 x13_2).f1)) := ⟨_, rfl⟩
       replace H : (if bq206 = true then (if x210003_2.length < 5864062014805 then (if x210002_2.length < 140737488355328 then (dfa_Product.l0 k3 a2 x11_3 (wrap64 (x13_2 + 1)) a0_0 a0_1 l0_2 l0_3 a1_0 a1_1 l1_2 l1_3 x205000_3 a0_0 0 (x210002_2 ++ [((Go.bits .and .i64 (a2 / 2 ^ (0 + 1 : Int).toNat) 1) == 1)]) (x210003_2 ++ [x15_3])) else (none)) else (none)) else (if x210003_2.length < 5864062014805 then (if x210002_2.length < 140737488355328 then (dfa_Product.l0 k3 a2 x11_3 (wrap64 (x13_2 + 1)) a0_0 a0_1 l0_2 l0_3 a1_0 a1_1 l1_2 l1_3 x205000_3 a0_0 0 (x210002_2 ++ [((Go.bits .and .i64 a2 1) == 1)]) (x210003_2 ++ [x15_3])) else (none)) else (none))) = some (r1, r2, r3, r4, r5) := by rw [← hbq206] at H; exact H
       have Nbq206 := Aside0.mk hbq206
       clear hbq206
       by_cases c207 : bq206 = true
       (focus
       subst c207
       have H1 : (if x210003_2.length < 5864062014805 then (if x210002_2.length < 140737488355328 then (dfa_Product.l0 k3 a2 x11_3 (wrap64 (x13_2 + 1)) a0_0 a0_1 l0_2 l0_3 a1_0 a1_1 l1_2 l1_3 x205000_3 a0_0 0 (x210002_2 ++ [((Go.bits .and .i64 (a2 / 2 ^ (0 + 1 : Int).toNat) 1) == 1)]) (x210003_2 ++ [x15_3])) else (none)) else (none)) = some (r1, r2, r3, r4, r5) := by rw [if_pos rfl] at H; exact H
       clear H
       have H := H1
       clear H1
       by_cases c208 : x210003_2.length < 5864062014805
       (focus
       rw [if_pos c208] at H
       have LMc208 := Aside0.mk c208
       clear c208
       obtain ⟨y241, hy241⟩ : ∃ y_ : List (List Int), y_ = (x210003_2 ++ [x15_3]) := ⟨_, rfl⟩
       replace H : (if x210002_2.length < 140737488355328 then (dfa_Product.l0 k3 a2 x11_3 (wrap64 (x13_2 + 1)) a0_0 a0_1 l0_2 l0_3 a1_0 a1_1 l1_2 l1_3 x205000_3 a0_0 0 (x210002_2 ++ [((Go.bits .and .i64 (a2 / 2 ^ (0 + 1 : Int).toNat) 1) == 1)]) y241) else (none)) = some (r1, r2, r3, r4, r5) := by first | (rw [hy241]; with_reducible exact H) | (have H2_ := (Option.bind_some _ _).symm.trans H; rw [hy241]; with_reducible exact H2_) | (have H2_ := (Option.bind_some _ _).symm.trans H; with_reducible exact H2_) | with_reducible exact H | (rw [hy241]; exact H) | exact H
       have Ny241 := Aside0.mk hy241
       clear hy241
       by_cases c209 : x210002_2.length < 140737488355328
       (focus
       rw [if_pos c209] at H
       have LMc209 := Aside0.mk c209
       clear c209
       obtain ⟨y244, hy244⟩ : ∃ y_ : List Bool, y_ = (x210002_2 ++ [((Go.bits .and .i64 (a2 / 2 ^ (0 + 1 : Int).toNat) 1) == 1)]) := ⟨_, rfl⟩
       replace H : (dfa_Product.l0 k3 a2 x11_3 (wrap64 (x13_2 + 1)) a0_0 a0_1 l0_2 l0_3 a1_0 a1_1 l1_2 l1_3 x205000_3 a0_0 0 y244 y241) = some (r1, r2, r3, r4, r5) := by first | (rw [hy244]; with_reducible exact H) | (have H2_ := (Option.bind_some _ _).symm.trans H; rw [hy244]; with_reducible exact H2_) | (have H2_ := (Option.bind_some _ _).symm.trans H; with_reducible exact H2_) | with_reducible exact H | (rw [hy244]; exact H) | exact H
       have Ny244 := Aside0.mk hy244
       clear hy244
       have H' := Aside0.mk H
       clear H
       have hnb210 := NB199_200.out
       have hnc210 := NB200_199.out
       have hnb211 := NB199_201.out
       have hnc211 := NB201_199.out
       have hnb212 := NB199_204.out
       have hnc212 := NB204_199.out
       have hnb213 := NB199_209.out
       have hnc213 := NB209_199.out
       have hnb214 := NB199_211.out
       have hnc214 := NB211_199.out
       have hcz215_0 : wr.cell? ⟨gb199, 0, none⟩ = some (.int .i64 a0_0) := (blk_cell BK199.out 0).trans rfl
       have hcz215_1 : wr.cell? ⟨gb199, 1, none⟩ = some (.int .i64 a0_1) := (blk_cell BK199.out 1).trans rfl
       have hcz215_2 : wr.cell? ⟨gb199, 2, none⟩ = some (.slice A0_2 l0_2.length c0_2) := (blk_cell BK199.out 2).trans rfl
       have hcz215_3 : wr.cell? ⟨gb199, 3, none⟩ = some (.slice A0_3 l0_3.length c0_3) := (blk_cell BK199.out 3).trans rfl
       have hfz215_0 := blk_frozen BK199.out 0
       have hfz215_1 := blk_frozen BK199.out 1
       have hfz215_2 := blk_frozen BK199.out 2
       have hfz215_3 := blk_frozen BK199.out 3
       have hnb216 := NB211_200.out
       have hnc216 := NB200_211.out
       have hnb217 := NB211_201.out
       have hnc217 := NB201_211.out
       have hnb218 := NB211_204.out
       have hnc218 := NB204_211.out
       have hnb219 := NB211_209.out
       have hnc219 := NB209_211.out
       have hcz220_0 : wr.cell? ⟨gb211, 0, none⟩ = some (.int .i64 ((rd_T64 x11_2 x13_2).f0)) := (blk_cell BK211.out 0).trans rfl
       have hcz220_1 : wr.cell? ⟨gb211, 1, none⟩ = some (.int .i64 ((rd_T64 x11_2 x13_2).f1)) := (blk_cell BK211.out 1).trans rfl
       have hfz220_0 := blk_frozen BK211.out 0
       have hfz220_1 := blk_frozen BK211.out 1
       have p226 : 0 ≤ (((rd_T64 x11_2 x13_2).f0) : Int) := of_decide_eq_true (by assumption)
       have q226 : ((rd_T64 x11_2 x13_2).f0) < (l0_2.length : Int) := of_decide_eq_true (by assumption)
       obtain ⟨ad226, e226, hx226_0⟩ := Kd.at_bool HR0_2.out ((rd_T64 x11_2 x13_2).f0) p226 q226
       (try rw [← Nbq146.out] at hx226_0)
       (try rw [← Nbq206.out] at hx226_0)
       cases e226
       (try replace hx226_0 := (HB.out.cell (World.block_lt_of_cell? w _ hx226_0)).trans hx226_0)
       replace p226 := eq_true p226
       replace q226 := eq_true q226
       have hnb221 := NB200_201.out
       have hnc221 := NB201_200.out
       have hnb222 := NB200_204.out
       have hnc222 := NB204_200.out
       have hnb223 := NB200_209.out
       have hnc223 := NB209_200.out
       have hcz224_0 : wr.cell? ⟨gb200, 0, none⟩ = some (.int .i64 a1_0) := (blk_cell BK200.out 0).trans rfl
       have hcz224_1 : wr.cell? ⟨gb200, 1, none⟩ = some (.int .i64 a1_1) := (blk_cell BK200.out 1).trans rfl
       have hcz224_2 : wr.cell? ⟨gb200, 2, none⟩ = some (.slice A1_2 l1_2.length c1_2) := (blk_cell BK200.out 2).trans rfl
       have hcz224_3 : wr.cell? ⟨gb200, 3, none⟩ = some (.slice A1_3 l1_3.length c1_3) := (blk_cell BK200.out 3).trans rfl
       have hfz224_0 := blk_frozen BK200.out 0
       have hfz224_1 := blk_frozen BK200.out 1
       have hfz224_2 := blk_frozen BK200.out 2
       have hfz224_3 := blk_frozen BK200.out 3
       have p240 : 0 ≤ (((rd_T64 x11_2 x13_2).f1) : Int) := of_decide_eq_true (by assumption)
       have q240 : ((rd_T64 x11_2 x13_2).f1) < (l1_2.length : Int) := of_decide_eq_true (by assumption)
       obtain ⟨ad240, e240, hx240_0⟩ := Kd.at_bool HR1_2.out ((rd_T64 x11_2 x13_2).f1) p240 q240
       (try rw [← Nbq146.out] at hx240_0)
       (try rw [← Nbq206.out] at hx240_0)
       cases e240
       (try replace hx240_0 := (HB.out.cell (World.block_lt_of_cell? w _ hx240_0)).trans hx240_0)
       replace p240 := eq_true p240
       replace q240 := eq_true q240
       have hnb225 := NB209_201.out
       have hnc225 := NB201_209.out
       have hnb226 := NB209_204.out
       have hnc226 := NB204_209.out
       have hcz227_0 : wr.cell? ⟨gb209, 0, none⟩ = some (.int .i64 a0_0) := (blk_cell BK209.out 0).trans rfl
       have hcz227_1 : wr.cell? ⟨gb209, 1, none⟩ = some (.int .i64 0) := (blk_cell BK209.out 1).trans rfl
       have hcz227_2 : wr.cell? ⟨gb209, 2, none⟩ = some (u210002) := (blk_cell BK209.out 2).trans rfl
       have hcz227_3 : wr.cell? ⟨gb209, 3, none⟩ = some (u210003) := (blk_cell BK209.out 3).trans rfl
       have hfz227_0 := blk_frozen BK209.out 0
       have hfz227_1 := blk_frozen BK209.out 1
       have hfz227_2 := blk_frozen BK209.out 2
       have hfz227_3 := blk_frozen BK209.out 3
       go_wp2_with (first | ((with_reducible refine gate_builtin (b := .append) (xs := #[.tmp 143, .tmp 145]) rfl ?_); at_builtin; refine Kd.S_append (Kd.slice 3 (Kd.int .i64)) (w0 := w) w.heap.size rfl (.tmp 143) (.tmp 145) 23 38 (.slice none 0 0) 24 rfl Try.underlying23 info38 rfl (by decide) (by omega) u210003 x210003_2 x15_3 [.slice Ao79 x15_3.length co79] (fun _ => True) (fun k_ => some k_ = (.slice Ao79 x15_3.length co79 : Value).ownBlock) rfl rfl ?aP (fun k_ hk_ => ((Kd.R_mono (ok' := fun k_ => ((fun _ => True)) k_ ∧ some k_ ≠ (u210003 : Value).ownBlock) (Kd.R_apart' (HO_15.out) (Kd.S_typed HO_210003.out) (by decide)) (fun k_ hk => ⟨trivial, hk.2⟩))).1 k_ hk_.symm) ?aF ?aO ?aB ?aS ?aL ?_; (case aP => exact Kd.M_row (Kd.R_mono (Kd.R_tight rfl (Kd.R_mono (ok' := fun k_ => ((fun _ => True)) k_ ∧ some k_ ≠ (u210003 : Value).ownBlock) (Kd.R_apart' (HO_15.out) (Kd.S_typed HO_210003.out) (by decide)) (fun k_ hk => ⟨trivial, hk.2⟩))) (fun _ h_ => h_))); (case aB => exact (by repeat (first | (with_reducible first | exact HB.out | apply bA | apply bN | apply bD | refine bS ?_ ‹_›) | exact HB.out))); (case aF => exact (fun _ _ => trivial)); (case aO => exact (by (with_reducible repeat (first | apply Kd.S_alloc | apply Kd.S_drewN | apply Kd.S_drew)); exact Kd.S_mono HO_210003.out (fun k_ hk => ⟨trivial, fun e_ => hk e_⟩))); (case aS => exact (below_size (by repeat (first | (with_reducible first | exact HB.out | apply bA | apply bN | apply bD | refine bS ?_ ‹_›) | exact HB.out)))); (case aL => have := LMc208.out; omega); intro v242 w228 ho hb hg hat; rw [← Ny241.out] at ho; have n0_ := aM (Kd.R_over' (uR HO_11.out) (Kd.S_typed (by (with_reducible repeat (first | apply Kd.S_alloc | apply Kd.S_drewN | apply Kd.S_drew)); exact HO_210003.out)) (by decide) hg); have n1_ := aM (Kd.R_over' (uR HO_210002.out) (Kd.S_typed (by (with_reducible repeat (first | apply Kd.S_alloc | apply Kd.S_drewN | apply Kd.S_drew)); exact HO_210003.out)) (by decide) hg); have n2_ := aM (blk_grown (uB BK199.out) hg (Kd.S_ne HO_210003.out BK199.out (by decide))); have n3_ := aM (blk_grown (uB BK200.out) hg (Kd.S_ne HO_210003.out BK200.out (by decide))); have n4_ := aM (blk_grown (uB BK201.out) hg (Kd.S_ne HO_210003.out BK201.out (by decide))); have n5_ := aM (blk_grown (g := gb204) (o := mapO ek64 (Value.int .i64) x205000_3) (uB BK204.out) hg (S_neM HO_210003.out BK204.out)); have n6_ := aM (blk_grown (uB BK209.out) hg (Kd.S_ne HO_210003.out BK209.out (by decide))); have n7_ := aM (blk_grown (uB BK211.out) hg (Kd.S_ne HO_210003.out BK211.out (by decide))); have n8_ := aM (hb); have n9_ := aM (ho); clear HO_11; clear HO_210002; clear BK199; clear BK200; clear BK201; clear BK204; clear BK209; clear BK211; clear HB; clear HO_210003; clear HO_15; have HO_11 := n0_; have HO_210002 := n1_; have BK199 := n2_; have BK200 := n3_; have BK201 := n4_; have BK204 := n5_; have BK209 := n6_; have BK211 := n7_; have HB := n8_; have HO243 := n9_; clear n0_ n1_ n2_ n3_ n4_ n5_ n6_ n7_ n8_ n9_; clear ho hb hg hat; obtain ⟨Ao229, co229, eo229⟩ := Kd.S_slice HO243.out; subst eo229; have hcz230_0 : w228.cell? ⟨gb209, 0, none⟩ = some (.int .i64 a0_0) := (blk_cell BK209.out 0).trans rfl; have hcz230_1 : w228.cell? ⟨gb209, 1, none⟩ = some (.int .i64 0) := (blk_cell BK209.out 1).trans rfl; have hcz230_2 : w228.cell? ⟨gb209, 2, none⟩ = some (u210002) := (blk_cell BK209.out 2).trans rfl; have hcz230_3 : w228.cell? ⟨gb209, 3, none⟩ = some (u210003) := (blk_cell BK209.out 3).trans rfl; have hfz230_0 := blk_frozen BK209.out 0; have hfz230_1 := blk_frozen BK209.out 1; have hfz230_2 := blk_frozen BK209.out 2; have hfz230_3 := blk_frozen BK209.out 3) | ((with_reducible refine gate_builtin (b := .append) (xs := #[.tmp 149, .tmp 156]) rfl ?_); at_builtin; refine Kd.R_append Kd.bool (w0 := w) w.heap.size rfl (.tmp 149) (.tmp 156) 22 4 (.bool false) 1 rfl Try.underlying22 info4 rfl (by decide) (by omega) u210002 x210002_2 ((Go.bits .and .i64 (a2 / 2 ^ (0 + 1 : Int).toNat) 1) == 1) [.bool ((Go.bits .and .i64 (a2 / 2 ^ (0 + 1 : Int).toNat) 1) == 1)] (fun _ => True) (fun _ => False) rfl (by first | (go_simp; done) | (go_simp; rfl)) ?aP (fun _ hk => hk.elim) ?aF ?aO ?aB ?aS ?aL ?_; (case aP => exact rfl); (case aB => exact (by repeat (first | (with_reducible first | exact HB.out | apply bA | apply bN | apply bD | refine bS ?_ ‹_›) | exact HB.out))); (case aF => exact (fun _ _ => trivial)); (case aO => exact (uR (Kd.R_mono (Kd.R_far (p := ⟨gb209, 3, none⟩) (Kd.R_types HO_210002.out BK209.out (by decide)) (fun _ hk => hk.2) (.slice Ao229 y241.length co229)) (fun _ hk => trivial)))); (case aS => exact (below_size (by repeat (first | (with_reducible first | exact HB.out | apply bA | apply bN | apply bD | refine bS ?_ ‹_›) | exact HB.out)))); (case aL => have := LMc209.out; omega); intro v245 w231 ho hb hg hat; rw [← Ny244.out] at ho; have n0_ := aM (Kd.R_over' (uR ((Kd.R_mono (Kd.R_far (p := ⟨gb209, 3, none⟩) (Kd.R_types HO_11.out BK209.out (by decide)) (fun _ hk => hk.2) (.slice Ao229 y241.length co229)) (fun _ h_ => h_.1)))) (Kd.R_typed (uR ((Kd.R_mono (Kd.R_far (p := ⟨gb209, 3, none⟩) (Kd.R_types HO_210002.out BK209.out (by decide)) (fun _ hk => hk.2) (.slice Ao229 y241.length co229)) (fun _ h_ => h_.1))))) (by decide) hg); have n1_ := aM (blk_grown (g := gb199) (o := .cells #[.int .i64 a0_0, .int .i64 a0_1, .slice (some ad226) l0_2.length c0_2, .slice A0_3 l0_3.length c0_3] 25 (0, 0)) (by (with_reducible repeat (first | refine kN ?_ | refine kD ?_ | refine kA ?_ | refine blk_far ?_ NB199_209.out _)); exact BK199.out) hg (Kd.R_ne HO_210002.out BK199.out (by decide))); have n2_ := aM (blk_grown (g := gb200) (o := .cells #[.int .i64 a1_0, .int .i64 a1_1, .slice (some ad240) l1_2.length c1_2, .slice A1_3 l1_3.length c1_3] 25 (0, 0)) (by (with_reducible repeat (first | refine kN ?_ | refine kD ?_ | refine kA ?_ | refine blk_far ?_ NB200_209.out _)); exact BK200.out) hg (Kd.R_ne HO_210002.out BK200.out (by decide))); have n3_ := aM (blk_grown (g := gb201) (o := .cells #[.int .i64 x202000_3, .int .i64 x202001_3, .slice none 0 0, .slice none 0 0] 25 (0, 0)) (by (with_reducible repeat (first | refine kN ?_ | refine kD ?_ | refine kA ?_ | refine blk_far ?_ NB201_209.out _)); exact BK201.out) hg (Kd.R_ne HO_210002.out BK201.out (by decide))); have n4_ := aM (blk_grown (g := gb204) (o := mapO ek64 (Value.int .i64) x205000_3) (by (with_reducible repeat (first | refine kN ?_ | refine kD ?_ | refine kA ?_)); refine blkF ?_ NB204_209.out _; (with_reducible repeat (first | refine kN ?_ | refine kD ?_ | refine kA ?_)); exact BK204.out) hg (R_neM HO_210002.out BK204.out)); have n5_ := aM (blk_grown (g := gb209) (o := .cells #[.int .i64 a0_0, .int .i64 0, u210002, .slice Ao229 y241.length co229] 25 (0, 0)) (by (with_reducible repeat (first | refine kN ?_ | refine kD ?_ | refine kA ?_)); refine blk_put (cs := #[.int .i64 a0_0, .int .i64 0, u210002, u210003]) ?_ 3 _ rfl; (with_reducible repeat (first | refine kN ?_ | refine kD ?_ | refine kA ?_)); exact BK209.out) hg (Kd.R_ne HO_210002.out BK209.out (by decide))); have n6_ := aM (blk_grown (g := gb211) (o := .cells #[.int .i64 ((rd_T64 x11_2 x13_2).f0), .int .i64 ((rd_T64 x11_2 x13_2).f1)] 64 (0, 0)) (by (with_reducible repeat (first | refine kN ?_ | refine kD ?_ | refine kA ?_ | refine blk_far ?_ NB211_209.out _)); exact BK211.out) hg (Kd.R_ne HO_210002.out BK211.out (by decide))); have n7_ := aM (Kd.S_over' (by (with_reducible repeat (first | apply Kd.S_alloc | apply Kd.S_drewN | apply Kd.S_drew)); exact (Kd.S_mono (Kd.S_far (p := ⟨gb209, 3, none⟩) (Kd.S_types HO243.out BK209.out (by decide)) (fun _ hk => hk.2) (.slice Ao229 y241.length co229)) (fun _ h_ => h_.1))) (Kd.R_typed (uR ((Kd.R_mono (Kd.R_far (p := ⟨gb209, 3, none⟩) (Kd.R_types HO_210002.out BK209.out (by decide)) (fun _ hk => hk.2) (.slice Ao229 y241.length co229)) (fun _ h_ => h_.1))))) (by decide) hg); have n8_ := aM (hb); have n9_ := aM (ho); clear HO_11; clear BK199; clear BK200; clear BK201; clear BK204; clear BK209; clear BK211; clear HO243; clear HB; clear HO_210002; have HO_11 := n0_; have BK199 := n1_; have BK200 := n2_; have BK201 := n3_; have BK204 := n4_; have BK209 := n5_; have BK211 := n6_; have HO243 := n7_; have HB := n8_; have HO246 := n9_; clear n0_ n1_ n2_ n3_ n4_ n5_ n6_ n7_ n8_ n9_; clear ho hb hg hat; obtain ⟨Ao232, co232, eo232⟩ := Kd.R_slice HO246.out; subst eo232; have hcz233_0 : w231.cell? ⟨gb209, 0, none⟩ = some (.int .i64 a0_0) := (blk_cell BK209.out 0).trans rfl; have hcz233_1 : w231.cell? ⟨gb209, 1, none⟩ = some (.int .i64 0) := (blk_cell BK209.out 1).trans rfl; have hcz233_2 : w231.cell? ⟨gb209, 2, none⟩ = some (u210002) := (blk_cell BK209.out 2).trans rfl; have hcz233_3 : w231.cell? ⟨gb209, 3, none⟩ = some (.slice Ao229 y241.length co229) := (blk_cell BK209.out 3).trans rfl; have hfz233_0 := blk_frozen BK209.out 0; have hfz233_1 := blk_frozen BK209.out 1; have hfz233_2 := blk_frozen BK209.out 2; have hfz233_3 := blk_frozen BK209.out 3))
       (try simp only [← hl15_3])
       go_roundg k3
       case measure => have := HJ7.out; have := HK2.out; have := HK3.out; omega
       case rel => exact ⟨(x11_3), (wrap64 (x13_2 + 1)), (x202000_3), (x202001_3), (x205000_3), (y244), (y241), (.slice Ao232 y244.length co232), (.slice Ao229 y241.length co229), (by first | rfl | (simp; done) | (simp [*]; done)), H', ⟨by have := HJ7.out; have := HK2.out; have := HK3.out; omega⟩, ⟨by (try simp only [hl15_3]); (with_reducible repeat (first | apply Kd.R_alloc | apply Kd.R_drewN | apply Kd.R_drew)); exact Kd.R_mono (Kd.R_far (p := ⟨gb209, 2, none⟩) (Kd.R_types HO_11.out BK209.out (by decide)) (fun _ hk => hk.2) (.slice Ao232 y244.length co232)) (fun _ hk => trivial)⟩, ⟨by (try simp only [hl15_3]); (with_reducible repeat (first | apply Kd.R_alloc | apply Kd.R_drewN | apply Kd.R_drew)); exact Kd.R_mono (Kd.R_far (p := ⟨gb209, 2, none⟩) (Kd.R_types HO246.out BK209.out (by decide)) (fun _ hk => hk.2) (.slice Ao232 y244.length co232)) (fun _ hk => trivial)⟩, ⟨by (try simp only [hl15_3]); (with_reducible repeat (first | apply Kd.S_alloc | apply Kd.S_drewN | apply Kd.S_drew)); exact Kd.S_mono (Kd.S_far (p := ⟨gb209, 2, none⟩) (Kd.S_types HO243.out BK209.out (by decide)) (fun _ hk => hk.2) (.slice Ao232 y244.length co232)) (fun _ hk => trivial)⟩, ⟨by (try simp only [hl15_3]); (with_reducible repeat (first | refine kN ?_ | refine kD ?_ | refine kA ?_ | refine blk_far ?_ NB199_209.out _)); exact BK199.out⟩, ⟨by (try simp only [hl15_3]); (with_reducible repeat (first | refine kN ?_ | refine kD ?_ | refine kA ?_ | refine blk_far ?_ NB200_209.out _)); exact BK200.out⟩, ⟨by (try simp only [hl15_3]); (with_reducible repeat (first | refine kN ?_ | refine kD ?_ | refine kA ?_ | refine blk_far ?_ NB201_209.out _)); exact BK201.out⟩, ⟨by (try simp only [hl15_3]); (with_reducible repeat (first | refine kN ?_ | refine kD ?_ | refine kA ?_)); refine blkF ?_ NB204_209.out _; (with_reducible repeat (first | refine kN ?_ | refine kD ?_ | refine kA ?_)); exact BK204.out⟩, ⟨by (try simp only [hl15_3]); (with_reducible repeat (first | refine kN ?_ | refine kD ?_ | refine kA ?_)); refine blk_put (cs := #[.int .i64 a0_0, .int .i64 0, u210002, .slice Ao229 y241.length co229]) ?_ 2 _ rfl; (with_reducible repeat (first | refine kN ?_ | refine kD ?_ | refine kA ?_)); exact BK209.out⟩, ⟨by repeat (first | (with_reducible first | exact HB.out | apply bA | apply bN | apply bD | refine bS ?_ ‹_›) | exact HB.out)⟩⟩
       )
       (focus
       rw [if_neg c209] at H
       exact absurd H (by simp)
       )
       )
       (focus
       rw [if_neg c208] at H
       exact absurd H (by simp)
       )
       )
       (focus
       replace c207 := Bool.eq_false_iff.mpr c207
       subst c207
       have H1 : (if x210003_2.length < 5864062014805 then (if x210002_2.length < 140737488355328 then (dfa_Product.l0 k3 a2 x11_3 (wrap64 (x13_2 + 1)) a0_0 a0_1 l0_2 l0_3 a1_0 a1_1 l1_2 l1_3 x205000_3 a0_0 0 (x210002_2 ++ [((Go.bits .and .i64 a2 1) == 1)]) (x210003_2 ++ [x15_3])) else (none)) else (none)) = some (r1, r2, r3, r4, r5) := by rw [if_neg (show ¬ (false = true) by decide)] at H; exact H
       clear H
       have H := H1
       clear H1
       by_cases c234 : x210003_2.length < 5864062014805
       (focus
       rw [if_pos c234] at H
       have LMc234 := Aside0.mk c234
       clear c234
       obtain ⟨y247, hy247⟩ : ∃ y_ : List (List Int), y_ = (x210003_2 ++ [x15_3]) := ⟨_, rfl⟩
       replace H : (if x210002_2.length < 140737488355328 then (dfa_Product.l0 k3 a2 x11_3 (wrap64 (x13_2 + 1)) a0_0 a0_1 l0_2 l0_3 a1_0 a1_1 l1_2 l1_3 x205000_3 a0_0 0 (x210002_2 ++ [((Go.bits .and .i64 a2 1) == 1)]) y247) else (none)) = some (r1, r2, r3, r4, r5) := by first | (rw [hy247]; with_reducible exact H) | (have H2_ := (Option.bind_some _ _).symm.trans H; rw [hy247]; with_reducible exact H2_) | (have H2_ := (Option.bind_some _ _).symm.trans H; with_reducible exact H2_) | with_reducible exact H | (rw [hy247]; exact H) | exact H
       have Ny247 := Aside0.mk hy247
       clear hy247
       by_cases c235 : x210002_2.length < 140737488355328
       (focus
       rw [if_pos c235] at H
       have LMc235 := Aside0.mk c235
       clear c235
       obtain ⟨y250, hy250⟩ : ∃ y_ : List Bool, y_ = (x210002_2 ++ [((Go.bits .and .i64 a2 1) == 1)]) := ⟨_, rfl⟩
       replace H : (dfa_Product.l0 k3 a2 x11_3 (wrap64 (x13_2 + 1)) a0_0 a0_1 l0_2 l0_3 a1_0 a1_1 l1_2 l1_3 x205000_3 a0_0 0 y250 y247) = some (r1, r2, r3, r4, r5) := by first | (rw [hy250]; with_reducible exact H) | (have H2_ := (Option.bind_some _ _).symm.trans H; rw [hy250]; with_reducible exact H2_) | (have H2_ := (Option.bind_some _ _).symm.trans H; with_reducible exact H2_) | with_reducible exact H | (rw [hy250]; exact H) | exact H
       have Ny250 := Aside0.mk hy250
       clear hy250
       have H' := Aside0.mk H
       clear H
       have hnb236 := NB199_200.out
       have hnc236 := NB200_199.out
       have hnb237 := NB199_201.out
       have hnc237 := NB201_199.out
       have hnb238 := NB199_204.out
       have hnc238 := NB204_199.out
       have hnb239 := NB199_209.out
       have hnc239 := NB209_199.out
       have hnb240 := NB199_211.out
       have hnc240 := NB211_199.out
       have hcz241_0 : wr.cell? ⟨gb199, 0, none⟩ = some (.int .i64 a0_0) := (blk_cell BK199.out 0).trans rfl
       have hcz241_1 : wr.cell? ⟨gb199, 1, none⟩ = some (.int .i64 a0_1) := (blk_cell BK199.out 1).trans rfl
       have hcz241_2 : wr.cell? ⟨gb199, 2, none⟩ = some (.slice A0_2 l0_2.length c0_2) := (blk_cell BK199.out 2).trans rfl
       have hcz241_3 : wr.cell? ⟨gb199, 3, none⟩ = some (.slice A0_3 l0_3.length c0_3) := (blk_cell BK199.out 3).trans rfl
       have hfz241_0 := blk_frozen BK199.out 0
       have hfz241_1 := blk_frozen BK199.out 1
       have hfz241_2 := blk_frozen BK199.out 2
       have hfz241_3 := blk_frozen BK199.out 3
       have hnb242 := NB211_200.out
       have hnc242 := NB200_211.out
       have hnb243 := NB211_201.out
       have hnc243 := NB201_211.out
       have hnb244 := NB211_204.out
       have hnc244 := NB204_211.out
       have hnb245 := NB211_209.out
       have hnc245 := NB209_211.out
       have hcz246_0 : wr.cell? ⟨gb211, 0, none⟩ = some (.int .i64 ((rd_T64 x11_2 x13_2).f0)) := (blk_cell BK211.out 0).trans rfl
       have hcz246_1 : wr.cell? ⟨gb211, 1, none⟩ = some (.int .i64 ((rd_T64 x11_2 x13_2).f1)) := (blk_cell BK211.out 1).trans rfl
       have hfz246_0 := blk_frozen BK211.out 0
       have hfz246_1 := blk_frozen BK211.out 1
       have p226 : 0 ≤ (((rd_T64 x11_2 x13_2).f0) : Int) := of_decide_eq_true (by assumption)
       have q226 : ((rd_T64 x11_2 x13_2).f0) < (l0_2.length : Int) := of_decide_eq_true (by assumption)
       obtain ⟨ad226, e226, hx226_0⟩ := Kd.at_bool HR0_2.out ((rd_T64 x11_2 x13_2).f0) p226 q226
       (try rw [← Nbq146.out] at hx226_0)
       (try rw [← Nbq206.out] at hx226_0)
       cases e226
       (try replace hx226_0 := (HB.out.cell (World.block_lt_of_cell? w _ hx226_0)).trans hx226_0)
       replace p226 := eq_true p226
       replace q226 := eq_true q226
       have hnb247 := NB200_201.out
       have hnc247 := NB201_200.out
       have hnb248 := NB200_204.out
       have hnc248 := NB204_200.out
       have hnb249 := NB200_209.out
       have hnc249 := NB209_200.out
       have hcz250_0 : wr.cell? ⟨gb200, 0, none⟩ = some (.int .i64 a1_0) := (blk_cell BK200.out 0).trans rfl
       have hcz250_1 : wr.cell? ⟨gb200, 1, none⟩ = some (.int .i64 a1_1) := (blk_cell BK200.out 1).trans rfl
       have hcz250_2 : wr.cell? ⟨gb200, 2, none⟩ = some (.slice A1_2 l1_2.length c1_2) := (blk_cell BK200.out 2).trans rfl
       have hcz250_3 : wr.cell? ⟨gb200, 3, none⟩ = some (.slice A1_3 l1_3.length c1_3) := (blk_cell BK200.out 3).trans rfl
       have hfz250_0 := blk_frozen BK200.out 0
       have hfz250_1 := blk_frozen BK200.out 1
       have hfz250_2 := blk_frozen BK200.out 2
       have hfz250_3 := blk_frozen BK200.out 3
       have p240 : 0 ≤ (((rd_T64 x11_2 x13_2).f1) : Int) := of_decide_eq_true (by assumption)
       have q240 : ((rd_T64 x11_2 x13_2).f1) < (l1_2.length : Int) := of_decide_eq_true (by assumption)
       obtain ⟨ad240, e240, hx240_0⟩ := Kd.at_bool HR1_2.out ((rd_T64 x11_2 x13_2).f1) p240 q240
       (try rw [← Nbq146.out] at hx240_0)
       (try rw [← Nbq206.out] at hx240_0)
       cases e240
       (try replace hx240_0 := (HB.out.cell (World.block_lt_of_cell? w _ hx240_0)).trans hx240_0)
       replace p240 := eq_true p240
       replace q240 := eq_true q240
       have hnb251 := NB209_201.out
       have hnc251 := NB201_209.out
       have hnb252 := NB209_204.out
       have hnc252 := NB204_209.out
       have hcz253_0 : wr.cell? ⟨gb209, 0, none⟩ = some (.int .i64 a0_0) := (blk_cell BK209.out 0).trans rfl
       have hcz253_1 : wr.cell? ⟨gb209, 1, none⟩ = some (.int .i64 0) := (blk_cell BK209.out 1).trans rfl
       have hcz253_2 : wr.cell? ⟨gb209, 2, none⟩ = some (u210002) := (blk_cell BK209.out 2).trans rfl
       have hcz253_3 : wr.cell? ⟨gb209, 3, none⟩ = some (u210003) := (blk_cell BK209.out 3).trans rfl
       have hfz253_0 := blk_frozen BK209.out 0
       have hfz253_1 := blk_frozen BK209.out 1
       have hfz253_2 := blk_frozen BK209.out 2
       have hfz253_3 := blk_frozen BK209.out 3
       go_wp2_with (first | ((with_reducible refine gate_builtin (b := .append) (xs := #[.tmp 143, .tmp 145]) rfl ?_); at_builtin; refine Kd.S_append (Kd.slice 3 (Kd.int .i64)) (w0 := w) w.heap.size rfl (.tmp 143) (.tmp 145) 23 38 (.slice none 0 0) 24 rfl Try.underlying23 info38 rfl (by decide) (by omega) u210003 x210003_2 x15_3 [.slice Ao79 x15_3.length co79] (fun _ => True) (fun k_ => some k_ = (.slice Ao79 x15_3.length co79 : Value).ownBlock) rfl rfl ?aP (fun k_ hk_ => ((Kd.R_mono (ok' := fun k_ => ((fun _ => True)) k_ ∧ some k_ ≠ (u210003 : Value).ownBlock) (Kd.R_apart' (HO_15.out) (Kd.S_typed HO_210003.out) (by decide)) (fun k_ hk => ⟨trivial, hk.2⟩))).1 k_ hk_.symm) ?aF ?aO ?aB ?aS ?aL ?_; (case aP => exact Kd.M_row (Kd.R_mono (Kd.R_tight rfl (Kd.R_mono (ok' := fun k_ => ((fun _ => True)) k_ ∧ some k_ ≠ (u210003 : Value).ownBlock) (Kd.R_apart' (HO_15.out) (Kd.S_typed HO_210003.out) (by decide)) (fun k_ hk => ⟨trivial, hk.2⟩))) (fun _ h_ => h_))); (case aB => exact (by repeat (first | (with_reducible first | exact HB.out | apply bA | apply bN | apply bD | refine bS ?_ ‹_›) | exact HB.out))); (case aF => exact (fun _ _ => trivial)); (case aO => exact (by (with_reducible repeat (first | apply Kd.S_alloc | apply Kd.S_drewN | apply Kd.S_drew)); exact Kd.S_mono HO_210003.out (fun k_ hk => ⟨trivial, fun e_ => hk e_⟩))); (case aS => exact (below_size (by repeat (first | (with_reducible first | exact HB.out | apply bA | apply bN | apply bD | refine bS ?_ ‹_›) | exact HB.out)))); (case aL => have := LMc234.out; omega); intro v248 w254 ho hb hg hat; rw [← Ny247.out] at ho; have n0_ := aM (Kd.R_over' (uR HO_11.out) (Kd.S_typed (by (with_reducible repeat (first | apply Kd.S_alloc | apply Kd.S_drewN | apply Kd.S_drew)); exact HO_210003.out)) (by decide) hg); have n1_ := aM (Kd.R_over' (uR HO_210002.out) (Kd.S_typed (by (with_reducible repeat (first | apply Kd.S_alloc | apply Kd.S_drewN | apply Kd.S_drew)); exact HO_210003.out)) (by decide) hg); have n2_ := aM (blk_grown (uB BK199.out) hg (Kd.S_ne HO_210003.out BK199.out (by decide))); have n3_ := aM (blk_grown (uB BK200.out) hg (Kd.S_ne HO_210003.out BK200.out (by decide))); have n4_ := aM (blk_grown (uB BK201.out) hg (Kd.S_ne HO_210003.out BK201.out (by decide))); have n5_ := aM (blk_grown (g := gb204) (o := mapO ek64 (Value.int .i64) x205000_3) (uB BK204.out) hg (S_neM HO_210003.out BK204.out)); have n6_ := aM (blk_grown (uB BK209.out) hg (Kd.S_ne HO_210003.out BK209.out (by decide))); have n7_ := aM (blk_grown (uB BK211.out) hg (Kd.S_ne HO_210003.out BK211.out (by decide))); have n8_ := aM (hb); have n9_ := aM (ho); clear HO_11; clear HO_210002; clear BK199; clear BK200; clear BK201; clear BK204; clear BK209; clear BK211; clear HB; clear HO_210003; clear HO_15; have HO_11 := n0_; have HO_210002 := n1_; have BK199 := n2_; have BK200 := n3_; have BK201 := n4_; have BK204 := n5_; have BK209 := n6_; have BK211 := n7_; have HB := n8_; have HO249 := n9_; clear n0_ n1_ n2_ n3_ n4_ n5_ n6_ n7_ n8_ n9_; clear ho hb hg hat; obtain ⟨Ao255, co255, eo255⟩ := Kd.S_slice HO249.out; subst eo255; have hcz256_0 : w254.cell? ⟨gb209, 0, none⟩ = some (.int .i64 a0_0) := (blk_cell BK209.out 0).trans rfl; have hcz256_1 : w254.cell? ⟨gb209, 1, none⟩ = some (.int .i64 0) := (blk_cell BK209.out 1).trans rfl; have hcz256_2 : w254.cell? ⟨gb209, 2, none⟩ = some (u210002) := (blk_cell BK209.out 2).trans rfl; have hcz256_3 : w254.cell? ⟨gb209, 3, none⟩ = some (u210003) := (blk_cell BK209.out 3).trans rfl; have hfz256_0 := blk_frozen BK209.out 0; have hfz256_1 := blk_frozen BK209.out 1; have hfz256_2 := blk_frozen BK209.out 2; have hfz256_3 := blk_frozen BK209.out 3) | ((with_reducible refine gate_builtin (b := .append) (xs := #[.tmp 149, .tmp 156]) rfl ?_); at_builtin; refine Kd.R_append Kd.bool (w0 := w) w.heap.size rfl (.tmp 149) (.tmp 156) 22 4 (.bool false) 1 rfl Try.underlying22 info4 rfl (by decide) (by omega) u210002 x210002_2 ((Go.bits .and .i64 a2 1) == 1) [.bool ((Go.bits .and .i64 a2 1) == 1)] (fun _ => True) (fun _ => False) rfl (by first | (go_simp; done) | (go_simp; rfl)) ?aP (fun _ hk => hk.elim) ?aF ?aO ?aB ?aS ?aL ?_; (case aP => exact rfl); (case aB => exact (by repeat (first | (with_reducible first | exact HB.out | apply bA | apply bN | apply bD | refine bS ?_ ‹_›) | exact HB.out))); (case aF => exact (fun _ _ => trivial)); (case aO => exact (uR (Kd.R_mono (Kd.R_far (p := ⟨gb209, 3, none⟩) (Kd.R_types HO_210002.out BK209.out (by decide)) (fun _ hk => hk.2) (.slice Ao255 y247.length co255)) (fun _ hk => trivial)))); (case aS => exact (below_size (by repeat (first | (with_reducible first | exact HB.out | apply bA | apply bN | apply bD | refine bS ?_ ‹_›) | exact HB.out)))); (case aL => have := LMc235.out; omega); intro v251 w257 ho hb hg hat; rw [← Ny250.out] at ho; have n0_ := aM (Kd.R_over' (uR ((Kd.R_mono (Kd.R_far (p := ⟨gb209, 3, none⟩) (Kd.R_types HO_11.out BK209.out (by decide)) (fun _ hk => hk.2) (.slice Ao255 y247.length co255)) (fun _ h_ => h_.1)))) (Kd.R_typed (uR ((Kd.R_mono (Kd.R_far (p := ⟨gb209, 3, none⟩) (Kd.R_types HO_210002.out BK209.out (by decide)) (fun _ hk => hk.2) (.slice Ao255 y247.length co255)) (fun _ h_ => h_.1))))) (by decide) hg); have n1_ := aM (blk_grown (g := gb199) (o := .cells #[.int .i64 a0_0, .int .i64 a0_1, .slice (some ad226) l0_2.length c0_2, .slice A0_3 l0_3.length c0_3] 25 (0, 0)) (by (with_reducible repeat (first | refine kN ?_ | refine kD ?_ | refine kA ?_ | refine blk_far ?_ NB199_209.out _)); exact BK199.out) hg (Kd.R_ne HO_210002.out BK199.out (by decide))); have n2_ := aM (blk_grown (g := gb200) (o := .cells #[.int .i64 a1_0, .int .i64 a1_1, .slice (some ad240) l1_2.length c1_2, .slice A1_3 l1_3.length c1_3] 25 (0, 0)) (by (with_reducible repeat (first | refine kN ?_ | refine kD ?_ | refine kA ?_ | refine blk_far ?_ NB200_209.out _)); exact BK200.out) hg (Kd.R_ne HO_210002.out BK200.out (by decide))); have n3_ := aM (blk_grown (g := gb201) (o := .cells #[.int .i64 x202000_3, .int .i64 x202001_3, .slice none 0 0, .slice none 0 0] 25 (0, 0)) (by (with_reducible repeat (first | refine kN ?_ | refine kD ?_ | refine kA ?_ | refine blk_far ?_ NB201_209.out _)); exact BK201.out) hg (Kd.R_ne HO_210002.out BK201.out (by decide))); have n4_ := aM (blk_grown (g := gb204) (o := mapO ek64 (Value.int .i64) x205000_3) (by (with_reducible repeat (first | refine kN ?_ | refine kD ?_ | refine kA ?_)); refine blkF ?_ NB204_209.out _; (with_reducible repeat (first | refine kN ?_ | refine kD ?_ | refine kA ?_)); exact BK204.out) hg (R_neM HO_210002.out BK204.out)); have n5_ := aM (blk_grown (g := gb209) (o := .cells #[.int .i64 a0_0, .int .i64 0, u210002, .slice Ao255 y247.length co255] 25 (0, 0)) (by (with_reducible repeat (first | refine kN ?_ | refine kD ?_ | refine kA ?_)); refine blk_put (cs := #[.int .i64 a0_0, .int .i64 0, u210002, u210003]) ?_ 3 _ rfl; (with_reducible repeat (first | refine kN ?_ | refine kD ?_ | refine kA ?_)); exact BK209.out) hg (Kd.R_ne HO_210002.out BK209.out (by decide))); have n6_ := aM (blk_grown (g := gb211) (o := .cells #[.int .i64 ((rd_T64 x11_2 x13_2).f0), .int .i64 ((rd_T64 x11_2 x13_2).f1)] 64 (0, 0)) (by (with_reducible repeat (first | refine kN ?_ | refine kD ?_ | refine kA ?_ | refine blk_far ?_ NB211_209.out _)); exact BK211.out) hg (Kd.R_ne HO_210002.out BK211.out (by decide))); have n7_ := aM (Kd.S_over' (by (with_reducible repeat (first | apply Kd.S_alloc | apply Kd.S_drewN | apply Kd.S_drew)); exact (Kd.S_mono (Kd.S_far (p := ⟨gb209, 3, none⟩) (Kd.S_types HO249.out BK209.out (by decide)) (fun _ hk => hk.2) (.slice Ao255 y247.length co255)) (fun _ h_ => h_.1))) (Kd.R_typed (uR ((Kd.R_mono (Kd.R_far (p := ⟨gb209, 3, none⟩) (Kd.R_types HO_210002.out BK209.out (by decide)) (fun _ hk => hk.2) (.slice Ao255 y247.length co255)) (fun _ h_ => h_.1))))) (by decide) hg); have n8_ := aM (hb); have n9_ := aM (ho); clear HO_11; clear BK199; clear BK200; clear BK201; clear BK204; clear BK209; clear BK211; clear HO249; clear HB; clear HO_210002; have HO_11 := n0_; have BK199 := n1_; have BK200 := n2_; have BK201 := n3_; have BK204 := n4_; have BK209 := n5_; have BK211 := n6_; have HO249 := n7_; have HB := n8_; have HO252 := n9_; clear n0_ n1_ n2_ n3_ n4_ n5_ n6_ n7_ n8_ n9_; clear ho hb hg hat; obtain ⟨Ao258, co258, eo258⟩ := Kd.R_slice HO252.out; subst eo258; have hcz259_0 : w257.cell? ⟨gb209, 0, none⟩ = some (.int .i64 a0_0) := (blk_cell BK209.out 0).trans rfl; have hcz259_1 : w257.cell? ⟨gb209, 1, none⟩ = some (.int .i64 0) := (blk_cell BK209.out 1).trans rfl; have hcz259_2 : w257.cell? ⟨gb209, 2, none⟩ = some (u210002) := (blk_cell BK209.out 2).trans rfl; have hcz259_3 : w257.cell? ⟨gb209, 3, none⟩ = some (.slice Ao255 y247.length co255) := (blk_cell BK209.out 3).trans rfl; have hfz259_0 := blk_frozen BK209.out 0; have hfz259_1 := blk_frozen BK209.out 1; have hfz259_2 := blk_frozen BK209.out 2; have hfz259_3 := blk_frozen BK209.out 3))
       (try simp only [← hl15_3])
       go_roundg k3
       case measure => have := HJ7.out; have := HK2.out; have := HK3.out; omega
       case rel => exact ⟨(x11_3), (wrap64 (x13_2 + 1)), (x202000_3), (x202001_3), (x205000_3), (y250), (y247), (.slice Ao258 y250.length co258), (.slice Ao255 y247.length co255), (by first | rfl | (simp; done) | (simp [*]; done)), H', ⟨by have := HJ7.out; have := HK2.out; have := HK3.out; omega⟩, ⟨by (try simp only [hl15_3]); (with_reducible repeat (first | apply Kd.R_alloc | apply Kd.R_drewN | apply Kd.R_drew)); exact Kd.R_mono (Kd.R_far (p := ⟨gb209, 2, none⟩) (Kd.R_types HO_11.out BK209.out (by decide)) (fun _ hk => hk.2) (.slice Ao258 y250.length co258)) (fun _ hk => trivial)⟩, ⟨by (try simp only [hl15_3]); (with_reducible repeat (first | apply Kd.R_alloc | apply Kd.R_drewN | apply Kd.R_drew)); exact Kd.R_mono (Kd.R_far (p := ⟨gb209, 2, none⟩) (Kd.R_types HO252.out BK209.out (by decide)) (fun _ hk => hk.2) (.slice Ao258 y250.length co258)) (fun _ hk => trivial)⟩, ⟨by (try simp only [hl15_3]); (with_reducible repeat (first | apply Kd.S_alloc | apply Kd.S_drewN | apply Kd.S_drew)); exact Kd.S_mono (Kd.S_far (p := ⟨gb209, 2, none⟩) (Kd.S_types HO249.out BK209.out (by decide)) (fun _ hk => hk.2) (.slice Ao258 y250.length co258)) (fun _ hk => trivial)⟩, ⟨by (try simp only [hl15_3]); (with_reducible repeat (first | refine kN ?_ | refine kD ?_ | refine kA ?_ | refine blk_far ?_ NB199_209.out _)); exact BK199.out⟩, ⟨by (try simp only [hl15_3]); (with_reducible repeat (first | refine kN ?_ | refine kD ?_ | refine kA ?_ | refine blk_far ?_ NB200_209.out _)); exact BK200.out⟩, ⟨by (try simp only [hl15_3]); (with_reducible repeat (first | refine kN ?_ | refine kD ?_ | refine kA ?_ | refine blk_far ?_ NB201_209.out _)); exact BK201.out⟩, ⟨by (try simp only [hl15_3]); (with_reducible repeat (first | refine kN ?_ | refine kD ?_ | refine kA ?_)); refine blkF ?_ NB204_209.out _; (with_reducible repeat (first | refine kN ?_ | refine kD ?_ | refine kA ?_)); exact BK204.out⟩, ⟨by (try simp only [hl15_3]); (with_reducible repeat (first | refine kN ?_ | refine kD ?_ | refine kA ?_)); refine blk_put (cs := #[.int .i64 a0_0, .int .i64 0, u210002, .slice Ao255 y247.length co255]) ?_ 2 _ rfl; (with_reducible repeat (first | refine kN ?_ | refine kD ?_ | refine kA ?_)); exact BK209.out⟩, ⟨by repeat (first | (with_reducible first | exact HB.out | apply bA | apply bN | apply bD | refine bS ?_ ‹_›) | exact HB.out)⟩⟩
       )
       (focus
       rw [if_neg c235] at H
       exact absurd H (by simp)
       )
       )
       (focus
       rw [if_neg c234] at H
       exact absurd H (by simp)
       )
       )
       )
       (focus
       rw [if_neg c205] at H
       exact absurd H (by simp)
       )
       )
       (focus
       rw [if_neg c204] at H
       exact absurd H (by simp)
       )
       )
       )
       (focus
       rw [if_neg c145] at H
       exact absurd H (by simp)
       )
       )
       (focus
       rw [if_neg c144] at H
       exact absurd H (by simp)
       )
       )
     )
     (focus
     rw [if_neg c63] at H
     exact absurd H (by simp)
     )
     )
     (focus
     rw [if_neg c62] at H
     exact absurd H (by simp)
     )
     )
     (focus
     rw [if_neg c61] at H
     exact absurd H (by simp)
     )
     )
     (focus
     rw [if_neg c60] at H
     have c60b0 : decide (x13_2 < (x11_2.length : Int)) = false := decide_eq_false c60
     clear c60
     simp only [Option.some.injEq, Prod.mk.injEq] at H
     obtain ⟨rfl, rfl, rfl, rfl, rfl⟩ := H
     obtain ⟨Ao260, co260, eo260⟩ := Kd.R_slice HO_11.out
     subst eo260
     have hnb261 := NB209_199.out
     have hnc261 := NB199_209.out
     have hnb262 := NB209_200.out
     have hnc262 := NB200_209.out
     have hnb263 := NB209_201.out
     have hnc263 := NB201_209.out
     have hnb264 := NB209_204.out
     have hnc264 := NB204_209.out
     have hcz265_0 : wr.cell? ⟨gb209, 0, none⟩ = some (.int .i64 a0_0) := (blk_cell BK209.out 0).trans rfl
     have hcz265_1 : wr.cell? ⟨gb209, 1, none⟩ = some (.int .i64 0) := (blk_cell BK209.out 1).trans rfl
     have hcz265_2 : wr.cell? ⟨gb209, 2, none⟩ = some (u210002) := (blk_cell BK209.out 2).trans rfl
     have hcz265_3 : wr.cell? ⟨gb209, 3, none⟩ = some (u210003) := (blk_cell BK209.out 3).trans rfl
     have hfz265_0 := blk_frozen BK209.out 0
     have hfz265_1 := blk_frozen BK209.out 1
     have hfz265_2 := blk_frozen BK209.out 2
     have hfz265_3 := blk_frozen BK209.out 3
     have hnb266 := NB201_199.out
     have hnc266 := NB199_201.out
     have hnb267 := NB201_200.out
     have hnc267 := NB200_201.out
     have hnb268 := NB201_204.out
     have hnc268 := NB204_201.out
     have hcz269_0 : wr.cell? ⟨gb201, 0, none⟩ = some (.int .i64 x202000_2) := (blk_cell BK201.out 0).trans rfl
     have hcz269_1 : wr.cell? ⟨gb201, 1, none⟩ = some (.int .i64 x202001_2) := (blk_cell BK201.out 1).trans rfl
     have hcz269_2 : wr.cell? ⟨gb201, 2, none⟩ = some (.slice none 0 0) := (blk_cell BK201.out 2).trans rfl
     have hcz269_3 : wr.cell? ⟨gb201, 3, none⟩ = some (.slice none 0 0) := (blk_cell BK201.out 3).trans rfl
     have hfz269_0 := blk_frozen BK201.out 0
     have hfz269_1 := blk_frozen BK201.out 1
     have hfz269_2 := blk_frozen BK201.out 2
     have hfz269_3 := blk_frozen BK201.out 3
     obtain ⟨Ao270, co270, eo270⟩ := Kd.R_slice HO_210002.out
     subst eo270
     obtain ⟨Ao271, co271, eo271⟩ := Kd.S_slice HO_210003.out
     subst eo271
     go_wp2
     refine bodyPost_ret (results_ct rfl _ _ gb201 25 #[.int .i64 a0_0, .int .i64 0, .slice Ao270 x210002_2.length co270, .slice Ao271 x210003_2.length co271] (0, 0) _ rfl (by (with_reducible repeat (first | refine kN ?_ | refine kD ?_ | refine kA ?_)); refine blk_put (cs := #[.int .i64 a0_0, .int .i64 0, .slice Ao270 x210002_2.length co270, .slice none 0 0]) ?_ 3 _ rfl; (with_reducible repeat (first | refine kN ?_ | refine kD ?_ | refine kA ?_)); refine blk_put (cs := #[.int .i64 a0_0, .int .i64 0, .slice none 0 0, .slice none 0 0]) ?_ 2 _ rfl; (with_reducible repeat (first | refine kN ?_ | refine kD ?_ | refine kA ?_)); refine blk_put (cs := #[.int .i64 a0_0, .int .i64 x202001_2, .slice none 0 0, .slice none 0 0]) ?_ 1 _ rfl; (with_reducible repeat (first | refine kN ?_ | refine kD ?_ | refine kA ?_)); refine blk_put (cs := #[.int .i64 x202000_2, .int .i64 x202001_2, .slice none 0 0, .slice none 0 0]) ?_ 0 _ rfl; (with_reducible repeat (first | refine kN ?_ | refine kD ?_ | refine kA ?_)); exact BK201.out) Try.underlying25 rfl (by kernel_rfl)) rfl ?_
     exact ⟨_, _, by first | rfl | (simp [errW_none, errW_some] <;> rfl) | (simp [*, errW_none, errW_some] <;> rfl), by (with_reducible repeat (first | apply Kd.R_alloc | apply Kd.R_drewN | apply Kd.R_drew)); exact Kd.R_mono (Kd.R_far (p := ⟨gb201, 3, none⟩) (Kd.R_far (p := ⟨gb201, 2, none⟩) (Kd.R_far (p := ⟨gb201, 1, none⟩) (Kd.R_far (p := ⟨gb201, 0, none⟩) (Kd.R_types HO_210002.out BK201.out (by decide)) (fun _ hk => hk.2) (.int .i64 a0_0)) (fun _ hk => hk.2) (.int .i64 0)) (fun _ hk => hk.2) (.slice Ao270 x210002_2.length co270)) (fun _ hk => hk.2) (.slice Ao271 x210003_2.length co271)) (fun _ hk => trivial), by (with_reducible repeat (first | apply Kd.S_alloc | apply Kd.S_drewN | apply Kd.S_drew)); exact Kd.S_mono (Kd.S_far (p := ⟨gb201, 3, none⟩) (Kd.S_far (p := ⟨gb201, 2, none⟩) (Kd.S_far (p := ⟨gb201, 1, none⟩) (Kd.S_far (p := ⟨gb201, 0, none⟩) (Kd.S_types HO_210003.out BK201.out (by decide)) (fun _ hk => hk.2) (.int .i64 a0_0)) (fun _ hk => hk.2) (.int .i64 0)) (fun _ hk => hk.2) (.slice Ao270 x210002_2.length co270)) (fun _ hk => hk.2) (.slice Ao271 x210003_2.length co271)) (fun _ hk => trivial), by repeat (first | (with_reducible first | exact HB.out | apply bA | apply bN | apply bD | refine bS ?_ ‹_›) | exact HB.out)⟩
     )
   )
 )
 (focus
 rw [if_neg c7] at H
 have c7b0 : (t203 == 0) = false := beq_eq_false_iff_ne.mpr c7
 have c7b1 : (t203 != 0) = true := bne_iff_ne.mpr c7
 simp only [Option.some.injEq, Prod.mk.injEq] at H
 obtain ⟨rfl, rfl, rfl, rfl, rfl⟩ := H
 go_enter Try.func31, Try.ntmps31
 go_wp2_with (first | ((with_reducible refine gate_dst (N := 3) rfl ?_); refine box_event ?hg (N := 3) ?hd (cs := #[.int .i64 a0_0, .int .i64 a0_1, .slice A0_2 l0_2.length c0_2, .slice A0_3 l0_3.length c0_3]) (t := 25) ?hr ?_; (case hd => rfl); (case hg => rfl); (case hr => first | (go_simp; done) | (go_simp; rfl)); intro gb199 hg w272 hbox hb; have n0_ := aM (below_step (by repeat (first | (with_reducible first | exact HB.out | apply bA | apply bN | apply bD) | exact HB.out)) hb); have n1_ := aM (hbox); have n2_ := aM ((by rw [hg]; exact (below_size (by repeat (first | (with_reducible first | exact HB.out | apply bA | apply bN | apply bD) | exact HB.out))) : w.heap.size ≤ gb199)); have n3_ := aM ((by rw [hg]; exact (below_size (by repeat (first | (with_reducible first | exact HB.out | apply bA | apply bN | apply bD) | exact HB.out))) : w.heap.size ≤ gb199)); clear HB; have HB := n0_; have BK199 := n1_; have GW199 := n2_; have GE199 := n3_; clear n0_ n1_ n2_ n3_; clear hb hbox hg) | ((with_reducible refine gate_dst (N := 4) rfl ?_); refine box_event ?hg (N := 4) ?hd (cs := #[.int .i64 a1_0, .int .i64 a1_1, .slice A1_2 l1_2.length c1_2, .slice A1_3 l1_3.length c1_3]) (t := 25) ?hr ?_; (case hd => rfl); (case hg => rfl); (case hr => first | (go_simp; done) | (go_simp; rfl)); intro gb200 hg w273 hbox hb; have n0_ := aM (blk_below (uB BK199.out) hb); have n1_ := aM (below_step (by repeat (first | (with_reducible first | exact HB.out | apply bA | apply bN | apply bD | refine bS ?_ ‹_›) | exact HB.out)) hb); have n2_ := aM (hbox); have n3_ := aM ((by rw [hg]; exact (below_size (by repeat (first | (with_reducible first | exact HB.out | apply bA | apply bN | apply bD | refine bS ?_ ‹_›) | exact HB.out))) : w.heap.size ≤ gb200)); have n4_ := aM ((by rw [hg]; exact (below_size (by repeat (first | (with_reducible first | exact HB.out | apply bA | apply bN | apply bD | refine bS ?_ ‹_›) | exact HB.out))) : w.heap.size ≤ gb200)); have n5_ := aM ((by rw [hg]; exact Nat.ne_of_lt (blk_lt (uB BK199.out)) : gb199 ≠ gb200)); have n6_ := aM ((by rw [hg]; exact Nat.ne_of_gt (blk_lt (uB BK199.out)) : gb200 ≠ gb199)); clear BK199; clear HB; have BK199 := n0_; have HB := n1_; have BK200 := n2_; have GW200 := n3_; have GE200 := n4_; have NB199_200 := n5_; have NB200_199 := n6_; clear n0_ n1_ n2_ n3_ n4_ n5_ n6_; clear hb hbox hg) | ((with_reducible refine gate_dst (N := 6) rfl ?_); refine box_event ?hg (N := 6) ?hd (cs := #[.int .i64 0, .int .i64 0, .slice none 0 0, .slice none 0 0]) (t := 25) ?hr ?_; (case hd => rfl); (case hg => rfl); (case hr => first | (go_simp; done) | (go_simp; rfl)); intro gb201 hg w274 hbox hb; have n0_ := aM (blk_below (uB BK199.out) hb); have n1_ := aM (blk_below (uB BK200.out) hb); have n2_ := aM (below_step (by repeat (first | (with_reducible first | exact HB.out | apply bA | apply bN | apply bD | refine bS ?_ ‹_›) | exact HB.out)) hb); have n3_ := aM (hbox); have n4_ := aM ((by rw [hg]; exact (below_size (by repeat (first | (with_reducible first | exact HB.out | apply bA | apply bN | apply bD | refine bS ?_ ‹_›) | exact HB.out))) : w.heap.size ≤ gb201)); have n5_ := aM ((by rw [hg]; exact (below_size (by repeat (first | (with_reducible first | exact HB.out | apply bA | apply bN | apply bD | refine bS ?_ ‹_›) | exact HB.out))) : w.heap.size ≤ gb201)); have n6_ := aM ((by rw [hg]; exact Nat.ne_of_lt (blk_lt (uB BK199.out)) : gb199 ≠ gb201)); have n7_ := aM ((by rw [hg]; exact Nat.ne_of_gt (blk_lt (uB BK199.out)) : gb201 ≠ gb199)); have n8_ := aM ((by rw [hg]; exact Nat.ne_of_lt (blk_lt (uB BK200.out)) : gb200 ≠ gb201)); have n9_ := aM ((by rw [hg]; exact Nat.ne_of_gt (blk_lt (uB BK200.out)) : gb201 ≠ gb200)); clear BK199; clear BK200; clear HB; have BK199 := n0_; have BK200 := n1_; have HB := n2_; have BK201 := n3_; have GW201 := n4_; have GE201 := n5_; have NB199_201 := n6_; have NB201_199 := n7_; have NB200_201 := n8_; have NB201_200 := n9_; clear n0_ n1_ n2_ n3_ n4_ n5_ n6_ n7_ n8_ n9_; clear hb hbox hg; have hnb275 := NB199_200.out; have hnc275 := NB200_199.out; have hnb276 := NB199_201.out; have hnc276 := NB201_199.out; have hcz277_0 : w274.cell? ⟨gb199, 0, none⟩ = some (.int .i64 a0_0) := (blk_cell BK199.out 0).trans rfl; have hcz277_1 : w274.cell? ⟨gb199, 1, none⟩ = some (.int .i64 a0_1) := (blk_cell BK199.out 1).trans rfl; have hcz277_2 : w274.cell? ⟨gb199, 2, none⟩ = some (.slice A0_2 l0_2.length c0_2) := (blk_cell BK199.out 2).trans rfl; have hcz277_3 : w274.cell? ⟨gb199, 3, none⟩ = some (.slice A0_3 l0_3.length c0_3) := (blk_cell BK199.out 3).trans rfl; have hfz277_0 := blk_frozen BK199.out 0; have hfz277_1 := blk_frozen BK199.out 1; have hfz277_2 := blk_frozen BK199.out 2; have hfz277_3 := blk_frozen BK199.out 3) | ((with_reducible refine gate_callee (f := 14) rfl ?_); refine goesL_ (some 22) rfl rfl Try.func14 (by kernel_rfl) rfl #[.agg #[.int .i64 a0_0, .int .i64 a0_1, .slice A0_2 l0_2.length c0_2, .slice A0_3 l0_3.length c0_3]] rfl (by (try simp only [List.map_toArray, List.map_cons, List.map_nil]); first | done | rfl | (simp only [List.length_drop, List.length_take]; rfl)) ?_; (with_reducible refine (dfa_Validate.calls k a0_0 a0_1 _ _ l0_2 _ _ l0_3 t202 _ ?side1 ?side2 ?side3 ?side4 A4.out).mono ?_); (case side1 => repeat (first | exact (Kd.C_below HR0_2.out HB.out) | (with_reducible refine Kd.C_alloc ?_ _) | (with_reducible refine Kd.C_drewN ?_ _) | (with_reducible refine Kd.C_drew ?_))); (case side2 => exact HC0_2.out); (case side3 => repeat (first | exact (Kd.C_below HR0_3.out HB.out) | (with_reducible refine Kd.C_alloc ?_ _) | (with_reducible refine Kd.C_drewN ?_ _) | (with_reducible refine Kd.C_drew ?_))); (case side4 => exact HC0_3.out); rintro e w278 ⟨rfl, hb⟩; refine ⟨_, rfl, ?_⟩; have n0_ := aM (blk_below (uB BK199.out) hb); have n1_ := aM (blk_below (uB BK200.out) hb); have n2_ := aM (blk_below (uB BK201.out) hb); have n3_ := aM (below_step (by repeat (first | (with_reducible first | exact HB.out | apply bA | apply bN | apply bD | refine bS ?_ ‹_›) | exact HB.out)) hb); clear BK199; clear BK200; clear BK201; clear HB; have BK199 := n0_; have BK200 := n1_; have BK201 := n2_; have HB := n3_; clear n0_ n1_ n2_ n3_; (try clear hb); (try clear hb2); (try clear hk); (try clear hi); have hnb279 := NB200_201.out; have hnc279 := NB201_200.out; have hcz280_0 : w278.cell? ⟨gb200, 0, none⟩ = some (.int .i64 a1_0) := (blk_cell BK200.out 0).trans rfl; have hcz280_1 : w278.cell? ⟨gb200, 1, none⟩ = some (.int .i64 a1_1) := (blk_cell BK200.out 1).trans rfl; have hcz280_2 : w278.cell? ⟨gb200, 2, none⟩ = some (.slice A1_2 l1_2.length c1_2) := (blk_cell BK200.out 2).trans rfl; have hcz280_3 : w278.cell? ⟨gb200, 3, none⟩ = some (.slice A1_3 l1_3.length c1_3) := (blk_cell BK200.out 3).trans rfl; have hfz280_0 := blk_frozen BK200.out 0; have hfz280_1 := blk_frozen BK200.out 1; have hfz280_2 := blk_frozen BK200.out 2; have hfz280_3 := blk_frozen BK200.out 3) | ((with_reducible refine gate_callee (f := 14) rfl ?_); refine goesL_ (some 28) rfl rfl Try.func14 (by kernel_rfl) rfl #[.agg #[.int .i64 a1_0, .int .i64 a1_1, .slice A1_2 l1_2.length c1_2, .slice A1_3 l1_3.length c1_3]] rfl (by (try simp only [List.map_toArray, List.map_cons, List.map_nil]); first | done | rfl | (simp only [List.length_drop, List.length_take]; rfl)) ?_; (with_reducible refine (dfa_Validate.calls k a1_0 a1_1 _ _ l1_2 _ _ l1_3 t203 _ ?side1 ?side2 ?side3 ?side4 A6.out).mono ?_); (case side1 => repeat (first | exact (Kd.C_below HR1_2.out HB.out) | (with_reducible refine Kd.C_alloc ?_ _) | (with_reducible refine Kd.C_drewN ?_ _) | (with_reducible refine Kd.C_drew ?_))); (case side2 => exact HC1_2.out); (case side3 => repeat (first | exact (Kd.C_below HR1_3.out HB.out) | (with_reducible refine Kd.C_alloc ?_ _) | (with_reducible refine Kd.C_drewN ?_ _) | (with_reducible refine Kd.C_drew ?_))); (case side4 => exact HC1_3.out); rintro e w281 ⟨rfl, hb⟩; refine ⟨_, rfl, ?_⟩; have n0_ := aM (blk_below (uB BK199.out) hb); have n1_ := aM (blk_below (uB BK200.out) hb); have n2_ := aM (blk_below (uB BK201.out) hb); have n3_ := aM (below_step (by repeat (first | (with_reducible first | exact HB.out | apply bA | apply bN | apply bD | refine bS ?_ ‹_›) | exact HB.out)) hb); clear BK199; clear BK200; clear BK201; clear HB; have BK199 := n0_; have BK200 := n1_; have BK201 := n2_; have HB := n3_; clear n0_ n1_ n2_ n3_; (try clear hb); (try clear hb2); (try clear hk); (try clear hi); have hcz282_0 : w281.cell? ⟨gb201, 0, none⟩ = some (.int .i64 0) := (blk_cell BK201.out 0).trans rfl; have hcz282_1 : w281.cell? ⟨gb201, 1, none⟩ = some (.int .i64 0) := (blk_cell BK201.out 1).trans rfl; have hcz282_2 : w281.cell? ⟨gb201, 2, none⟩ = some (.slice none 0 0) := (blk_cell BK201.out 2).trans rfl; have hcz282_3 : w281.cell? ⟨gb201, 3, none⟩ = some (.slice none 0 0) := (blk_cell BK201.out 3).trans rfl; have hfz282_0 := blk_frozen BK201.out 0; have hfz282_1 := blk_frozen BK201.out 1; have hfz282_2 := blk_frozen BK201.out 2; have hfz282_3 := blk_frozen BK201.out 3))
 refine bodyPost_ret (results_ct rfl _ _ gb201 25 #[.int .i64 0, .int .i64 0, .slice none 0 0, .slice none 0 0] (0, 0) _ rfl (by (with_reducible repeat (first | refine kN ?_ | refine kD ?_ | refine kA ?_)); refine blk_put (cs := #[.int .i64 0, .int .i64 0, .slice none 0 0, .slice none 0 0]) ?_ 3 _ rfl; (with_reducible repeat (first | refine kN ?_ | refine kD ?_ | refine kA ?_)); refine blk_put (cs := #[.int .i64 0, .int .i64 0, .slice none 0 0, .slice none 0 0]) ?_ 2 _ rfl; (with_reducible repeat (first | refine kN ?_ | refine kD ?_ | refine kA ?_)); refine blk_put (cs := #[.int .i64 0, .int .i64 0, .slice none 0 0, .slice none 0 0]) ?_ 1 _ rfl; (with_reducible repeat (first | refine kN ?_ | refine kD ?_ | refine kA ?_)); refine blk_put (cs := #[.int .i64 0, .int .i64 0, .slice none 0 0, .slice none 0 0]) ?_ 0 _ rfl; (with_reducible repeat (first | refine kN ?_ | refine kD ?_ | refine kA ?_)); exact BK201.out) Try.underlying25 rfl (by kernel_rfl)) rfl ?_
 exact ⟨_, _, by first | rfl | (simp [errW_none, errW_some] <;> rfl) | (simp [*, errW_none, errW_some] <;> rfl), by first | exact Kd.R_nil _ _ _ _ _ | exact Kd.N_nil _ _ _ _ _ | exact Kd.V_nil _ _ _ _ _ | exact Kd.Q_nil _ _ _ _ _ | exact Kd.S_nil _ _ _ _ _, by first | exact Kd.S_nil _ _ _ _ _ | exact Kd.N_nil _ _ _ _ _ | exact Kd.V_nil _ _ _ _ _ | exact Kd.Q_nil _ _ _ _ _ | exact Kd.R_nil _ _ _ _ _, by repeat (first | (with_reducible first | exact HB.out | apply bA | apply bN | apply bD | refine bS ?_ ‹_›) | exact HB.out)⟩
 )
 )
 (focus
 rw [if_neg c5] at H
 have c5b0 : (t202 == 0) = false := beq_eq_false_iff_ne.mpr c5
 have c5b1 : (t202 != 0) = true := bne_iff_ne.mpr c5
 simp only [Option.some.injEq, Prod.mk.injEq] at H
 obtain ⟨rfl, rfl, rfl, rfl, rfl⟩ := H
 go_enter Try.func31, Try.ntmps31
 go_wp2_with (first | ((with_reducible refine gate_dst (N := 3) rfl ?_); refine box_event ?hg (N := 3) ?hd (cs := #[.int .i64 a0_0, .int .i64 a0_1, .slice A0_2 l0_2.length c0_2, .slice A0_3 l0_3.length c0_3]) (t := 25) ?hr ?_; (case hd => rfl); (case hg => rfl); (case hr => first | (go_simp; done) | (go_simp; rfl)); intro gb199 hg w283 hbox hb; have n0_ := aM (below_step (by repeat (first | (with_reducible first | exact HB.out | apply bA | apply bN | apply bD) | exact HB.out)) hb); have n1_ := aM (hbox); have n2_ := aM ((by rw [hg]; exact (below_size (by repeat (first | (with_reducible first | exact HB.out | apply bA | apply bN | apply bD) | exact HB.out))) : w.heap.size ≤ gb199)); have n3_ := aM ((by rw [hg]; exact (below_size (by repeat (first | (with_reducible first | exact HB.out | apply bA | apply bN | apply bD) | exact HB.out))) : w.heap.size ≤ gb199)); clear HB; have HB := n0_; have BK199 := n1_; have GW199 := n2_; have GE199 := n3_; clear n0_ n1_ n2_ n3_; clear hb hbox hg) | ((with_reducible refine gate_dst (N := 4) rfl ?_); refine box_event ?hg (N := 4) ?hd (cs := #[.int .i64 a1_0, .int .i64 a1_1, .slice A1_2 l1_2.length c1_2, .slice A1_3 l1_3.length c1_3]) (t := 25) ?hr ?_; (case hd => rfl); (case hg => rfl); (case hr => first | (go_simp; done) | (go_simp; rfl)); intro gb200 hg w284 hbox hb; have n0_ := aM (blk_below (uB BK199.out) hb); have n1_ := aM (below_step (by repeat (first | (with_reducible first | exact HB.out | apply bA | apply bN | apply bD | refine bS ?_ ‹_›) | exact HB.out)) hb); have n2_ := aM (hbox); have n3_ := aM ((by rw [hg]; exact (below_size (by repeat (first | (with_reducible first | exact HB.out | apply bA | apply bN | apply bD | refine bS ?_ ‹_›) | exact HB.out))) : w.heap.size ≤ gb200)); have n4_ := aM ((by rw [hg]; exact (below_size (by repeat (first | (with_reducible first | exact HB.out | apply bA | apply bN | apply bD | refine bS ?_ ‹_›) | exact HB.out))) : w.heap.size ≤ gb200)); have n5_ := aM ((by rw [hg]; exact Nat.ne_of_lt (blk_lt (uB BK199.out)) : gb199 ≠ gb200)); have n6_ := aM ((by rw [hg]; exact Nat.ne_of_gt (blk_lt (uB BK199.out)) : gb200 ≠ gb199)); clear BK199; clear HB; have BK199 := n0_; have HB := n1_; have BK200 := n2_; have GW200 := n3_; have GE200 := n4_; have NB199_200 := n5_; have NB200_199 := n6_; clear n0_ n1_ n2_ n3_ n4_ n5_ n6_; clear hb hbox hg) | ((with_reducible refine gate_dst (N := 6) rfl ?_); refine box_event ?hg (N := 6) ?hd (cs := #[.int .i64 0, .int .i64 0, .slice none 0 0, .slice none 0 0]) (t := 25) ?hr ?_; (case hd => rfl); (case hg => rfl); (case hr => first | (go_simp; done) | (go_simp; rfl)); intro gb201 hg w285 hbox hb; have n0_ := aM (blk_below (uB BK199.out) hb); have n1_ := aM (blk_below (uB BK200.out) hb); have n2_ := aM (below_step (by repeat (first | (with_reducible first | exact HB.out | apply bA | apply bN | apply bD | refine bS ?_ ‹_›) | exact HB.out)) hb); have n3_ := aM (hbox); have n4_ := aM ((by rw [hg]; exact (below_size (by repeat (first | (with_reducible first | exact HB.out | apply bA | apply bN | apply bD | refine bS ?_ ‹_›) | exact HB.out))) : w.heap.size ≤ gb201)); have n5_ := aM ((by rw [hg]; exact (below_size (by repeat (first | (with_reducible first | exact HB.out | apply bA | apply bN | apply bD | refine bS ?_ ‹_›) | exact HB.out))) : w.heap.size ≤ gb201)); have n6_ := aM ((by rw [hg]; exact Nat.ne_of_lt (blk_lt (uB BK199.out)) : gb199 ≠ gb201)); have n7_ := aM ((by rw [hg]; exact Nat.ne_of_gt (blk_lt (uB BK199.out)) : gb201 ≠ gb199)); have n8_ := aM ((by rw [hg]; exact Nat.ne_of_lt (blk_lt (uB BK200.out)) : gb200 ≠ gb201)); have n9_ := aM ((by rw [hg]; exact Nat.ne_of_gt (blk_lt (uB BK200.out)) : gb201 ≠ gb200)); clear BK199; clear BK200; clear HB; have BK199 := n0_; have BK200 := n1_; have HB := n2_; have BK201 := n3_; have GW201 := n4_; have GE201 := n5_; have NB199_201 := n6_; have NB201_199 := n7_; have NB200_201 := n8_; have NB201_200 := n9_; clear n0_ n1_ n2_ n3_ n4_ n5_ n6_ n7_ n8_ n9_; clear hb hbox hg; have hnb286 := NB199_200.out; have hnc286 := NB200_199.out; have hnb287 := NB199_201.out; have hnc287 := NB201_199.out; have hcz288_0 : w285.cell? ⟨gb199, 0, none⟩ = some (.int .i64 a0_0) := (blk_cell BK199.out 0).trans rfl; have hcz288_1 : w285.cell? ⟨gb199, 1, none⟩ = some (.int .i64 a0_1) := (blk_cell BK199.out 1).trans rfl; have hcz288_2 : w285.cell? ⟨gb199, 2, none⟩ = some (.slice A0_2 l0_2.length c0_2) := (blk_cell BK199.out 2).trans rfl; have hcz288_3 : w285.cell? ⟨gb199, 3, none⟩ = some (.slice A0_3 l0_3.length c0_3) := (blk_cell BK199.out 3).trans rfl; have hfz288_0 := blk_frozen BK199.out 0; have hfz288_1 := blk_frozen BK199.out 1; have hfz288_2 := blk_frozen BK199.out 2; have hfz288_3 := blk_frozen BK199.out 3) | ((with_reducible refine gate_callee (f := 14) rfl ?_); refine goesL_ (some 22) rfl rfl Try.func14 (by kernel_rfl) rfl #[.agg #[.int .i64 a0_0, .int .i64 a0_1, .slice A0_2 l0_2.length c0_2, .slice A0_3 l0_3.length c0_3]] rfl (by (try simp only [List.map_toArray, List.map_cons, List.map_nil]); first | done | rfl | (simp only [List.length_drop, List.length_take]; rfl)) ?_; (with_reducible refine (dfa_Validate.calls k a0_0 a0_1 _ _ l0_2 _ _ l0_3 t202 _ ?side1 ?side2 ?side3 ?side4 A4.out).mono ?_); (case side1 => repeat (first | exact (Kd.C_below HR0_2.out HB.out) | (with_reducible refine Kd.C_alloc ?_ _) | (with_reducible refine Kd.C_drewN ?_ _) | (with_reducible refine Kd.C_drew ?_))); (case side2 => exact HC0_2.out); (case side3 => repeat (first | exact (Kd.C_below HR0_3.out HB.out) | (with_reducible refine Kd.C_alloc ?_ _) | (with_reducible refine Kd.C_drewN ?_ _) | (with_reducible refine Kd.C_drew ?_))); (case side4 => exact HC0_3.out); rintro e w289 ⟨rfl, hb⟩; refine ⟨_, rfl, ?_⟩; have n0_ := aM (blk_below (uB BK199.out) hb); have n1_ := aM (blk_below (uB BK200.out) hb); have n2_ := aM (blk_below (uB BK201.out) hb); have n3_ := aM (below_step (by repeat (first | (with_reducible first | exact HB.out | apply bA | apply bN | apply bD | refine bS ?_ ‹_›) | exact HB.out)) hb); clear BK199; clear BK200; clear BK201; clear HB; have BK199 := n0_; have BK200 := n1_; have BK201 := n2_; have HB := n3_; clear n0_ n1_ n2_ n3_; (try clear hb); (try clear hb2); (try clear hk); (try clear hi); have hnb290 := NB201_200.out; have hnc290 := NB200_201.out; have hcz291_0 : w289.cell? ⟨gb201, 0, none⟩ = some (.int .i64 0) := (blk_cell BK201.out 0).trans rfl; have hcz291_1 : w289.cell? ⟨gb201, 1, none⟩ = some (.int .i64 0) := (blk_cell BK201.out 1).trans rfl; have hcz291_2 : w289.cell? ⟨gb201, 2, none⟩ = some (.slice none 0 0) := (blk_cell BK201.out 2).trans rfl; have hcz291_3 : w289.cell? ⟨gb201, 3, none⟩ = some (.slice none 0 0) := (blk_cell BK201.out 3).trans rfl; have hfz291_0 := blk_frozen BK201.out 0; have hfz291_1 := blk_frozen BK201.out 1; have hfz291_2 := blk_frozen BK201.out 2; have hfz291_3 := blk_frozen BK201.out 3))
 refine bodyPost_ret (results_ct rfl _ _ gb201 25 #[.int .i64 0, .int .i64 0, .slice none 0 0, .slice none 0 0] (0, 0) _ rfl (by (with_reducible repeat (first | refine kN ?_ | refine kD ?_ | refine kA ?_)); refine blk_put (cs := #[.int .i64 0, .int .i64 0, .slice none 0 0, .slice none 0 0]) ?_ 3 _ rfl; (with_reducible repeat (first | refine kN ?_ | refine kD ?_ | refine kA ?_)); refine blk_put (cs := #[.int .i64 0, .int .i64 0, .slice none 0 0, .slice none 0 0]) ?_ 2 _ rfl; (with_reducible repeat (first | refine kN ?_ | refine kD ?_ | refine kA ?_)); refine blk_put (cs := #[.int .i64 0, .int .i64 0, .slice none 0 0, .slice none 0 0]) ?_ 1 _ rfl; (with_reducible repeat (first | refine kN ?_ | refine kD ?_ | refine kA ?_)); refine blk_put (cs := #[.int .i64 0, .int .i64 0, .slice none 0 0, .slice none 0 0]) ?_ 0 _ rfl; (with_reducible repeat (first | refine kN ?_ | refine kD ?_ | refine kA ?_)); exact BK201.out) Try.underlying25 rfl (by kernel_rfl)) rfl ?_
 exact ⟨_, _, by first | rfl | (simp [errW_none, errW_some] <;> rfl) | (simp [*, errW_none, errW_some] <;> rfl), by first | exact Kd.R_nil _ _ _ _ _ | exact Kd.N_nil _ _ _ _ _ | exact Kd.V_nil _ _ _ _ _ | exact Kd.Q_nil _ _ _ _ _ | exact Kd.S_nil _ _ _ _ _, by first | exact Kd.S_nil _ _ _ _ _ | exact Kd.N_nil _ _ _ _ _ | exact Kd.V_nil _ _ _ _ _ | exact Kd.Q_nil _ _ _ _ _ | exact Kd.R_nil _ _ _ _ _, by repeat (first | (with_reducible first | exact HB.out | apply bA | apply bN | apply bD | refine bS ?_ ‹_›) | exact HB.out)⟩
 )
end Go.Proofs.Ytpjbmgoagehjkaa.PDfaProducts
