import Derived.Test.YtpjbmgoagehjkaaZDfaProductsx0
import Derived.Test.YtpjbmgoagehjkaaZDfaProductsx4
namespace Go.Proofs.Ytpjbmgoagehjkaa.PDfaProducts
open Go.RowKit Go.Proofs.YtpjbmgoagehjkaaH Go.Proofs.YtpjbmgoagehjkaaW.PrintWords Go.Proofs.YtpjbmgoagehjkaaW.PrintLast Go.Proofs.YtpjbmgoagehjkaaW.PrintMore
attribute [local go_sem] max2_int min2_int max_two min_two max_three min_three max_four min_four   -- for this text's walks alone
set_option linter.unusedVariables false
set_option linter.unusedSimpArgs false
/-! ### semigroupref07_Validate: function 15 -/
mutual
def semigroupref07_Validate.j0 : Nat → Int → Bool → Int → Int → List Bool → List (List Int) → Option (Int)
 | 0, _, _, _, _, _, _ => none
 | k + 1, x3, x36, x183000, x183001, x183002, x183003 => if x36 = true then (some 4) else (semigroupref07_Validate.l0 k x3 x183003 (x183003.length : Int) 0 x183000 x183001 x183002 x183003)
def semigroupref07_Validate.l0 : Nat → Int → List (List Int) → Int → Int → Int → Int → List Bool → List (List Int) → Option (Int)
 | 0, _, _, _, _, _, _, _, _ => none
 | k + 1, x3, x38, x39, x40, x183000, x183001, x183002, x183003 => if x40 < x39 then (if 0 ≤ x40 then (if x40 < (x38.length : Int) then (if ((rd_L1 x38 x40).length : Int) = x183000 then (semigroupref07_Validate.l1 k x3 x38 x39 x40 (rd_L1 x38 x40) ((rd_L1 x38 x40).length : Int) 0 x183000 x183001 x183002 x183003) else (some 4)) else (none)) else (none)) else (some 0)
def semigroupref07_Validate.l1 : Nat → Int → List (List Int) → Int → Int → List Int → Int → Int → Int → Int → List Bool → List (List Int) → Option (Int)
 | 0, _, _, _, _, _, _, _, _, _, _, _ => none
 | k + 1, x3, x38, x39, x40, x49, x50, x51, x183000, x183001, x183002, x183003 => if x51 < x50 then (if 0 ≤ x51 then (if x51 < (x49.length : Int) then (if (rd x49 x51) < 0 then (some 4) else (if (rd x49 x51) ≥ x3 then (some 4) else (semigroupref07_Validate.l1 k x3 x38 x39 x40 x49 x50 (wrap64 (x51 + 1)) x183000 x183001 x183002 x183003))) else (none)) else (none)) else (semigroupref07_Validate.l0 k x3 x38 x39 (wrap64 (x40 + 1)) x183000 x183001 x183002 x183003)
end
def semigroupref07_Validate.f (k : Nat) (a0_0 : Int) (a0_1 : Int) (l0_2 : List Bool) (l0_3 : List (List Int)) : Option (Int) := (semigroupref01_MayLetters.f a0_0).bind fun t183 => (if t183 = true then (if (l0_2.length : Int) > 512 then (some 3) else (if (l0_2.length : Int) = 0 then (semigroupref07_Validate.j0 k (l0_2.length : Int) true a0_0 a0_1 l0_2 l0_3) else (if (l0_3.length : Int) = (l0_2.length : Int) then (if a0_1 < 0 then (semigroupref07_Validate.j0 k (l0_2.length : Int) true a0_0 a0_1 l0_2 l0_3) else (semigroupref07_Validate.j0 k (l0_2.length : Int) (decide (a0_1 ≥ (l0_2.length : Int))) a0_0 a0_1 l0_2 l0_3)) else (semigroupref07_Validate.j0 k (l0_2.length : Int) true a0_0 a0_1 l0_2 l0_3)))) else (some 1))
theorem semigroupref07_Validate.mono_l : ∀ k, (∀ y0 y1 y2 y3 y4 y5, LeO (semigroupref07_Validate.j0 k y0 y1 y2 y3 y4 y5) (semigroupref07_Validate.j0 (k + 1) y0 y1 y2 y3 y4 y5)) ∧ (∀ y0 y1 y2 y3 y4 y5 y6 y7, LeO (semigroupref07_Validate.l0 k y0 y1 y2 y3 y4 y5 y6 y7) (semigroupref07_Validate.l0 (k + 1) y0 y1 y2 y3 y4 y5 y6 y7)) ∧ (∀ y0 y1 y2 y3 y4 y5 y6 y7 y8 y9 y10, LeO (semigroupref07_Validate.l1 k y0 y1 y2 y3 y4 y5 y6 y7 y8 y9 y10) (semigroupref07_Validate.l1 (k + 1) y0 y1 y2 y3 y4 y5 y6 y7 y8 y9 y10))
 | 0 => ⟨fun _ _ _ _ _ _ r h => by simp [semigroupref07_Validate.j0] at h, fun _ _ _ _ _ _ _ _ r h => by simp [semigroupref07_Validate.l0] at h, fun _ _ _ _ _ _ _ _ _ _ _ r h => by simp [semigroupref07_Validate.l1] at h⟩
 | k + 1 => by
  obtain ⟨ih0, ih1, ih2⟩ := semigroupref07_Validate.mono_l k
  refine ⟨?_, ?_, ?_⟩
  (focus
  intro y0 y1 y2 y3 y4 y5
  unfold semigroupref07_Validate.j0
  repeat' first
  | (with_reducible exact ih0 _ _ _ _ _ _)
  | (with_reducible exact ih1 _ _ _ _ _ _ _ _)
  | (with_reducible exact ih2 _ _ _ _ _ _ _ _ _ _ _)
  | (with_reducible exact LeO.refl _)
  | (with_reducible exact LeO.none _)
  | (with_reducible refine LeO.ite ?_ ?_)
  | (with_reducible refine LeO.bind ?_ (fun _ => ?_))
  | exact ih0 _ _ _ _ _ _
  | exact ih1 _ _ _ _ _ _ _ _
  | exact ih2 _ _ _ _ _ _ _ _ _ _ _
  | exact LeO.none _
  | refine LeO.ite ?_ ?_
  | refine LeO.bind ?_ (fun _ => ?_)
  )
  (focus
  intro y0 y1 y2 y3 y4 y5 y6 y7
  unfold semigroupref07_Validate.l0
  repeat' first
  | (with_reducible exact ih0 _ _ _ _ _ _)
  | (with_reducible exact ih1 _ _ _ _ _ _ _ _)
  | (with_reducible exact ih2 _ _ _ _ _ _ _ _ _ _ _)
  | (with_reducible exact LeO.refl _)
  | (with_reducible exact LeO.none _)
  | (with_reducible refine LeO.ite ?_ ?_)
  | (with_reducible refine LeO.bind ?_ (fun _ => ?_))
  | exact ih0 _ _ _ _ _ _
  | exact ih1 _ _ _ _ _ _ _ _
  | exact ih2 _ _ _ _ _ _ _ _ _ _ _
  | exact LeO.none _
  | refine LeO.ite ?_ ?_
  | refine LeO.bind ?_ (fun _ => ?_)
  )
  (focus
  intro y0 y1 y2 y3 y4 y5 y6 y7 y8 y9 y10
  unfold semigroupref07_Validate.l1
  repeat' first
  | (with_reducible exact ih0 _ _ _ _ _ _)
  | (with_reducible exact ih1 _ _ _ _ _ _ _ _)
  | (with_reducible exact ih2 _ _ _ _ _ _ _ _ _ _ _)
  | (with_reducible exact LeO.refl _)
  | (with_reducible exact LeO.none _)
  | (with_reducible refine LeO.ite ?_ ?_)
  | (with_reducible refine LeO.bind ?_ (fun _ => ?_))
  | exact ih0 _ _ _ _ _ _
  | exact ih1 _ _ _ _ _ _ _ _
  | exact ih2 _ _ _ _ _ _ _ _ _ _ _
  | exact LeO.none _
  | refine LeO.ite ?_ ?_
  | refine LeO.bind ?_ (fun _ => ?_)
  )
theorem semigroupref07_Validate.mono : ∀ a0 a1 a2 a3 k, LeO (semigroupref07_Validate.f k a0 a1 a2 a3) (semigroupref07_Validate.f (k + 1) a0 a1 a2 a3) := by
 intro a0 a1 a2 a3 k
 obtain ⟨ih0, ih1, ih2⟩ := semigroupref07_Validate.mono_l k
 unfold semigroupref07_Validate.f
 repeat' first
  | (with_reducible exact ih0 _ _ _ _ _ _)
  | (with_reducible exact ih1 _ _ _ _ _ _ _ _)
  | (with_reducible exact ih2 _ _ _ _ _ _ _ _ _ _ _)
  | (with_reducible exact LeO.refl _)
  | (with_reducible exact LeO.none _)
  | (with_reducible refine LeO.ite ?_ ?_)
  | (with_reducible refine LeO.bind ?_ (fun _ => ?_))
  | exact ih0 _ _ _ _ _ _
  | exact ih1 _ _ _ _ _ _ _ _
  | exact ih2 _ _ _ _ _ _ _ _ _ _ _
  | exact LeO.none _
  | refine LeO.ite ?_ ?_
  | refine LeO.bind ?_ (fun _ => ?_)
set_option maxHeartbeats 8000000 in
set_option maxRecDepth 100000 in
theorem semigroupref07_Validate.calls (k : Nat) (a0_0 : Int) (a0_1 : Int) (A0_2 : Option Addr) (c0_2 : Nat) (l0_2 : List Bool) (A0_3 : Option Addr) (c0_3 : Nat) (l0_3 : List (List Int)) (r : Int) (w : World) (hr0_2 : Kd.C Kd.bool w A0_2 l0_2.length l0_2) (hc0_2 : l0_2.length ≤ c0_2) (hr0_3 : Kd.C (Kd.slice 3 (Kd.int .i64)) w A0_3 l0_3.length l0_3) (hc0_3 : l0_3.length ≤ c0_3) (h : semigroupref07_Validate.f k a0_0 a0_1 l0_2 l0_3 = some r) :
 Calls Try.prog 15 #[.agg #[.int .i64 a0_0, .int .i64 a0_1, .slice A0_2 l0_2.length c0_2, .slice A0_3 l0_3.length c0_3]] w fun e w' => e = .returned (.int .i64 r) ∧ Below w.heap.size w w' := by
 have hu25 := Try.underlying25
 have HR0_2 := Aside0.mk hr0_2
 have HC0_2 := Aside0.mk hc0_2
 clear hr0_2 hc0_2
 have HR0_3 := Aside0.mk hr0_3
 have HC0_3 := Aside0.mk hc0_3
 clear hr0_3 hc0_3
 have HB := aM (Below.refl w.heap.size w)
 have H : ((semigroupref01_MayLetters.f a0_0).bind fun t183 => (if t183 = true then (if (l0_2.length : Int) > 512 then (some 3) else (if (l0_2.length : Int) = 0 then (semigroupref07_Validate.j0 k (l0_2.length : Int) true a0_0 a0_1 l0_2 l0_3) else (if (l0_3.length : Int) = (l0_2.length : Int) then (if a0_1 < 0 then (semigroupref07_Validate.j0 k (l0_2.length : Int) true a0_0 a0_1 l0_2 l0_3) else (semigroupref07_Validate.j0 k (l0_2.length : Int) (decide (a0_1 ≥ (l0_2.length : Int))) a0_0 a0_1 l0_2 l0_3)) else (semigroupref07_Validate.j0 k (l0_2.length : Int) true a0_0 a0_1 l0_2 l0_3)))) else (some 1))) = some r := h
 clear h
 replace H := Option.bind_eq_some_iff.mp H
 obtain ⟨t183, A20, H⟩ := H
 replace H : (if t183 = true then (if (l0_2.length : Int) > 512 then (some 3) else (if (l0_2.length : Int) = 0 then (semigroupref07_Validate.j0 k (l0_2.length : Int) true a0_0 a0_1 l0_2 l0_3) else (if (l0_3.length : Int) = (l0_2.length : Int) then (if a0_1 < 0 then (semigroupref07_Validate.j0 k (l0_2.length : Int) true a0_0 a0_1 l0_2 l0_3) else (semigroupref07_Validate.j0 k (l0_2.length : Int) (decide (a0_1 ≥ (l0_2.length : Int))) a0_0 a0_1 l0_2 l0_3)) else (semigroupref07_Validate.j0 k (l0_2.length : Int) true a0_0 a0_1 l0_2 l0_3)))) else (some 1)) = some r := H
 have A2 := Aside0.mk A20
 clear A20
 by_cases c3 : t183 = true
 (focus
 subst c3
 have H1 : (if (l0_2.length : Int) > 512 then (some 3) else (if (l0_2.length : Int) = 0 then (semigroupref07_Validate.j0 k (l0_2.length : Int) true a0_0 a0_1 l0_2 l0_3) else (if (l0_3.length : Int) = (l0_2.length : Int) then (if a0_1 < 0 then (semigroupref07_Validate.j0 k (l0_2.length : Int) true a0_0 a0_1 l0_2 l0_3) else (semigroupref07_Validate.j0 k (l0_2.length : Int) (decide (a0_1 ≥ (l0_2.length : Int))) a0_0 a0_1 l0_2 l0_3)) else (semigroupref07_Validate.j0 k (l0_2.length : Int) true a0_0 a0_1 l0_2 l0_3)))) = some r := by rw [if_pos rfl] at H; exact H
 clear H
 have H := H1
 clear H1
 by_cases c4 : (l0_2.length : Int) > 512
 (focus
 rw [if_pos c4] at H
 have c4b0 : decide (512 < (l0_2.length : Int)) = true := decide_eq_true c4
 have c4b1 : decide (512 < l0_2.length) = true := decide_eq_true (by omega)
 clear c4
 obtain rfl := Option.some.inj H
 go_enter Try.func15, Try.ntmps15
 go_wp2_with (first | ((with_reducible refine gate_dst (N := 1) rfl ?_); (try (refine gate_guard (by rfl) ?_; dsimp only)); refine box_event ?hg (N := 1) ?hd (cs := #[.int .i64 a0_0, .int .i64 a0_1, .slice A0_2 l0_2.length c0_2, .slice A0_3 l0_3.length c0_3]) (t := 25) ?hr ?_; (case hd => rfl); (case hg => rfl); (case hr => first | (go_simp; done) | (go_simp; rfl)); intro gb182 hg w5 hbox hb; have n0_ := aM (below_step (by repeat (first | (with_reducible first | exact HB.out | apply bA | apply bN | apply bD) | exact HB.out)) hb); have n1_ := aM (hbox); have n2_ := aM ((by rw [hg]; exact (below_size (by repeat (first | (with_reducible first | exact HB.out | apply bA | apply bN | apply bD) | exact HB.out))) : w.heap.size ≤ gb182)); have n3_ := aM ((by rw [hg]; exact (below_size (by repeat (first | (with_reducible first | exact HB.out | apply bA | apply bN | apply bD) | exact HB.out))) : w.heap.size ≤ gb182)); clear HB; have HB := n0_; have BK182 := n1_; have GW182 := n2_; have GE182 := n3_; clear n0_ n1_ n2_ n3_; clear hb hbox hg; have hcz6_0 : w5.cell? ⟨gb182, 0, none⟩ = some (.int .i64 a0_0) := (blk_cell BK182.out 0).trans rfl; have hcz6_1 : w5.cell? ⟨gb182, 1, none⟩ = some (.int .i64 a0_1) := (blk_cell BK182.out 1).trans rfl; have hcz6_2 : w5.cell? ⟨gb182, 2, none⟩ = some (.slice A0_2 l0_2.length c0_2) := (blk_cell BK182.out 2).trans rfl; have hcz6_3 : w5.cell? ⟨gb182, 3, none⟩ = some (.slice A0_3 l0_3.length c0_3) := (blk_cell BK182.out 3).trans rfl; have hfz6_0 := blk_frozen BK182.out 0; have hfz6_1 := blk_frozen BK182.out 1; have hfz6_2 := blk_frozen BK182.out 2; have hfz6_3 := blk_frozen BK182.out 3) | ((with_reducible refine gate_callee (f := 41) rfl ?_); refine goesL_ (some 13) rfl rfl Try.func41 (by kernel_rfl) rfl #[.int .i64 a0_0] rfl (by (try simp only [List.map_toArray, List.map_cons, List.map_nil]); first | done | rfl | (simp only [List.length_drop, List.length_take]; rfl)) ?_; (with_reducible refine (semigroupref01_MayLetters.calls a0_0 true _ A2.out).mono ?_); rintro e w' ⟨rfl, ⟨nd, rfl⟩⟩; refine ⟨_, rfl, ?_⟩))
 go_ret
 exact ⟨by first | rfl | (simp [errW_none, errW_some] <;> rfl) | (simp [*, errW_none, errW_some] <;> rfl), by repeat (first | (with_reducible first | exact HB.out | apply bA | apply bN | apply bD | refine bS ?_ ‹_›) | exact HB.out)⟩
 )
 (focus
 rw [if_neg c4] at H
 have c4b0 : decide (512 < (l0_2.length : Int)) = false := decide_eq_false c4
 have c4b1 : decide (512 < l0_2.length) = false := decide_eq_false (by omega)
 clear c4
 have HC7 := Aside0.mk H
 clear H
 go_enter Try.func15, Try.ntmps15
 go_upto_region 6 with (first | ((with_reducible refine gate_dst (N := 1) rfl ?_); (try (refine gate_guard (by rfl) ?_; dsimp only)); refine box_event ?hg (N := 1) ?hd (cs := #[.int .i64 a0_0, .int .i64 a0_1, .slice A0_2 l0_2.length c0_2, .slice A0_3 l0_3.length c0_3]) (t := 25) ?hr ?_; (case hd => rfl); (case hg => rfl); (case hr => first | (go_simp; done) | (go_simp; rfl)); intro gb182 hg w8 hbox hb; have n0_ := aM (below_step (by repeat (first | (with_reducible first | exact HB.out | apply bA | apply bN | apply bD) | exact HB.out)) hb); have n1_ := aM (hbox); have n2_ := aM ((by rw [hg]; exact (below_size (by repeat (first | (with_reducible first | exact HB.out | apply bA | apply bN | apply bD) | exact HB.out))) : w.heap.size ≤ gb182)); have n3_ := aM ((by rw [hg]; exact (below_size (by repeat (first | (with_reducible first | exact HB.out | apply bA | apply bN | apply bD) | exact HB.out))) : w.heap.size ≤ gb182)); clear HB; have HB := n0_; have BK182 := n1_; have GW182 := n2_; have GE182 := n3_; clear n0_ n1_ n2_ n3_; clear hb hbox hg; have hcz9_0 : w8.cell? ⟨gb182, 0, none⟩ = some (.int .i64 a0_0) := (blk_cell BK182.out 0).trans rfl; have hcz9_1 : w8.cell? ⟨gb182, 1, none⟩ = some (.int .i64 a0_1) := (blk_cell BK182.out 1).trans rfl; have hcz9_2 : w8.cell? ⟨gb182, 2, none⟩ = some (.slice A0_2 l0_2.length c0_2) := (blk_cell BK182.out 2).trans rfl; have hcz9_3 : w8.cell? ⟨gb182, 3, none⟩ = some (.slice A0_3 l0_3.length c0_3) := (blk_cell BK182.out 3).trans rfl; have hfz9_0 := blk_frozen BK182.out 0; have hfz9_1 := blk_frozen BK182.out 1; have hfz9_2 := blk_frozen BK182.out 2; have hfz9_3 := blk_frozen BK182.out 3) | ((with_reducible refine gate_callee (f := 41) rfl ?_); refine goesL_ (some 13) rfl rfl Try.func41 (by kernel_rfl) rfl #[.int .i64 a0_0] rfl (by (try simp only [List.map_toArray, List.map_cons, List.map_nil]); first | done | rfl | (simp only [List.length_drop, List.length_take]; rfl)) ?_; (with_reducible refine (semigroupref01_MayLetters.calls a0_0 true _ A2.out).mono ?_); rintro e w' ⟨rfl, ⟨nd, rfl⟩⟩; refine ⟨_, rfl, ?_⟩))
 (try simp only [Act.put, sA, sB, sC])
 go_cut [36] (fun v36 wc => ∃ (kq : Nat) (x36_6 : Bool), v36 = .bool x36_6 ∧ Aside0 (semigroupref07_Validate.j0 kq (l0_2.length : Int) x36_6 a0_0 a0_1 l0_2 l0_3 = some r) ∧ Aside0 (kq ≤ k) ∧ Aside0 (wc.heap[gb182]? = some (.cells #[.int .i64 a0_0, .int .i64 a0_1, (.slice A0_2 l0_2.length c0_2), (.slice A0_3 l0_3.length c0_3)] 25 (0, 0))) ∧ Aside0 (Below w.heap.size w wc))
 case first =>
  have H := HC7.out
  clear HC7
  by_cases c10 : (l0_2.length : Int) = 0
  (focus
  rw [if_pos c10] at H
  have c10b0 : ((l0_2.length : Int) == 0) = true := beq_iff_eq.mpr c10
  have c10b1 : ((l0_2.length : Int) != 0) = false := bne_eq_false_iff_eq.mpr c10
  clear c10
  (first | rw [c10b0] | (simp only [i64_w, i32_w]; rw [c10b0]) | skip)
  have H' := Aside0.mk H
  clear H
  go_wp2
  go_meet
  case rel => exact ⟨_, (true), (by first | rfl | (simp; done) | (simp [*]; done)), H', ⟨by first | omega | exact Nat.le_refl _⟩, ⟨by (with_reducible repeat (first | refine kN ?_ | refine kD ?_ | refine kA ?_)); exact BK182.out⟩, ⟨by repeat (first | (with_reducible first | exact HB.out | apply bA | apply bN | apply bD | refine bS ?_ ‹_›) | exact HB.out)⟩⟩
  )
  (focus
  rw [if_neg c10] at H
  have c10b0 : ((l0_2.length : Int) == 0) = false := beq_eq_false_iff_ne.mpr c10
  have c10b1 : ((l0_2.length : Int) != 0) = true := bne_iff_ne.mpr c10
  have c10b2 : ¬ (l0_2 = []) := fun h_ => c10 (by rw [h_]; rfl)
  (first | rw [c10b0] | (simp only [i64_w, i32_w]; rw [c10b0]) | skip)
  by_cases c11 : (l0_3.length : Int) = (l0_2.length : Int)
  (focus
  rw [if_pos c11] at H
  have c11b0 : ((l0_3.length : Int) == (l0_2.length : Int)) = true := beq_iff_eq.mpr c11
  have c11b1 : ((l0_3.length : Int) != (l0_2.length : Int)) = false := bne_eq_false_iff_eq.mpr c11
  have c11b2 : (l0_3.length == l0_2.length) = true := by first | simpa using c11 | (simp at c11 ⊢; omega)
  clear c11
  by_cases c12 : a0_1 < 0
  (focus
  rw [if_pos c12] at H
  have c12b0 : decide (a0_1 < 0) = true := decide_eq_true c12
  clear c12
  have H' := Aside0.mk H
  clear H
  have hcz13_0 : w8.cell? ⟨gb182, 0, none⟩ = some (.int .i64 a0_0) := (blk_cell BK182.out 0).trans rfl
  have hcz13_1 : w8.cell? ⟨gb182, 1, none⟩ = some (.int .i64 a0_1) := (blk_cell BK182.out 1).trans rfl
  have hcz13_2 : w8.cell? ⟨gb182, 2, none⟩ = some (.slice A0_2 l0_2.length c0_2) := (blk_cell BK182.out 2).trans rfl
  have hcz13_3 : w8.cell? ⟨gb182, 3, none⟩ = some (.slice A0_3 l0_3.length c0_3) := (blk_cell BK182.out 3).trans rfl
  have hfz13_0 := blk_frozen BK182.out 0
  have hfz13_1 := blk_frozen BK182.out 1
  have hfz13_2 := blk_frozen BK182.out 2
  have hfz13_3 := blk_frozen BK182.out 3
  go_wp2
  go_meet
  case rel => exact ⟨_, (true), (by first | rfl | (simp; done) | (simp [*]; done)), H', ⟨by first | omega | exact Nat.le_refl _⟩, ⟨by (with_reducible repeat (first | refine kN ?_ | refine kD ?_ | refine kA ?_)); exact BK182.out⟩, ⟨by repeat (first | (with_reducible first | exact HB.out | apply bA | apply bN | apply bD | refine bS ?_ ‹_›) | exact HB.out)⟩⟩
  )
  (focus
  rw [if_neg c12] at H
  have c12b0 : decide (a0_1 < 0) = false := decide_eq_false c12
  clear c12
  have H' := Aside0.mk H
  clear H
  have hcz14_0 : w8.cell? ⟨gb182, 0, none⟩ = some (.int .i64 a0_0) := (blk_cell BK182.out 0).trans rfl
  have hcz14_1 : w8.cell? ⟨gb182, 1, none⟩ = some (.int .i64 a0_1) := (blk_cell BK182.out 1).trans rfl
  have hcz14_2 : w8.cell? ⟨gb182, 2, none⟩ = some (.slice A0_2 l0_2.length c0_2) := (blk_cell BK182.out 2).trans rfl
  have hcz14_3 : w8.cell? ⟨gb182, 3, none⟩ = some (.slice A0_3 l0_3.length c0_3) := (blk_cell BK182.out 3).trans rfl
  have hfz14_0 := blk_frozen BK182.out 0
  have hfz14_1 := blk_frozen BK182.out 1
  have hfz14_2 := blk_frozen BK182.out 2
  have hfz14_3 := blk_frozen BK182.out 3
  go_wp2
  go_meet
  case rel => exact ⟨_, (decide (a0_1 ≥ (l0_2.length : Int))), (by first | rfl | (simp; done) | (simp [*]; done)), H', ⟨by first | omega | exact Nat.le_refl _⟩, ⟨by (with_reducible repeat (first | refine kN ?_ | refine kD ?_ | refine kA ?_)); exact BK182.out⟩, ⟨by repeat (first | (with_reducible first | exact HB.out | apply bA | apply bN | apply bD | refine bS ?_ ‹_›) | exact HB.out)⟩⟩
  )
  )
  (focus
  rw [if_neg c11] at H
  have c11b0 : ((l0_3.length : Int) == (l0_2.length : Int)) = false := beq_eq_false_iff_ne.mpr c11
  have c11b1 : ((l0_3.length : Int) != (l0_2.length : Int)) = true := bne_iff_ne.mpr c11
  have c11b2 : (l0_3.length == l0_2.length) = false := by first | simpa using c11 | (simp at c11 ⊢; omega)
  have H' := Aside0.mk H
  clear H
  have hcz15_0 : w8.cell? ⟨gb182, 0, none⟩ = some (.int .i64 a0_0) := (blk_cell BK182.out 0).trans rfl
  have hcz15_1 : w8.cell? ⟨gb182, 1, none⟩ = some (.int .i64 a0_1) := (blk_cell BK182.out 1).trans rfl
  have hcz15_2 : w8.cell? ⟨gb182, 2, none⟩ = some (.slice A0_2 l0_2.length c0_2) := (blk_cell BK182.out 2).trans rfl
  have hcz15_3 : w8.cell? ⟨gb182, 3, none⟩ = some (.slice A0_3 l0_3.length c0_3) := (blk_cell BK182.out 3).trans rfl
  have hfz15_0 := blk_frozen BK182.out 0
  have hfz15_1 := blk_frozen BK182.out 1
  have hfz15_2 := blk_frozen BK182.out 2
  have hfz15_3 := blk_frozen BK182.out 3
  go_wp2
  go_meet
  case rel => exact ⟨_, (true), (by first | rfl | (simp; done) | (simp [*]; done)), H', ⟨by first | omega | exact Nat.le_refl _⟩, ⟨by (with_reducible repeat (first | refine kN ?_ | refine kD ?_ | refine kA ?_)); exact BK182.out⟩, ⟨by repeat (first | (with_reducible first | exact HB.out | apply bA | apply bN | apply bD | refine bS ?_ ‹_›) | exact HB.out)⟩⟩
  )
  )
 case rest =>
  clear HC7
  try clear c1
  try clear p2
  try clear c3
  try clear c4
  try clear c4b0
  try clear c4b1
  try clear c10
  try clear c10b0
  try clear c10b1
  try clear c10b2
  try clear c11
  try clear c11b0
  try clear c11b1
  try clear c11b2
  try clear c12
  try clear c12b0
  try clear c15
  try clear hcz13_0
  try clear hcz13_1
  try clear hcz13_2
  try clear hcz13_3
  try clear hcz14_0
  try clear hcz14_1
  try clear hcz14_2
  try clear hcz14_3
  try clear hcz15_0
  try clear hcz15_1
  try clear hcz15_2
  try clear hcz15_3
  try clear hcz6_0
  try clear hcz6_1
  try clear hcz6_2
  try clear hcz6_3
  try clear hcz9_0
  try clear hcz9_1
  try clear hcz9_2
  try clear hcz9_3
  try clear hfz13_0
  try clear hfz13_1
  try clear hfz13_2
  try clear hfz13_3
  try clear hfz14_0
  try clear hfz14_1
  try clear hfz14_2
  try clear hfz14_3
  try clear hfz15_0
  try clear hfz15_1
  try clear hfz15_2
  try clear hfz15_3
  try clear hfz6_0
  try clear hfz6_1
  try clear hfz6_2
  try clear hfz6_3
  try clear hfz9_0
  try clear hfz9_1
  try clear hfz9_2
  try clear hfz9_3
  obtain ⟨kq, x36_6, rfl, HA, HJ6, BK182, HB⟩ := hcut
  cases kq with
  | zero => exact absurd HA.out (by simp [semigroupref07_Validate.j0])
  | succ kj6 =>
   have H := HA.out
   clear HA
   simp only [semigroupref07_Validate.j0] at H
   by_cases c16 : x36_6 = true
   (focus
   subst c16
   have H1 : (some 4) = some r := by rw [if_pos rfl] at H; exact H
   clear H
   have H := H1
   clear H1
   obtain rfl := Option.some.inj H
   go_wp2
   go_ret
   exact ⟨by first | rfl | (simp [errW_none, errW_some] <;> rfl) | (simp [*, errW_none, errW_some] <;> rfl), by repeat (first | (with_reducible first | exact HB.out | apply bA | apply bN | apply bD | refine bS ?_ ‹_›) | exact HB.out)⟩
   )
   (focus
   replace c16 := Bool.eq_false_iff.mpr c16
   subst c16
   have H1 : (semigroupref07_Validate.l0 kj6 (l0_2.length : Int) l0_3 (l0_3.length : Int) 0 a0_0 a0_1 l0_2 l0_3) = some r := by rw [if_neg (show ¬ (false = true) by decide)] at H; exact H
   clear H
   have H := H1
   clear H1
   have H' := Aside0.mk H
   clear H
   have hcz17_0 : wc.cell? ⟨gb182, 0, none⟩ = some (.int .i64 a0_0) := (blk_cell BK182.out 0).trans rfl
   have hcz17_1 : wc.cell? ⟨gb182, 1, none⟩ = some (.int .i64 a0_1) := (blk_cell BK182.out 1).trans rfl
   have hcz17_2 : wc.cell? ⟨gb182, 2, none⟩ = some (.slice A0_2 l0_2.length c0_2) := (blk_cell BK182.out 2).trans rfl
   have hcz17_3 : wc.cell? ⟨gb182, 3, none⟩ = some (.slice A0_3 l0_3.length c0_3) := (blk_cell BK182.out 3).trans rfl
   have hfz17_0 := blk_frozen BK182.out 0
   have hfz17_1 := blk_frozen BK182.out 1
   have hfz17_2 := blk_frozen BK182.out 2
   have hfz17_3 := blk_frozen BK182.out 3
   go_wp2
   go_loopg [40] kj6 (fun kq v40 w' => ∃ (x40_2 : Int), v40 = .int .i64 x40_2 ∧ Aside0 (semigroupref07_Validate.l0 kq (l0_2.length : Int) l0_3 (l0_3.length : Int) x40_2 a0_0 a0_1 l0_2 l0_3 = some r) ∧ Aside0 (kq ≤ kj6) ∧ Aside0 (w'.heap[gb182]? = some (.cells #[.int .i64 a0_0, .int .i64 a0_1, (.slice A0_2 l0_2.length c0_2), (.slice A0_3 l0_3.length c0_3)] 25 (0, 0))) ∧ Aside0 (Below w.heap.size w w'))
   case atStart => exact ⟨(0), (by first | rfl | (simp; done) | (simp [*]; done)), H', ⟨Nat.le_refl _⟩, ⟨by (with_reducible repeat (first | refine kN ?_ | refine kD ?_ | refine kA ?_)); exact BK182.out⟩, ⟨by repeat (first | (with_reducible first | exact HB.out | apply bA | apply bN | apply bD | refine bS ?_ ‹_›) | exact HB.out)⟩⟩
   case round =>
    clear H'
    try clear c1
    try clear p2
    try clear c3
    try clear c4
    try clear c4b0
    try clear c4b1
    try clear c10
    try clear c10b0
    try clear c10b1
    try clear c10b2
    try clear c11
    try clear c11b0
    try clear c11b1
    try clear c11b2
    try clear c12
    try clear c12b0
    try clear c15
    try clear c16
    try clear hcz13_0
    try clear hcz13_1
    try clear hcz13_2
    try clear hcz13_3
    try clear hcz14_0
    try clear hcz14_1
    try clear hcz14_2
    try clear hcz14_3
    try clear hcz15_0
    try clear hcz15_1
    try clear hcz15_2
    try clear hcz15_3
    try clear hcz17_0
    try clear hcz17_1
    try clear hcz17_2
    try clear hcz17_3
    try clear hcz6_0
    try clear hcz6_1
    try clear hcz6_2
    try clear hcz6_3
    try clear hcz9_0
    try clear hcz9_1
    try clear hcz9_2
    try clear hcz9_3
    try clear hfz13_0
    try clear hfz13_1
    try clear hfz13_2
    try clear hfz13_3
    try clear hfz14_0
    try clear hfz14_1
    try clear hfz14_2
    try clear hfz14_3
    try clear hfz15_0
    try clear hfz15_1
    try clear hfz15_2
    try clear hfz15_3
    try clear hfz17_0
    try clear hfz17_1
    try clear hfz17_2
    try clear hfz17_3
    try clear hfz6_0
    try clear hfz6_1
    try clear hfz6_2
    try clear hfz6_3
    try clear hfz9_0
    try clear hfz9_1
    try clear hfz9_2
    try clear hfz9_3
    try clear p2
    obtain ⟨x40_2, rfl, HA, HK2, BK182, HB⟩ := hrel
    cases gk with
    | zero => exact absurd HA.out (by simp [semigroupref07_Validate.l0])
    | succ k2 =>
     have H := HA.out
     clear HA
     simp only [semigroupref07_Validate.l0] at H
     by_cases c18 : x40_2 < (l0_3.length : Int)
     (focus
     rw [if_pos c18] at H
     have c18b0 : decide (x40_2 < (l0_3.length : Int)) = true := decide_eq_true c18
     clear c18
     by_cases c19 : 0 ≤ x40_2
     (focus
     rw [if_pos c19] at H
     have c19b0 : decide (0 ≤ x40_2) = true := decide_eq_true c19
     clear c19
     by_cases c20 : x40_2 < (l0_3.length : Int)
     (focus
     rw [if_pos c20] at H
     have c20b0 : decide (x40_2 < (l0_3.length : Int)) = true := decide_eq_true c20
     clear c20
     by_cases c21 : ((rd_L1 l0_3 x40_2).length : Int) = a0_0
     (focus
     rw [if_pos c21] at H
     have c21b0 : (((rd_L1 l0_3 x40_2).length : Int) == a0_0) = true := beq_iff_eq.mpr c21
     have c21b1 : (((rd_L1 l0_3 x40_2).length : Int) != a0_0) = false := bne_eq_false_iff_eq.mpr c21
     clear c21
     have H' := Aside0.mk H
     clear H
     have p184 : 0 ≤ (x40_2 : Int) := of_decide_eq_true (by assumption)
     have q184 : x40_2 < (l0_3.length : Int) := of_decide_eq_true (by assumption)
     obtain ⟨ad184, A184_0, c184_0, e184, hx184_0, hl184_0, hi184_0⟩ := at_L1 HR0_3.out x40_2 p184 q184
     cases e184
     (try replace hx184_0 := (HB.out.cell (World.block_lt_of_cell? w _ hx184_0)).trans hx184_0)
     have HR184_0 := Aside0.mk hi184_0
     have HC184_0 := Aside0.mk hl184_0
     clear hi184_0 hl184_0
     replace p184 := eq_true p184
     replace q184 := eq_true q184
     have hcz22_0 : wr.cell? ⟨gb182, 0, none⟩ = some (.int .i64 a0_0) := (blk_cell BK182.out 0).trans rfl
     have hcz22_1 : wr.cell? ⟨gb182, 1, none⟩ = some (.int .i64 a0_1) := (blk_cell BK182.out 1).trans rfl
     have hcz22_2 : wr.cell? ⟨gb182, 2, none⟩ = some (.slice A0_2 l0_2.length c0_2) := (blk_cell BK182.out 2).trans rfl
     have hcz22_3 : wr.cell? ⟨gb182, 3, none⟩ = some (.slice (some ad184) l0_3.length c0_3) := (blk_cell BK182.out 3).trans rfl
     have hfz22_0 := blk_frozen BK182.out 0
     have hfz22_1 := blk_frozen BK182.out 1
     have hfz22_2 := blk_frozen BK182.out 2
     have hfz22_3 := blk_frozen BK182.out 3
     go_wp2
     go_loopg [51] k2 (fun kq v51 w' => ∃ (x51_3 : Int), v51 = .int .i64 x51_3 ∧ Aside0 (semigroupref07_Validate.l1 kq (l0_2.length : Int) l0_3 (l0_3.length : Int) x40_2 (rd_L1 l0_3 x40_2) ((rd_L1 l0_3 x40_2).length : Int) x51_3 a0_0 a0_1 l0_2 l0_3 = some r) ∧ Aside0 (kq ≤ k2) ∧ Aside0 (w'.heap[gb182]? = some (.cells #[.int .i64 a0_0, .int .i64 a0_1, (.slice A0_2 l0_2.length c0_2), (.slice (some ad184) l0_3.length c0_3)] 25 (0, 0))) ∧ Aside0 (Below w.heap.size w w'))
     case atStart => exact ⟨(0), (by first | rfl | (simp; done) | (simp [*]; done)), H', ⟨Nat.le_refl _⟩, ⟨by (with_reducible repeat (first | refine kN ?_ | refine kD ?_ | refine kA ?_)); exact BK182.out⟩, ⟨by repeat (first | (with_reducible first | exact HB.out | apply bA | apply bN | apply bD | refine bS ?_ ‹_›) | exact HB.out)⟩⟩
     case round =>
      clear H'
      try clear c1
      try clear p1
      try clear q1
      try clear hx1
      try clear c2
      try clear p2
      try clear c3
      try clear c4
      try clear c4b0
      try clear c4b1
      try clear c10
      try clear c10b0
      try clear c10b1
      try clear c10b2
      try clear c11
      try clear c11b0
      try clear c11b1
      try clear c11b2
      try clear c12
      try clear c12b0
      try clear c15
      try clear c16
      try clear c18
      try clear c18b0
      try clear p18
      try clear q18
      try clear hx18
      try clear c19
      try clear c19b0
      try clear c20
      try clear c20b0
      try clear c21
      try clear c21b0
      try clear c21b1
      try clear hcz13_0
      try clear hcz13_1
      try clear hcz13_2
      try clear hcz13_3
      try clear hcz14_0
      try clear hcz14_1
      try clear hcz14_2
      try clear hcz14_3
      try clear hcz15_0
      try clear hcz15_1
      try clear hcz15_2
      try clear hcz15_3
      try clear hcz17_0
      try clear hcz17_1
      try clear hcz17_2
      try clear hcz17_3
      try clear hcz22_0
      try clear hcz22_1
      try clear hcz22_2
      try clear hcz22_3
      try clear hcz6_0
      try clear hcz6_1
      try clear hcz6_2
      try clear hcz6_3
      try clear hcz9_0
      try clear hcz9_1
      try clear hcz9_2
      try clear hcz9_3
      try clear hfz13_0
      try clear hfz13_1
      try clear hfz13_2
      try clear hfz13_3
      try clear hfz14_0
      try clear hfz14_1
      try clear hfz14_2
      try clear hfz14_3
      try clear hfz15_0
      try clear hfz15_1
      try clear hfz15_2
      try clear hfz15_3
      try clear hfz17_0
      try clear hfz17_1
      try clear hfz17_2
      try clear hfz17_3
      try clear hfz22_0
      try clear hfz22_1
      try clear hfz22_2
      try clear hfz22_3
      try clear hfz6_0
      try clear hfz6_1
      try clear hfz6_2
      try clear hfz6_3
      try clear hfz9_0
      try clear hfz9_1
      try clear hfz9_2
      try clear hfz9_3
      try clear hx184_0
      try clear p184
      try clear p2
      try clear q184
      obtain ⟨x51_3, rfl, HA, HK3, BK182, HB⟩ := hrel
      cases gk with
      | zero => exact absurd HA.out (by simp [semigroupref07_Validate.l1])
      | succ k3 =>
       have H := HA.out
       clear HA
       simp only [semigroupref07_Validate.l1] at H
       by_cases c23 : x51_3 < ((rd_L1 l0_3 x40_2).length : Int)
       (focus
       rw [if_pos c23] at H
       have c23b0 : decide (x51_3 < ((rd_L1 l0_3 x40_2).length : Int)) = true := decide_eq_true c23
       clear c23
       by_cases c24 : 0 ≤ x51_3
       (focus
       rw [if_pos c24] at H
       have c24b0 : decide (0 ≤ x51_3) = true := decide_eq_true c24
       clear c24
       by_cases c25 : x51_3 < ((rd_L1 l0_3 x40_2).length : Int)
       (focus
       rw [if_pos c25] at H
       have c25b0 : decide (x51_3 < ((rd_L1 l0_3 x40_2).length : Int)) = true := decide_eq_true c25
       clear c25
       by_cases c26 : (rd (rd_L1 l0_3 x40_2) x51_3) < 0
       (focus
       rw [if_pos c26] at H
       have c26b0 : decide ((rd (rd_L1 l0_3 x40_2) x51_3) < 0) = true := decide_eq_true c26
       clear c26
       obtain rfl := Option.some.inj H
       have p185 : 0 ≤ (x51_3 : Int) := of_decide_eq_true (by assumption)
       have q185 : x51_3 < ((rd_L1 l0_3 x40_2).length : Int) := of_decide_eq_true (by assumption)
       obtain ⟨ad185, e185, hx185_0⟩ := Kd.at_int HR184_0.out x51_3 p185 q185
       cases e185
       (try replace hx185_0 := (HB.out.cell (World.block_lt_of_cell? w _ hx185_0)).trans hx185_0)
       replace p185 := eq_true p185
       replace q185 := eq_true q185
       go_wp2
       go_ret
       exact ⟨by first | rfl | (simp [errW_none, errW_some] <;> rfl) | (simp [*, errW_none, errW_some] <;> rfl), by repeat (first | (with_reducible first | exact HB.out | apply bA | apply bN | apply bD | refine bS ?_ ‹_›) | exact HB.out)⟩
       )
       (focus
       rw [if_neg c26] at H
       have c26b0 : decide ((rd (rd_L1 l0_3 x40_2) x51_3) < 0) = false := decide_eq_false c26
       clear c26
       by_cases c27 : (rd (rd_L1 l0_3 x40_2) x51_3) ≥ (l0_2.length : Int)
       (focus
       rw [if_pos c27] at H
       have c27b0 : decide ((l0_2.length : Int) ≤ (rd (rd_L1 l0_3 x40_2) x51_3)) = true := decide_eq_true c27
       clear c27
       obtain rfl := Option.some.inj H
       have p185 : 0 ≤ (x51_3 : Int) := of_decide_eq_true (by assumption)
       have q185 : x51_3 < ((rd_L1 l0_3 x40_2).length : Int) := of_decide_eq_true (by assumption)
       obtain ⟨ad185, e185, hx185_0⟩ := Kd.at_int HR184_0.out x51_3 p185 q185
       cases e185
       (try replace hx185_0 := (HB.out.cell (World.block_lt_of_cell? w _ hx185_0)).trans hx185_0)
       replace p185 := eq_true p185
       replace q185 := eq_true q185
       go_wp2
       go_ret
       exact ⟨by first | rfl | (simp [errW_none, errW_some] <;> rfl) | (simp [*, errW_none, errW_some] <;> rfl), by repeat (first | (with_reducible first | exact HB.out | apply bA | apply bN | apply bD | refine bS ?_ ‹_›) | exact HB.out)⟩
       )
       (focus
       rw [if_neg c27] at H
       have c27b0 : decide ((l0_2.length : Int) ≤ (rd (rd_L1 l0_3 x40_2) x51_3)) = false := decide_eq_false c27
       clear c27
       have H' := Aside0.mk H
       clear H
       have p185 : 0 ≤ (x51_3 : Int) := of_decide_eq_true (by assumption)
       have q185 : x51_3 < ((rd_L1 l0_3 x40_2).length : Int) := of_decide_eq_true (by assumption)
       obtain ⟨ad185, e185, hx185_0⟩ := Kd.at_int HR184_0.out x51_3 p185 q185
       cases e185
       (try replace hx185_0 := (HB.out.cell (World.block_lt_of_cell? w _ hx185_0)).trans hx185_0)
       replace p185 := eq_true p185
       replace q185 := eq_true q185
       go_wp2
       go_roundg k3
       case measure => have := HJ6.out; have := HK2.out; have := HK3.out; omega
       case rel => exact ⟨(wrap64 (x51_3 + 1)), (by first | rfl | (simp; done) | (simp [*]; done)), H', ⟨by have := HJ6.out; have := HK2.out; have := HK3.out; omega⟩, ⟨by (with_reducible repeat (first | refine kN ?_ | refine kD ?_ | refine kA ?_)); exact BK182.out⟩, ⟨by repeat (first | (with_reducible first | exact HB.out | apply bA | apply bN | apply bD | refine bS ?_ ‹_›) | exact HB.out)⟩⟩
       )
       )
       )
       (focus
       rw [if_neg c25] at H
       exact absurd H (by simp)
       )
       )
       (focus
       rw [if_neg c24] at H
       exact absurd H (by simp)
       )
       )
       (focus
       rw [if_neg c23] at H
       have c23b0 : decide (x51_3 < ((rd_L1 l0_3 x40_2).length : Int)) = false := decide_eq_false c23
       clear c23
       have H' := Aside0.mk H
       clear H
       go_wp2
       go_roundg k3
       case measure => have := HJ6.out; have := HK2.out; have := HK3.out; omega
       case rel => exact ⟨(wrap64 (x40_2 + 1)), (by first | rfl | (simp; done) | (simp [*]; done)), H', ⟨by have := HJ6.out; have := HK2.out; have := HK3.out; omega⟩, ⟨by (with_reducible repeat (first | refine kN ?_ | refine kD ?_ | refine kA ?_)); exact BK182.out⟩, ⟨by repeat (first | (with_reducible first | exact HB.out | apply bA | apply bN | apply bD | refine bS ?_ ‹_›) | exact HB.out)⟩⟩
       )
     )
     (focus
     rw [if_neg c21] at H
     have c21b0 : (((rd_L1 l0_3 x40_2).length : Int) == a0_0) = false := beq_eq_false_iff_ne.mpr c21
     have c21b1 : (((rd_L1 l0_3 x40_2).length : Int) != a0_0) = true := bne_iff_ne.mpr c21
     obtain rfl := Option.some.inj H
     have p184 : 0 ≤ (x40_2 : Int) := of_decide_eq_true (by assumption)
     have q184 : x40_2 < (l0_3.length : Int) := of_decide_eq_true (by assumption)
     obtain ⟨ad184, A184_0, c184_0, e184, hx184_0, hl184_0, hi184_0⟩ := at_L1 HR0_3.out x40_2 p184 q184
     cases e184
     (try replace hx184_0 := (HB.out.cell (World.block_lt_of_cell? w _ hx184_0)).trans hx184_0)
     have HR184_0 := Aside0.mk hi184_0
     have HC184_0 := Aside0.mk hl184_0
     clear hi184_0 hl184_0
     replace p184 := eq_true p184
     replace q184 := eq_true q184
     have hcz28_0 : wr.cell? ⟨gb182, 0, none⟩ = some (.int .i64 a0_0) := (blk_cell BK182.out 0).trans rfl
     have hcz28_1 : wr.cell? ⟨gb182, 1, none⟩ = some (.int .i64 a0_1) := (blk_cell BK182.out 1).trans rfl
     have hcz28_2 : wr.cell? ⟨gb182, 2, none⟩ = some (.slice A0_2 l0_2.length c0_2) := (blk_cell BK182.out 2).trans rfl
     have hcz28_3 : wr.cell? ⟨gb182, 3, none⟩ = some (.slice (some ad184) l0_3.length c0_3) := (blk_cell BK182.out 3).trans rfl
     have hfz28_0 := blk_frozen BK182.out 0
     have hfz28_1 := blk_frozen BK182.out 1
     have hfz28_2 := blk_frozen BK182.out 2
     have hfz28_3 := blk_frozen BK182.out 3
     go_wp2
     go_ret
     exact ⟨by first | rfl | (simp [errW_none, errW_some] <;> rfl) | (simp [*, errW_none, errW_some] <;> rfl), by repeat (first | (with_reducible first | exact HB.out | apply bA | apply bN | apply bD | refine bS ?_ ‹_›) | exact HB.out)⟩
     )
     )
     (focus
     rw [if_neg c20] at H
     exact absurd H (by simp)
     )
     )
     (focus
     rw [if_neg c19] at H
     exact absurd H (by simp)
     )
     )
     (focus
     rw [if_neg c18] at H
     have c18b0 : decide (x40_2 < (l0_3.length : Int)) = false := decide_eq_false c18
     clear c18
     obtain rfl := Option.some.inj H
     go_wp2
     go_ret
     exact ⟨by first | rfl | (simp [errW_none, errW_some] <;> rfl) | (simp [*, errW_none, errW_some] <;> rfl), by repeat (first | (with_reducible first | exact HB.out | apply bA | apply bN | apply bD | refine bS ?_ ‹_›) | exact HB.out)⟩
     )
   )
 )
 )
 (focus
 replace c3 := Bool.eq_false_iff.mpr c3
 subst c3
 have H1 : (some 1) = some r := by rw [if_neg (show ¬ (false = true) by decide)] at H; exact H
 clear H
 have H := H1
 clear H1
 obtain rfl := Option.some.inj H
 go_enter Try.func15, Try.ntmps15
 go_wp2_with (first | ((with_reducible refine gate_dst (N := 1) rfl ?_); (try (refine gate_guard (by rfl) ?_; dsimp only)); refine box_event ?hg (N := 1) ?hd (cs := #[.int .i64 a0_0, .int .i64 a0_1, .slice A0_2 l0_2.length c0_2, .slice A0_3 l0_3.length c0_3]) (t := 25) ?hr ?_; (case hd => rfl); (case hg => rfl); (case hr => first | (go_simp; done) | (go_simp; rfl)); intro gb182 hg w29 hbox hb; have n0_ := aM (below_step (by repeat (first | (with_reducible first | exact HB.out | apply bA | apply bN | apply bD) | exact HB.out)) hb); have n1_ := aM (hbox); have n2_ := aM ((by rw [hg]; exact (below_size (by repeat (first | (with_reducible first | exact HB.out | apply bA | apply bN | apply bD) | exact HB.out))) : w.heap.size ≤ gb182)); have n3_ := aM ((by rw [hg]; exact (below_size (by repeat (first | (with_reducible first | exact HB.out | apply bA | apply bN | apply bD) | exact HB.out))) : w.heap.size ≤ gb182)); clear HB; have HB := n0_; have BK182 := n1_; have GW182 := n2_; have GE182 := n3_; clear n0_ n1_ n2_ n3_; clear hb hbox hg; have hcz30_0 : w29.cell? ⟨gb182, 0, none⟩ = some (.int .i64 a0_0) := (blk_cell BK182.out 0).trans rfl; have hcz30_1 : w29.cell? ⟨gb182, 1, none⟩ = some (.int .i64 a0_1) := (blk_cell BK182.out 1).trans rfl; have hcz30_2 : w29.cell? ⟨gb182, 2, none⟩ = some (.slice A0_2 l0_2.length c0_2) := (blk_cell BK182.out 2).trans rfl; have hcz30_3 : w29.cell? ⟨gb182, 3, none⟩ = some (.slice A0_3 l0_3.length c0_3) := (blk_cell BK182.out 3).trans rfl; have hfz30_0 := blk_frozen BK182.out 0; have hfz30_1 := blk_frozen BK182.out 1; have hfz30_2 := blk_frozen BK182.out 2; have hfz30_3 := blk_frozen BK182.out 3) | ((with_reducible refine gate_callee (f := 41) rfl ?_); refine goesL_ (some 13) rfl rfl Try.func41 (by kernel_rfl) rfl #[.int .i64 a0_0] rfl (by (try simp only [List.map_toArray, List.map_cons, List.map_nil]); first | done | rfl | (simp only [List.length_drop, List.length_take]; rfl)) ?_; (with_reducible refine (semigroupref01_MayLetters.calls a0_0 false _ A2.out).mono ?_); rintro e w' ⟨rfl, ⟨nd, rfl⟩⟩; refine ⟨_, rfl, ?_⟩))
 go_ret
 exact ⟨by first | rfl | (simp [errW_none, errW_some] <;> rfl) | (simp [*, errW_none, errW_some] <;> rfl), by repeat (first | (with_reducible first | exact HB.out | apply bA | apply bN | apply bD | refine bS ?_ ‹_›) | exact HB.out)⟩
 )
/-! ### semigrouplaw07_valid: function 17 -/
def semigrouplaw07_valid.f (k : Nat) (a0_0 : Int) (a0_1 : Int) (l0_2 : List Bool) (l0_3 : List (List Int)) : Option (Bool) := (semigroupref07_Validate.f k a0_0 a0_1 l0_2 l0_3).bind fun t187 => (some (t187 == 0))
theorem semigrouplaw07_valid.mono : ∀ a0 a1 a2 a3 k, LeO (semigrouplaw07_valid.f k a0 a1 a2 a3) (semigrouplaw07_valid.f (k + 1) a0 a1 a2 a3) := by
 intro a0 a1 a2 a3 k
 unfold semigrouplaw07_valid.f
 repeat' first
  | (with_reducible exact semigroupref07_Validate.mono _ _ _ _ _)
  | (with_reducible exact LeO.refl _)
  | (with_reducible exact LeO.none _)
  | (with_reducible refine LeO.ite ?_ ?_)
  | (with_reducible refine LeO.bind ?_ (fun _ => ?_))
  | exact semigroupref07_Validate.mono _ _ _ _ _
  | exact LeO.none _
  | refine LeO.ite ?_ ?_
  | refine LeO.bind ?_ (fun _ => ?_)
set_option maxHeartbeats 8000000 in
set_option maxRecDepth 100000 in
theorem semigrouplaw07_valid.calls (k : Nat) (a0_0 : Int) (a0_1 : Int) (A0_2 : Option Addr) (c0_2 : Nat) (l0_2 : List Bool) (A0_3 : Option Addr) (c0_3 : Nat) (l0_3 : List (List Int)) (r : Bool) (w : World) (hr0_2 : Kd.C Kd.bool w A0_2 l0_2.length l0_2) (hc0_2 : l0_2.length ≤ c0_2) (hr0_3 : Kd.C (Kd.slice 3 (Kd.int .i64)) w A0_3 l0_3.length l0_3) (hc0_3 : l0_3.length ≤ c0_3) (h : semigrouplaw07_valid.f k a0_0 a0_1 l0_2 l0_3 = some r) :
 Calls Try.prog 17 #[.agg #[.int .i64 a0_0, .int .i64 a0_1, .slice A0_2 l0_2.length c0_2, .slice A0_3 l0_3.length c0_3]] w fun e w' => e = .returned (.bool r) ∧ Below w.heap.size w w' := by
 have hu25 := Try.underlying25
 have HR0_2 := Aside0.mk hr0_2
 have HC0_2 := Aside0.mk hc0_2
 clear hr0_2 hc0_2
 have HR0_3 := Aside0.mk hr0_3
 have HC0_3 := Aside0.mk hc0_3
 clear hr0_3 hc0_3
 have HB := aM (Below.refl w.heap.size w)
 have H : ((semigroupref07_Validate.f k a0_0 a0_1 l0_2 l0_3).bind fun t187 => (some (t187 == 0))) = some r := h
 clear h
 replace H := Option.bind_eq_some_iff.mp H
 obtain ⟨t187, A20, H⟩ := H
 replace H : (some (t187 == 0)) = some r := H
 have A2 := Aside0.mk A20
 clear A20
 obtain rfl := Option.some.inj H
 go_enter Try.func17, Try.ntmps17
 go_wp2_with (first | ((with_reducible refine gate_dst (N := 1) rfl ?_); refine box_event ?hg (N := 1) ?hd (cs := #[.int .i64 a0_0, .int .i64 a0_1, .slice A0_2 l0_2.length c0_2, .slice A0_3 l0_3.length c0_3]) (t := 25) ?hr ?_; (case hd => rfl); (case hg => rfl); (case hr => first | (go_simp; done) | (go_simp; rfl)); intro gb186 hg w3 hbox hb; have n0_ := aM (below_step (by repeat (first | (with_reducible first | exact HB.out | apply bA | apply bN | apply bD) | exact HB.out)) hb); have n1_ := aM (hbox); have n2_ := aM ((by rw [hg]; exact (below_size (by repeat (first | (with_reducible first | exact HB.out | apply bA | apply bN | apply bD) | exact HB.out))) : w.heap.size ≤ gb186)); have n3_ := aM ((by rw [hg]; exact (below_size (by repeat (first | (with_reducible first | exact HB.out | apply bA | apply bN | apply bD) | exact HB.out))) : w.heap.size ≤ gb186)); clear HB; have HB := n0_; have BK186 := n1_; have GW186 := n2_; have GE186 := n3_; clear n0_ n1_ n2_ n3_; clear hb hbox hg; have hcz4_0 : w3.cell? ⟨gb186, 0, none⟩ = some (.int .i64 a0_0) := (blk_cell BK186.out 0).trans rfl; have hcz4_1 : w3.cell? ⟨gb186, 1, none⟩ = some (.int .i64 a0_1) := (blk_cell BK186.out 1).trans rfl; have hcz4_2 : w3.cell? ⟨gb186, 2, none⟩ = some (.slice A0_2 l0_2.length c0_2) := (blk_cell BK186.out 2).trans rfl; have hcz4_3 : w3.cell? ⟨gb186, 3, none⟩ = some (.slice A0_3 l0_3.length c0_3) := (blk_cell BK186.out 3).trans rfl; have hfz4_0 := blk_frozen BK186.out 0; have hfz4_1 := blk_frozen BK186.out 1; have hfz4_2 := blk_frozen BK186.out 2; have hfz4_3 := blk_frozen BK186.out 3) | ((with_reducible refine gate_callee (f := 15) rfl ?_); refine goesL_ (some 4) rfl rfl Try.func15 (by kernel_rfl) rfl #[.agg #[.int .i64 a0_0, .int .i64 a0_1, .slice A0_2 l0_2.length c0_2, .slice A0_3 l0_3.length c0_3]] rfl (by (try simp only [List.map_toArray, List.map_cons, List.map_nil]); first | done | rfl | (simp only [List.length_drop, List.length_take]; rfl)) ?_; (with_reducible refine (semigroupref07_Validate.calls k a0_0 a0_1 _ _ l0_2 _ _ l0_3 t187 _ ?side1 ?side2 ?side3 ?side4 A2.out).mono ?_); (case side1 => repeat (first | exact (Kd.C_below HR0_2.out HB.out) | (with_reducible refine Kd.C_alloc ?_ _) | (with_reducible refine Kd.C_drewN ?_ _) | (with_reducible refine Kd.C_drew ?_))); (case side2 => exact HC0_2.out); (case side3 => repeat (first | exact (Kd.C_below HR0_3.out HB.out) | (with_reducible refine Kd.C_alloc ?_ _) | (with_reducible refine Kd.C_drewN ?_ _) | (with_reducible refine Kd.C_drew ?_))); (case side4 => exact HC0_3.out); rintro e w5 ⟨rfl, hb⟩; refine ⟨_, rfl, ?_⟩; have n0_ := aM (blk_below (uB BK186.out) hb); have n1_ := aM (below_step (by repeat (first | (with_reducible first | exact HB.out | apply bA | apply bN | apply bD | refine bS ?_ ‹_›) | exact HB.out)) hb); clear BK186; clear HB; have BK186 := n0_; have HB := n1_; clear n0_ n1_; (try clear hb); (try clear hb2); (try clear hk); (try clear hi)))
 go_ret
 exact ⟨by first | rfl | (simp [errW_none, errW_some] <;> rfl) | (simp [*, errW_none, errW_some] <;> rfl), by repeat (first | (with_reducible first | exact HB.out | apply bA | apply bN | apply bD | refine bS ?_ ‹_›) | exact HB.out)⟩
end Go.Proofs.Ytpjbmgoagehjkaa.PDfaProducts
