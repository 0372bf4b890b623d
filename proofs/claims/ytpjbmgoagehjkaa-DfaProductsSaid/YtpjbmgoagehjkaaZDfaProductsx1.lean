import Derived.Test.YtpjbmgoagehjkaaZDfaProductsx0
namespace Go.Proofs.Ytpjbmgoagehjkaa.PDfaProducts
open Go.RowKit Go.Proofs.YtpjbmgoagehjkaaH Go.Proofs.YtpjbmgoagehjkaaW.PrintWords Go.Proofs.YtpjbmgoagehjkaaW.PrintLast Go.Proofs.YtpjbmgoagehjkaaW.PrintMore
attribute [local go_sem] max2_int min2_int max_two min_two max_three min_three max_four min_four   -- for this text's walks alone
set_option linter.unusedVariables false
set_option linter.unusedSimpArgs false
/-! ### dfa_Validate: function 14 -/
mutual
def dfa_Validate.j0 : Nat → Int → Bool → Int → Int → List Bool → List (List Int) → Option (Int)
 | 0, _, _, _, _, _, _ => none
 | k + 1, x3, x11, x102000, x102001, x102002, x102003 => if x11 = true then (some 1) else (if x3 > 512 then (some 3) else (if x3 = 0 then (some 4) else (if (x102003.length : Int) = x3 then (if x102001 < 0 then (some 4) else (if x102001 ≥ x3 then (some 4) else (dfa_Validate.l0 k x3 x102003 (x102003.length : Int) 0 x102000 x102001 x102002 x102003))) else (some 4))))
def dfa_Validate.l0 : Nat → Int → List (List Int) → Int → Int → Int → Int → List Bool → List (List Int) → Option (Int)
 | 0, _, _, _, _, _, _, _, _ => none
 | k + 1, x3, x45, x46, x47, x102000, x102001, x102002, x102003 => if x47 < x46 then (if 0 ≤ x47 then (if x47 < (x45.length : Int) then (if ((rd_L1 x45 x47).length : Int) = x102000 then (dfa_Validate.l1 k x3 x45 x46 x47 (rd_L1 x45 x47) ((rd_L1 x45 x47).length : Int) 0 x102000 x102001 x102002 x102003) else (some 4)) else (none)) else (none)) else (some 0)
def dfa_Validate.l1 : Nat → Int → List (List Int) → Int → Int → List Int → Int → Int → Int → Int → List Bool → List (List Int) → Option (Int)
 | 0, _, _, _, _, _, _, _, _, _, _, _ => none
 | k + 1, x3, x45, x46, x47, x56, x57, x58, x102000, x102001, x102002, x102003 => if x58 < x57 then (if 0 ≤ x58 then (if x58 < (x56.length : Int) then (if (rd x56 x58) < 0 then (some 4) else (if (rd x56 x58) ≥ x3 then (some 4) else (dfa_Validate.l1 k x3 x45 x46 x47 x56 x57 (wrap64 (x58 + 1)) x102000 x102001 x102002 x102003))) else (none)) else (none)) else (dfa_Validate.l0 k x3 x45 x46 (wrap64 (x47 + 1)) x102000 x102001 x102002 x102003)
end
def dfa_Validate.f (k : Nat) (a0_0 : Int) (a0_1 : Int) (l0_2 : List Bool) (l0_3 : List (List Int)) : Option (Int) := if a0_0 < 1 then (dfa_Validate.j0 k (l0_2.length : Int) true a0_0 a0_1 l0_2 l0_3) else (dfa_Validate.j0 k (l0_2.length : Int) (decide (a0_0 > 6)) a0_0 a0_1 l0_2 l0_3)
theorem dfa_Validate.mono_l : ∀ k, (∀ y0 y1 y2 y3 y4 y5, LeO (dfa_Validate.j0 k y0 y1 y2 y3 y4 y5) (dfa_Validate.j0 (k + 1) y0 y1 y2 y3 y4 y5)) ∧ (∀ y0 y1 y2 y3 y4 y5 y6 y7, LeO (dfa_Validate.l0 k y0 y1 y2 y3 y4 y5 y6 y7) (dfa_Validate.l0 (k + 1) y0 y1 y2 y3 y4 y5 y6 y7)) ∧ (∀ y0 y1 y2 y3 y4 y5 y6 y7 y8 y9 y10, LeO (dfa_Validate.l1 k y0 y1 y2 y3 y4 y5 y6 y7 y8 y9 y10) (dfa_Validate.l1 (k + 1) y0 y1 y2 y3 y4 y5 y6 y7 y8 y9 y10))
 | 0 => ⟨fun _ _ _ _ _ _ r h => by simp [dfa_Validate.j0] at h, fun _ _ _ _ _ _ _ _ r h => by simp [dfa_Validate.l0] at h, fun _ _ _ _ _ _ _ _ _ _ _ r h => by simp [dfa_Validate.l1] at h⟩
 | k + 1 => by
  obtain ⟨ih0, ih1, ih2⟩ := dfa_Validate.mono_l k
  refine ⟨?_, ?_, ?_⟩
  (focus
  intro y0 y1 y2 y3 y4 y5
  unfold dfa_Validate.j0
  repeat' first
  | (with_reducible exact ih0 _ _ _ _ _ _)
  | (with_reducible exact ih1 _ _ _ _ _ _ _ _)
  | (with_reducible exact ih2 _ _ _ _ _ _ _ _ _ _ _)
  | (with_reducible exact LeO.refl _)
  | (with_reducible exact LeO.none _)
  | (with_reducible refine LeO.ite ?_ ?_)
  | (with_reducible refine LeO.bind ?_ (fun _ => ?_))
  | exact ih0 _ _ _ _ _ _
  | exact ih1 _ _ _ _ _ _ _ _
  | exact ih2 _ _ _ _ _ _ _ _ _ _ _
  | exact LeO.none _
  | refine LeO.ite ?_ ?_
  | refine LeO.bind ?_ (fun _ => ?_)
  )
  (focus
  intro y0 y1 y2 y3 y4 y5 y6 y7
  unfold dfa_Validate.l0
  repeat' first
  | (with_reducible exact ih0 _ _ _ _ _ _)
  | (with_reducible exact ih1 _ _ _ _ _ _ _ _)
  | (with_reducible exact ih2 _ _ _ _ _ _ _ _ _ _ _)
  | (with_reducible exact LeO.refl _)
  | (with_reducible exact LeO.none _)
  | (with_reducible refine LeO.ite ?_ ?_)
  | (with_reducible refine LeO.bind ?_ (fun _ => ?_))
  | exact ih0 _ _ _ _ _ _
  | exact ih1 _ _ _ _ _ _ _ _
  | exact ih2 _ _ _ _ _ _ _ _ _ _ _
  | exact LeO.none _
  | refine LeO.ite ?_ ?_
  | refine LeO.bind ?_ (fun _ => ?_)
  )
  (focus
  intro y0 y1 y2 y3 y4 y5 y6 y7 y8 y9 y10
  unfold dfa_Validate.l1
  repeat' first
  | (with_reducible exact ih0 _ _ _ _ _ _)
  | (with_reducible exact ih1 _ _ _ _ _ _ _ _)
  | (with_reducible exact ih2 _ _ _ _ _ _ _ _ _ _ _)
  | (with_reducible exact LeO.refl _)
  | (with_reducible exact LeO.none _)
  | (with_reducible refine LeO.ite ?_ ?_)
  | (with_reducible refine LeO.bind ?_ (fun _ => ?_))
  | exact ih0 _ _ _ _ _ _
  | exact ih1 _ _ _ _ _ _ _ _
  | exact ih2 _ _ _ _ _ _ _ _ _ _ _
  | exact LeO.none _
  | refine LeO.ite ?_ ?_
  | refine LeO.bind ?_ (fun _ => ?_)
  )
theorem dfa_Validate.mono : ∀ a0 a1 a2 a3 k, LeO (dfa_Validate.f k a0 a1 a2 a3) (dfa_Validate.f (k + 1) a0 a1 a2 a3) := by
 intro a0 a1 a2 a3 k
 obtain ⟨ih0, ih1, ih2⟩ := dfa_Validate.mono_l k
 unfold dfa_Validate.f
 repeat' first
  | (with_reducible exact ih0 _ _ _ _ _ _)
  | (with_reducible exact ih1 _ _ _ _ _ _ _ _)
  | (with_reducible exact ih2 _ _ _ _ _ _ _ _ _ _ _)
  | (with_reducible exact LeO.refl _)
  | (with_reducible exact LeO.none _)
  | (with_reducible refine LeO.ite ?_ ?_)
  | (with_reducible refine LeO.bind ?_ (fun _ => ?_))
  | exact ih0 _ _ _ _ _ _
  | exact ih1 _ _ _ _ _ _ _ _
  | exact ih2 _ _ _ _ _ _ _ _ _ _ _
  | exact LeO.none _
  | refine LeO.ite ?_ ?_
  | refine LeO.bind ?_ (fun _ => ?_)
set_option maxHeartbeats 8000000 in
set_option maxRecDepth 100000 in
theorem dfa_Validate.calls (k : Nat) (a0_0 : Int) (a0_1 : Int) (A0_2 : Option Addr) (c0_2 : Nat) (l0_2 : List Bool) (A0_3 : Option Addr) (c0_3 : Nat) (l0_3 : List (List Int)) (r : Int) (w : World) (hr0_2 : Kd.C Kd.bool w A0_2 l0_2.length l0_2) (hc0_2 : l0_2.length ≤ c0_2) (hr0_3 : Kd.C (Kd.slice 3 (Kd.int .i64)) w A0_3 l0_3.length l0_3) (hc0_3 : l0_3.length ≤ c0_3) (h : dfa_Validate.f k a0_0 a0_1 l0_2 l0_3 = some r) :
 Calls Try.prog 14 #[.agg #[.int .i64 a0_0, .int .i64 a0_1, .slice A0_2 l0_2.length c0_2, .slice A0_3 l0_3.length c0_3]] w fun e w' => e = .returned (.int .i64 r) ∧ Below w.heap.size w w' := by
 have hu25 := Try.underlying25
 have HR0_2 := Aside0.mk hr0_2
 have HC0_2 := Aside0.mk hc0_2
 clear hr0_2 hc0_2
 have HR0_3 := Aside0.mk hr0_3
 have HC0_3 := Aside0.mk hc0_3
 clear hr0_3 hc0_3
 have HB := aM (Below.refl w.heap.size w)
 have H : (if a0_0 < 1 then (dfa_Validate.j0 k (l0_2.length : Int) true a0_0 a0_1 l0_2 l0_3) else (dfa_Validate.j0 k (l0_2.length : Int) (decide (a0_0 > 6)) a0_0 a0_1 l0_2 l0_3)) = some r := h
 clear h
 have HC2 := Aside0.mk H
 clear H
 go_enter Try.func14, Try.ntmps14
 go_upto_region 2 with (first | ((with_reducible refine gate_dst (N := 1) rfl ?_); (try (refine gate_guard (by rfl) ?_; dsimp only)); refine box_event ?hg (N := 1) ?hd (cs := #[.int .i64 a0_0, .int .i64 a0_1, .slice A0_2 l0_2.length c0_2, .slice A0_3 l0_3.length c0_3]) (t := 25) ?hr ?_; (case hd => rfl); (case hg => rfl); (case hr => first | (go_simp; done) | (go_simp; rfl)); intro gb101 hg w3 hbox hb; have n0_ := aM (below_step (by repeat (first | (with_reducible first | exact HB.out | apply bA | apply bN | apply bD) | exact HB.out)) hb); have n1_ := aM (hbox); have n2_ := aM ((by rw [hg]; exact (below_size (by repeat (first | (with_reducible first | exact HB.out | apply bA | apply bN | apply bD) | exact HB.out))) : w.heap.size ≤ gb101)); have n3_ := aM ((by rw [hg]; exact (below_size (by repeat (first | (with_reducible first | exact HB.out | apply bA | apply bN | apply bD) | exact HB.out))) : w.heap.size ≤ gb101)); clear HB; have HB := n0_; have BK101 := n1_; have GW101 := n2_; have GE101 := n3_; clear n0_ n1_ n2_ n3_; clear hb hbox hg; have hcz4_0 : w3.cell? ⟨gb101, 0, none⟩ = some (.int .i64 a0_0) := (blk_cell BK101.out 0).trans rfl; have hcz4_1 : w3.cell? ⟨gb101, 1, none⟩ = some (.int .i64 a0_1) := (blk_cell BK101.out 1).trans rfl; have hcz4_2 : w3.cell? ⟨gb101, 2, none⟩ = some (.slice A0_2 l0_2.length c0_2) := (blk_cell BK101.out 2).trans rfl; have hcz4_3 : w3.cell? ⟨gb101, 3, none⟩ = some (.slice A0_3 l0_3.length c0_3) := (blk_cell BK101.out 3).trans rfl; have hfz4_0 := blk_frozen BK101.out 0; have hfz4_1 := blk_frozen BK101.out 1; have hfz4_2 := blk_frozen BK101.out 2; have hfz4_3 := blk_frozen BK101.out 3))
 (try simp only [Act.put, sA, sB, sC])
 go_cut [11] (fun v11 wc => ∃ (kq : Nat) (x11_1 : Bool), v11 = .bool x11_1 ∧ Aside0 (dfa_Validate.j0 kq (l0_2.length : Int) x11_1 a0_0 a0_1 l0_2 l0_3 = some r) ∧ Aside0 (kq ≤ k) ∧ Aside0 (wc.heap[gb101]? = some (.cells #[.int .i64 a0_0, .int .i64 a0_1, (.slice A0_2 l0_2.length c0_2), (.slice A0_3 l0_3.length c0_3)] 25 (0, 0))) ∧ Aside0 (Below w.heap.size w wc))
 case first =>
  have H := HC2.out
  clear HC2
  by_cases c5 : a0_0 < 1
  (focus
  rw [if_pos c5] at H
  have c5b0 : decide (a0_0 < 1) = true := decide_eq_true c5
  clear c5
  (first | rw [c5b0] | (simp only [i64_w, i32_w]; rw [c5b0]) | skip)
  have H' := Aside0.mk H
  clear H
  have hcz6_0 : w3.cell? ⟨gb101, 0, none⟩ = some (.int .i64 a0_0) := (blk_cell BK101.out 0).trans rfl
  have hcz6_1 : w3.cell? ⟨gb101, 1, none⟩ = some (.int .i64 a0_1) := (blk_cell BK101.out 1).trans rfl
  have hcz6_2 : w3.cell? ⟨gb101, 2, none⟩ = some (.slice A0_2 l0_2.length c0_2) := (blk_cell BK101.out 2).trans rfl
  have hcz6_3 : w3.cell? ⟨gb101, 3, none⟩ = some (.slice A0_3 l0_3.length c0_3) := (blk_cell BK101.out 3).trans rfl
  have hfz6_0 := blk_frozen BK101.out 0
  have hfz6_1 := blk_frozen BK101.out 1
  have hfz6_2 := blk_frozen BK101.out 2
  have hfz6_3 := blk_frozen BK101.out 3
  go_wp2
  go_meet
  case rel => exact ⟨_, (true), (by first | rfl | (simp; done) | (simp [*]; done)), H', ⟨by first | omega | exact Nat.le_refl _⟩, ⟨by (with_reducible repeat (first | refine kN ?_ | refine kD ?_ | refine kA ?_)); exact BK101.out⟩, ⟨by repeat (first | (with_reducible first | exact HB.out | apply bA | apply bN | apply bD | refine bS ?_ ‹_›) | exact HB.out)⟩⟩
  )
  (focus
  rw [if_neg c5] at H
  have c5b0 : decide (a0_0 < 1) = false := decide_eq_false c5
  clear c5
  (first | rw [c5b0] | (simp only [i64_w, i32_w]; rw [c5b0]) | skip)
  have H' := Aside0.mk H
  clear H
  have hcz7_0 : w3.cell? ⟨gb101, 0, none⟩ = some (.int .i64 a0_0) := (blk_cell BK101.out 0).trans rfl
  have hcz7_1 : w3.cell? ⟨gb101, 1, none⟩ = some (.int .i64 a0_1) := (blk_cell BK101.out 1).trans rfl
  have hcz7_2 : w3.cell? ⟨gb101, 2, none⟩ = some (.slice A0_2 l0_2.length c0_2) := (blk_cell BK101.out 2).trans rfl
  have hcz7_3 : w3.cell? ⟨gb101, 3, none⟩ = some (.slice A0_3 l0_3.length c0_3) := (blk_cell BK101.out 3).trans rfl
  have hfz7_0 := blk_frozen BK101.out 0
  have hfz7_1 := blk_frozen BK101.out 1
  have hfz7_2 := blk_frozen BK101.out 2
  have hfz7_3 := blk_frozen BK101.out 3
  go_wp2
  go_meet
  case rel => exact ⟨_, (decide (a0_0 > 6)), (by first | rfl | (simp; done) | (simp [*]; done)), H', ⟨by first | omega | exact Nat.le_refl _⟩, ⟨by (with_reducible repeat (first | refine kN ?_ | refine kD ?_ | refine kA ?_)); exact BK101.out⟩, ⟨by repeat (first | (with_reducible first | exact HB.out | apply bA | apply bN | apply bD | refine bS ?_ ‹_›) | exact HB.out)⟩⟩
  )
 case rest =>
  clear HC2
  try clear c1
  try clear p2
  try clear c5
  try clear c5b0
  try clear hcz4_0
  try clear hcz4_1
  try clear hcz4_2
  try clear hcz4_3
  try clear hcz6_0
  try clear hcz6_1
  try clear hcz6_2
  try clear hcz6_3
  try clear hcz7_0
  try clear hcz7_1
  try clear hcz7_2
  try clear hcz7_3
  try clear hfz4_0
  try clear hfz4_1
  try clear hfz4_2
  try clear hfz4_3
  try clear hfz6_0
  try clear hfz6_1
  try clear hfz6_2
  try clear hfz6_3
  try clear hfz7_0
  try clear hfz7_1
  try clear hfz7_2
  try clear hfz7_3
  obtain ⟨kq, x11_1, rfl, HA, HJ1, BK101, HB⟩ := hcut
  cases kq with
  | zero => exact absurd HA.out (by simp [dfa_Validate.j0])
  | succ kj1 =>
   have H := HA.out
   clear HA
   simp only [dfa_Validate.j0] at H
   by_cases c8 : x11_1 = true
   (focus
   subst c8
   have H1 : (some 1) = some r := by rw [if_pos rfl] at H; exact H
   clear H
   have H := H1
   clear H1
   obtain rfl := Option.some.inj H
   go_wp2
   go_ret
   exact ⟨by first | rfl | (simp [errW_none, errW_some] <;> rfl) | (simp [*, errW_none, errW_some] <;> rfl), by repeat (first | (with_reducible first | exact HB.out | apply bA | apply bN | apply bD | refine bS ?_ ‹_›) | exact HB.out)⟩
   )
   (focus
   replace c8 := Bool.eq_false_iff.mpr c8
   subst c8
   have H1 : (if (l0_2.length : Int) > 512 then (some 3) else (if (l0_2.length : Int) = 0 then (some 4) else (if (l0_3.length : Int) = (l0_2.length : Int) then (if a0_1 < 0 then (some 4) else (if a0_1 ≥ (l0_2.length : Int) then (some 4) else (dfa_Validate.l0 kj1 (l0_2.length : Int) l0_3 (l0_3.length : Int) 0 a0_0 a0_1 l0_2 l0_3))) else (some 4)))) = some r := by rw [if_neg (show ¬ (false = true) by decide)] at H; exact H
   clear H
   have H := H1
   clear H1
   by_cases c9 : (l0_2.length : Int) > 512
   (focus
   rw [if_pos c9] at H
   have c9b0 : decide (512 < (l0_2.length : Int)) = true := decide_eq_true c9
   have c9b1 : decide (512 < l0_2.length) = true := decide_eq_true (by omega)
   clear c9
   obtain rfl := Option.some.inj H
   go_wp2
   go_ret
   exact ⟨by first | rfl | (simp [errW_none, errW_some] <;> rfl) | (simp [*, errW_none, errW_some] <;> rfl), by repeat (first | (with_reducible first | exact HB.out | apply bA | apply bN | apply bD | refine bS ?_ ‹_›) | exact HB.out)⟩
   )
   (focus
   rw [if_neg c9] at H
   have c9b0 : decide (512 < (l0_2.length : Int)) = false := decide_eq_false c9
   have c9b1 : decide (512 < l0_2.length) = false := decide_eq_false (by omega)
   clear c9
   by_cases c10 : (l0_2.length : Int) = 0
   (focus
   rw [if_pos c10] at H
   have c10b0 : ((l0_2.length : Int) == 0) = true := beq_iff_eq.mpr c10
   have c10b1 : ((l0_2.length : Int) != 0) = false := bne_eq_false_iff_eq.mpr c10
   clear c10
   obtain rfl := Option.some.inj H
   go_wp2
   go_ret
   exact ⟨by first | rfl | (simp [errW_none, errW_some] <;> rfl) | (simp [*, errW_none, errW_some] <;> rfl), by repeat (first | (with_reducible first | exact HB.out | apply bA | apply bN | apply bD | refine bS ?_ ‹_›) | exact HB.out)⟩
   )
   (focus
   rw [if_neg c10] at H
   have c10b0 : ((l0_2.length : Int) == 0) = false := beq_eq_false_iff_ne.mpr c10
   have c10b1 : ((l0_2.length : Int) != 0) = true := bne_iff_ne.mpr c10
   have c10b2 : ¬ (l0_2 = []) := fun h_ => c10 (by rw [h_]; rfl)
   by_cases c11 : (l0_3.length : Int) = (l0_2.length : Int)
   (focus
   rw [if_pos c11] at H
   have c11b0 : ((l0_3.length : Int) == (l0_2.length : Int)) = true := beq_iff_eq.mpr c11
   have c11b1 : ((l0_3.length : Int) != (l0_2.length : Int)) = false := bne_eq_false_iff_eq.mpr c11
   have c11b2 : (l0_3.length == l0_2.length) = true := by first | simpa using c11 | (simp at c11 ⊢; omega)
   clear c11
   by_cases c12 : a0_1 < 0
   (focus
   rw [if_pos c12] at H
   have c12b0 : decide (a0_1 < 0) = true := decide_eq_true c12
   clear c12
   obtain rfl := Option.some.inj H
   have hcz13_0 : wc.cell? ⟨gb101, 0, none⟩ = some (.int .i64 a0_0) := (blk_cell BK101.out 0).trans rfl
   have hcz13_1 : wc.cell? ⟨gb101, 1, none⟩ = some (.int .i64 a0_1) := (blk_cell BK101.out 1).trans rfl
   have hcz13_2 : wc.cell? ⟨gb101, 2, none⟩ = some (.slice A0_2 l0_2.length c0_2) := (blk_cell BK101.out 2).trans rfl
   have hcz13_3 : wc.cell? ⟨gb101, 3, none⟩ = some (.slice A0_3 l0_3.length c0_3) := (blk_cell BK101.out 3).trans rfl
   have hfz13_0 := blk_frozen BK101.out 0
   have hfz13_1 := blk_frozen BK101.out 1
   have hfz13_2 := blk_frozen BK101.out 2
   have hfz13_3 := blk_frozen BK101.out 3
   go_wp2
   go_ret
   exact ⟨by first | rfl | (simp [errW_none, errW_some] <;> rfl) | (simp [*, errW_none, errW_some] <;> rfl), by repeat (first | (with_reducible first | exact HB.out | apply bA | apply bN | apply bD | refine bS ?_ ‹_›) | exact HB.out)⟩
   )
   (focus
   rw [if_neg c12] at H
   have c12b0 : decide (a0_1 < 0) = false := decide_eq_false c12
   clear c12
   by_cases c14 : a0_1 ≥ (l0_2.length : Int)
   (focus
   rw [if_pos c14] at H
   have c14b0 : decide ((l0_2.length : Int) ≤ a0_1) = true := decide_eq_true c14
   clear c14
   obtain rfl := Option.some.inj H
   have hcz15_0 : wc.cell? ⟨gb101, 0, none⟩ = some (.int .i64 a0_0) := (blk_cell BK101.out 0).trans rfl
   have hcz15_1 : wc.cell? ⟨gb101, 1, none⟩ = some (.int .i64 a0_1) := (blk_cell BK101.out 1).trans rfl
   have hcz15_2 : wc.cell? ⟨gb101, 2, none⟩ = some (.slice A0_2 l0_2.length c0_2) := (blk_cell BK101.out 2).trans rfl
   have hcz15_3 : wc.cell? ⟨gb101, 3, none⟩ = some (.slice A0_3 l0_3.length c0_3) := (blk_cell BK101.out 3).trans rfl
   have hfz15_0 := blk_frozen BK101.out 0
   have hfz15_1 := blk_frozen BK101.out 1
   have hfz15_2 := blk_frozen BK101.out 2
   have hfz15_3 := blk_frozen BK101.out 3
   go_wp2
   go_ret
   exact ⟨by first | rfl | (simp [errW_none, errW_some] <;> rfl) | (simp [*, errW_none, errW_some] <;> rfl), by repeat (first | (with_reducible first | exact HB.out | apply bA | apply bN | apply bD | refine bS ?_ ‹_›) | exact HB.out)⟩
   )
   (focus
   rw [if_neg c14] at H
   have c14b0 : decide ((l0_2.length : Int) ≤ a0_1) = false := decide_eq_false c14
   clear c14
   have H' := Aside0.mk H
   clear H
   have hcz16_0 : wc.cell? ⟨gb101, 0, none⟩ = some (.int .i64 a0_0) := (blk_cell BK101.out 0).trans rfl
   have hcz16_1 : wc.cell? ⟨gb101, 1, none⟩ = some (.int .i64 a0_1) := (blk_cell BK101.out 1).trans rfl
   have hcz16_2 : wc.cell? ⟨gb101, 2, none⟩ = some (.slice A0_2 l0_2.length c0_2) := (blk_cell BK101.out 2).trans rfl
   have hcz16_3 : wc.cell? ⟨gb101, 3, none⟩ = some (.slice A0_3 l0_3.length c0_3) := (blk_cell BK101.out 3).trans rfl
   have hfz16_0 := blk_frozen BK101.out 0
   have hfz16_1 := blk_frozen BK101.out 1
   have hfz16_2 := blk_frozen BK101.out 2
   have hfz16_3 := blk_frozen BK101.out 3
   go_wp2
   go_loopg [47] kj1 (fun kq v47 w' => ∃ (x47_2 : Int), v47 = .int .i64 x47_2 ∧ Aside0 (dfa_Validate.l0 kq (l0_2.length : Int) l0_3 (l0_3.length : Int) x47_2 a0_0 a0_1 l0_2 l0_3 = some r) ∧ Aside0 (kq ≤ kj1) ∧ Aside0 (w'.heap[gb101]? = some (.cells #[.int .i64 a0_0, .int .i64 a0_1, (.slice A0_2 l0_2.length c0_2), (.slice A0_3 l0_3.length c0_3)] 25 (0, 0))) ∧ Aside0 (Below w.heap.size w w'))
   case atStart => exact ⟨(0), (by first | rfl | (simp; done) | (simp [*]; done)), H', ⟨Nat.le_refl _⟩, ⟨by (with_reducible repeat (first | refine kN ?_ | refine kD ?_ | refine kA ?_)); exact BK101.out⟩, ⟨by repeat (first | (with_reducible first | exact HB.out | apply bA | apply bN | apply bD | refine bS ?_ ‹_›) | exact HB.out)⟩⟩
   case round =>
    clear H'
    try clear c1
    try clear p2
    try clear c5
    try clear c5b0
    try clear c8
    try clear c9
    try clear c9b0
    try clear c9b1
    try clear c10
    try clear c10b0
    try clear c10b1
    try clear c10b2
    try clear c11
    try clear c11b0
    try clear c11b1
    try clear c11b2
    try clear c12
    try clear c12b0
    try clear c14
    try clear c14b0
    try clear hcz13_0
    try clear hcz13_1
    try clear hcz13_2
    try clear hcz13_3
    try clear hcz15_0
    try clear hcz15_1
    try clear hcz15_2
    try clear hcz15_3
    try clear hcz16_0
    try clear hcz16_1
    try clear hcz16_2
    try clear hcz16_3
    try clear hcz4_0
    try clear hcz4_1
    try clear hcz4_2
    try clear hcz4_3
    try clear hcz6_0
    try clear hcz6_1
    try clear hcz6_2
    try clear hcz6_3
    try clear hcz7_0
    try clear hcz7_1
    try clear hcz7_2
    try clear hcz7_3
    try clear hfz13_0
    try clear hfz13_1
    try clear hfz13_2
    try clear hfz13_3
    try clear hfz15_0
    try clear hfz15_1
    try clear hfz15_2
    try clear hfz15_3
    try clear hfz16_0
    try clear hfz16_1
    try clear hfz16_2
    try clear hfz16_3
    try clear hfz4_0
    try clear hfz4_1
    try clear hfz4_2
    try clear hfz4_3
    try clear hfz6_0
    try clear hfz6_1
    try clear hfz6_2
    try clear hfz6_3
    try clear hfz7_0
    try clear hfz7_1
    try clear hfz7_2
    try clear hfz7_3
    try clear p2
    obtain ⟨x47_2, rfl, HA, HK2, BK101, HB⟩ := hrel
    cases gk with
    | zero => exact absurd HA.out (by simp [dfa_Validate.l0])
    | succ k2 =>
     have H := HA.out
     clear HA
     simp only [dfa_Validate.l0] at H
     by_cases c17 : x47_2 < (l0_3.length : Int)
     (focus
     rw [if_pos c17] at H
     have c17b0 : decide (x47_2 < (l0_3.length : Int)) = true := decide_eq_true c17
     clear c17
     by_cases c18 : 0 ≤ x47_2
     (focus
     rw [if_pos c18] at H
     have c18b0 : decide (0 ≤ x47_2) = true := decide_eq_true c18
     clear c18
     by_cases c19 : x47_2 < (l0_3.length : Int)
     (focus
     rw [if_pos c19] at H
     have c19b0 : decide (x47_2 < (l0_3.length : Int)) = true := decide_eq_true c19
     clear c19
     by_cases c20 : ((rd_L1 l0_3 x47_2).length : Int) = a0_0
     (focus
     rw [if_pos c20] at H
     have c20b0 : (((rd_L1 l0_3 x47_2).length : Int) == a0_0) = true := beq_iff_eq.mpr c20
     have c20b1 : (((rd_L1 l0_3 x47_2).length : Int) != a0_0) = false := bne_eq_false_iff_eq.mpr c20
     clear c20
     have H' := Aside0.mk H
     clear H
     have p102 : 0 ≤ (x47_2 : Int) := of_decide_eq_true (by assumption)
     have q102 : x47_2 < (l0_3.length : Int) := of_decide_eq_true (by assumption)
     obtain ⟨ad102, A102_0, c102_0, e102, hx102_0, hl102_0, hi102_0⟩ := at_L1 HR0_3.out x47_2 p102 q102
     cases e102
     (try replace hx102_0 := (HB.out.cell (World.block_lt_of_cell? w _ hx102_0)).trans hx102_0)
     have HR102_0 := Aside0.mk hi102_0
     have HC102_0 := Aside0.mk hl102_0
     clear hi102_0 hl102_0
     replace p102 := eq_true p102
     replace q102 := eq_true q102
     have hcz21_0 : wr.cell? ⟨gb101, 0, none⟩ = some (.int .i64 a0_0) := (blk_cell BK101.out 0).trans rfl
     have hcz21_1 : wr.cell? ⟨gb101, 1, none⟩ = some (.int .i64 a0_1) := (blk_cell BK101.out 1).trans rfl
     have hcz21_2 : wr.cell? ⟨gb101, 2, none⟩ = some (.slice A0_2 l0_2.length c0_2) := (blk_cell BK101.out 2).trans rfl
     have hcz21_3 : wr.cell? ⟨gb101, 3, none⟩ = some (.slice (some ad102) l0_3.length c0_3) := (blk_cell BK101.out 3).trans rfl
     have hfz21_0 := blk_frozen BK101.out 0
     have hfz21_1 := blk_frozen BK101.out 1
     have hfz21_2 := blk_frozen BK101.out 2
     have hfz21_3 := blk_frozen BK101.out 3
     go_wp2
     go_loopg [58] k2 (fun kq v58 w' => ∃ (x58_3 : Int), v58 = .int .i64 x58_3 ∧ Aside0 (dfa_Validate.l1 kq (l0_2.length : Int) l0_3 (l0_3.length : Int) x47_2 (rd_L1 l0_3 x47_2) ((rd_L1 l0_3 x47_2).length : Int) x58_3 a0_0 a0_1 l0_2 l0_3 = some r) ∧ Aside0 (kq ≤ k2) ∧ Aside0 (w'.heap[gb101]? = some (.cells #[.int .i64 a0_0, .int .i64 a0_1, (.slice A0_2 l0_2.length c0_2), (.slice (some ad102) l0_3.length c0_3)] 25 (0, 0))) ∧ Aside0 (Below w.heap.size w w'))
     case atStart => exact ⟨(0), (by first | rfl | (simp; done) | (simp [*]; done)), H', ⟨Nat.le_refl _⟩, ⟨by (with_reducible repeat (first | refine kN ?_ | refine kD ?_ | refine kA ?_)); exact BK101.out⟩, ⟨by repeat (first | (with_reducible first | exact HB.out | apply bA | apply bN | apply bD | refine bS ?_ ‹_›) | exact HB.out)⟩⟩
     case round =>
      clear H'
      try clear c1
      try clear p1
      try clear q1
      try clear hx1
      try clear c2
      try clear p2
      try clear c5
      try clear c5b0
      try clear c8
      try clear c9
      try clear c9b0
      try clear c9b1
      try clear c10
      try clear c10b0
      try clear c10b1
      try clear c10b2
      try clear p10
      try clear q10
      try clear hx10
      try clear c11
      try clear c11b0
      try clear c11b1
      try clear c11b2
      try clear c12
      try clear c12b0
      try clear c14
      try clear c14b0
      try clear c17
      try clear c17b0
      try clear c18
      try clear c18b0
      try clear c19
      try clear c19b0
      try clear c20
      try clear c20b0
      try clear c20b1
      try clear hcz13_0
      try clear hcz13_1
      try clear hcz13_2
      try clear hcz13_3
      try clear hcz15_0
      try clear hcz15_1
      try clear hcz15_2
      try clear hcz15_3
      try clear hcz16_0
      try clear hcz16_1
      try clear hcz16_2
      try clear hcz16_3
      try clear hcz21_0
      try clear hcz21_1
      try clear hcz21_2
      try clear hcz21_3
      try clear hcz4_0
      try clear hcz4_1
      try clear hcz4_2
      try clear hcz4_3
      try clear hcz6_0
      try clear hcz6_1
      try clear hcz6_2
      try clear hcz6_3
      try clear hcz7_0
      try clear hcz7_1
      try clear hcz7_2
      try clear hcz7_3
      try clear hfz13_0
      try clear hfz13_1
      try clear hfz13_2
      try clear hfz13_3
      try clear hfz15_0
      try clear hfz15_1
      try clear hfz15_2
      try clear hfz15_3
      try clear hfz16_0
      try clear hfz16_1
      try clear hfz16_2
      try clear hfz16_3
      try clear hfz21_0
      try clear hfz21_1
      try clear hfz21_2
      try clear hfz21_3
      try clear hfz4_0
      try clear hfz4_1
      try clear hfz4_2
      try clear hfz4_3
      try clear hfz6_0
      try clear hfz6_1
      try clear hfz6_2
      try clear hfz6_3
      try clear hfz7_0
      try clear hfz7_1
      try clear hfz7_2
      try clear hfz7_3
      try clear hx102_0
      try clear p102
      try clear p2
      try clear q102
      obtain ⟨x58_3, rfl, HA, HK3, BK101, HB⟩ := hrel
      cases gk with
      | zero => exact absurd HA.out (by simp [dfa_Validate.l1])
      | succ k3 =>
       have H := HA.out
       clear HA
       simp only [dfa_Validate.l1] at H
       by_cases c22 : x58_3 < ((rd_L1 l0_3 x47_2).length : Int)
       (focus
       rw [if_pos c22] at H
       have c22b0 : decide (x58_3 < ((rd_L1 l0_3 x47_2).length : Int)) = true := decide_eq_true c22
       clear c22
       by_cases c23 : 0 ≤ x58_3
       (focus
       rw [if_pos c23] at H
       have c23b0 : decide (0 ≤ x58_3) = true := decide_eq_true c23
       clear c23
       by_cases c24 : x58_3 < ((rd_L1 l0_3 x47_2).length : Int)
       (focus
       rw [if_pos c24] at H
       have c24b0 : decide (x58_3 < ((rd_L1 l0_3 x47_2).length : Int)) = true := decide_eq_true c24
       clear c24
       by_cases c25 : (rd (rd_L1 l0_3 x47_2) x58_3) < 0
       (focus
       rw [if_pos c25] at H
       have c25b0 : decide ((rd (rd_L1 l0_3 x47_2) x58_3) < 0) = true := decide_eq_true c25
       clear c25
       obtain rfl := Option.some.inj H
       have p103 : 0 ≤ (x58_3 : Int) := of_decide_eq_true (by assumption)
       have q103 : x58_3 < ((rd_L1 l0_3 x47_2).length : Int) := of_decide_eq_true (by assumption)
       obtain ⟨ad103, e103, hx103_0⟩ := Kd.at_int HR102_0.out x58_3 p103 q103
       cases e103
       (try replace hx103_0 := (HB.out.cell (World.block_lt_of_cell? w _ hx103_0)).trans hx103_0)
       replace p103 := eq_true p103
       replace q103 := eq_true q103
       go_wp2
       go_ret
       exact ⟨by first | rfl | (simp [errW_none, errW_some] <;> rfl) | (simp [*, errW_none, errW_some] <;> rfl), by repeat (first | (with_reducible first | exact HB.out | apply bA | apply bN | apply bD | refine bS ?_ ‹_›) | exact HB.out)⟩
       )
       (focus
       rw [if_neg c25] at H
       have c25b0 : decide ((rd (rd_L1 l0_3 x47_2) x58_3) < 0) = false := decide_eq_false c25
       clear c25
       by_cases c26 : (rd (rd_L1 l0_3 x47_2) x58_3) ≥ (l0_2.length : Int)
       (focus
       rw [if_pos c26] at H
       have c26b0 : decide ((l0_2.length : Int) ≤ (rd (rd_L1 l0_3 x47_2) x58_3)) = true := decide_eq_true c26
       clear c26
       obtain rfl := Option.some.inj H
       have p103 : 0 ≤ (x58_3 : Int) := of_decide_eq_true (by assumption)
       have q103 : x58_3 < ((rd_L1 l0_3 x47_2).length : Int) := of_decide_eq_true (by assumption)
       obtain ⟨ad103, e103, hx103_0⟩ := Kd.at_int HR102_0.out x58_3 p103 q103
       cases e103
       (try replace hx103_0 := (HB.out.cell (World.block_lt_of_cell? w _ hx103_0)).trans hx103_0)
       replace p103 := eq_true p103
       replace q103 := eq_true q103
       go_wp2
       go_ret
       exact ⟨by first | rfl | (simp [errW_none, errW_some] <;> rfl) | (simp [*, errW_none, errW_some] <;> rfl), by repeat (first | (with_reducible first | exact HB.out | apply bA | apply bN | apply bD | refine bS ?_ ‹_›) | exact HB.out)⟩
       )
       (focus
       rw [if_neg c26] at H
       have c26b0 : decide ((l0_2.length : Int) ≤ (rd (rd_L1 l0_3 x47_2) x58_3)) = false := decide_eq_false c26
       clear c26
       have H' := Aside0.mk H
       clear H
       have p103 : 0 ≤ (x58_3 : Int) := of_decide_eq_true (by assumption)
       have q103 : x58_3 < ((rd_L1 l0_3 x47_2).length : Int) := of_decide_eq_true (by assumption)
       obtain ⟨ad103, e103, hx103_0⟩ := Kd.at_int HR102_0.out x58_3 p103 q103
       cases e103
       (try replace hx103_0 := (HB.out.cell (World.block_lt_of_cell? w _ hx103_0)).trans hx103_0)
       replace p103 := eq_true p103
       replace q103 := eq_true q103
       go_wp2
       go_roundg k3
       case measure => have := HJ1.out; have := HK2.out; have := HK3.out; omega
       case rel => exact ⟨(wrap64 (x58_3 + 1)), (by first | rfl | (simp; done) | (simp [*]; done)), H', ⟨by have := HJ1.out; have := HK2.out; have := HK3.out; omega⟩, ⟨by (with_reducible repeat (first | refine kN ?_ | refine kD ?_ | refine kA ?_)); exact BK101.out⟩, ⟨by repeat (first | (with_reducible first | exact HB.out | apply bA | apply bN | apply bD | refine bS ?_ ‹_›) | exact HB.out)⟩⟩
       )
       )
       )
       (focus
       rw [if_neg c24] at H
       exact absurd H (by simp)
       )
       )
       (focus
       rw [if_neg c23] at H
       exact absurd H (by simp)
       )
       )
       (focus
       rw [if_neg c22] at H
       have c22b0 : decide (x58_3 < ((rd_L1 l0_3 x47_2).length : Int)) = false := decide_eq_false c22
       clear c22
       have H' := Aside0.mk H
       clear H
       go_wp2
       go_roundg k3
       case measure => have := HJ1.out; have := HK2.out; have := HK3.out; omega
       case rel => exact ⟨(wrap64 (x47_2 + 1)), (by first | rfl | (simp; done) | (simp [*]; done)), H', ⟨by have := HJ1.out; have := HK2.out; have := HK3.out; omega⟩, ⟨by (with_reducible repeat (first | refine kN ?_ | refine kD ?_ | refine kA ?_)); exact BK101.out⟩, ⟨by repeat (first | (with_reducible first | exact HB.out | apply bA | apply bN | apply bD | refine bS ?_ ‹_›) | exact HB.out)⟩⟩
       )
     )
     (focus
     rw [if_neg c20] at H
     have c20b0 : (((rd_L1 l0_3 x47_2).length : Int) == a0_0) = false := beq_eq_false_iff_ne.mpr c20
     have c20b1 : (((rd_L1 l0_3 x47_2).length : Int) != a0_0) = true := bne_iff_ne.mpr c20
     obtain rfl := Option.some.inj H
     have p102 : 0 ≤ (x47_2 : Int) := of_decide_eq_true (by assumption)
     have q102 : x47_2 < (l0_3.length : Int) := of_decide_eq_true (by assumption)
     obtain ⟨ad102, A102_0, c102_0, e102, hx102_0, hl102_0, hi102_0⟩ := at_L1 HR0_3.out x47_2 p102 q102
     cases e102
     (try replace hx102_0 := (HB.out.cell (World.block_lt_of_cell? w _ hx102_0)).trans hx102_0)
     have HR102_0 := Aside0.mk hi102_0
     have HC102_0 := Aside0.mk hl102_0
     clear hi102_0 hl102_0
     replace p102 := eq_true p102
     replace q102 := eq_true q102
     have hcz27_0 : wr.cell? ⟨gb101, 0, none⟩ = some (.int .i64 a0_0) := (blk_cell BK101.out 0).trans rfl
     have hcz27_1 : wr.cell? ⟨gb101, 1, none⟩ = some (.int .i64 a0_1) := (blk_cell BK101.out 1).trans rfl
     have hcz27_2 : wr.cell? ⟨gb101, 2, none⟩ = some (.slice A0_2 l0_2.length c0_2) := (blk_cell BK101.out 2).trans rfl
     have hcz27_3 : wr.cell? ⟨gb101, 3, none⟩ = some (.slice (some ad102) l0_3.length c0_3) := (blk_cell BK101.out 3).trans rfl
     have hfz27_0 := blk_frozen BK101.out 0
     have hfz27_1 := blk_frozen BK101.out 1
     have hfz27_2 := blk_frozen BK101.out 2
     have hfz27_3 := blk_frozen BK101.out 3
     go_wp2
     go_ret
     exact ⟨by first | rfl | (simp [errW_none, errW_some] <;> rfl) | (simp [*, errW_none, errW_some] <;> rfl), by repeat (first | (with_reducible first | exact HB.out | apply bA | apply bN | apply bD | refine bS ?_ ‹_›) | exact HB.out)⟩
     )
     )
     (focus
     rw [if_neg c19] at H
     exact absurd H (by simp)
     )
     )
     (focus
     rw [if_neg c18] at H
     exact absurd H (by simp)
     )
     )
     (focus
     rw [if_neg c17] at H
     have c17b0 : decide (x47_2 < (l0_3.length : Int)) = false := decide_eq_false c17
     clear c17
     obtain rfl := Option.some.inj H
     go_wp2
     go_ret
     exact ⟨by first | rfl | (simp [errW_none, errW_some] <;> rfl) | (simp [*, errW_none, errW_some] <;> rfl), by repeat (first | (with_reducible first | exact HB.out | apply bA | apply bN | apply bD | refine bS ?_ ‹_›) | exact HB.out)⟩
     )
   )
   )
   )
   (focus
   rw [if_neg c11] at H
   have c11b0 : ((l0_3.length : Int) == (l0_2.length : Int)) = false := beq_eq_false_iff_ne.mpr c11
   have c11b1 : ((l0_3.length : Int) != (l0_2.length : Int)) = true := bne_iff_ne.mpr c11
   have c11b2 : (l0_3.length == l0_2.length) = false := by first | simpa using c11 | (simp at c11 ⊢; omega)
   obtain rfl := Option.some.inj H
   have hcz28_0 : wc.cell? ⟨gb101, 0, none⟩ = some (.int .i64 a0_0) := (blk_cell BK101.out 0).trans rfl
   have hcz28_1 : wc.cell? ⟨gb101, 1, none⟩ = some (.int .i64 a0_1) := (blk_cell BK101.out 1).trans rfl
   have hcz28_2 : wc.cell? ⟨gb101, 2, none⟩ = some (.slice A0_2 l0_2.length c0_2) := (blk_cell BK101.out 2).trans rfl
   have hcz28_3 : wc.cell? ⟨gb101, 3, none⟩ = some (.slice A0_3 l0_3.length c0_3) := (blk_cell BK101.out 3).trans rfl
   have hfz28_0 := blk_frozen BK101.out 0
   have hfz28_1 := blk_frozen BK101.out 1
   have hfz28_2 := blk_frozen BK101.out 2
   have hfz28_3 := blk_frozen BK101.out 3
   go_wp2
   go_ret
   exact ⟨by first | rfl | (simp [errW_none, errW_some] <;> rfl) | (simp [*, errW_none, errW_some] <;> rfl), by repeat (first | (with_reducible first | exact HB.out | apply bA | apply bN | apply bD | refine bS ?_ ‹_›) | exact HB.out)⟩
   )
   )
   )
   )
end Go.Proofs.Ytpjbmgoagehjkaa.PDfaProducts
