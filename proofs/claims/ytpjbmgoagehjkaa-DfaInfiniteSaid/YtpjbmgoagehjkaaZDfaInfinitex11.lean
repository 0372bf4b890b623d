import Derived.Test.YtpjbmgoagehjkaaZDfaInfinitex0
import Derived.Test.YtpjbmgoagehjkaaZDfaInfinitex9
import Derived.Test.YtpjbmgoagehjkaaZDfaInfinitex10
namespace Go.Proofs.Ytpjbmgoagehjkaa.PDfaInfinite
open Go.RowKit Go.Proofs.YtpjbmgoagehjkaaH Go.Proofs.YtpjbmgoagehjkaaW.PrintWords Go.Proofs.YtpjbmgoagehjkaaW.PrintLast Go.Proofs.YtpjbmgoagehjkaaW.PrintMore
attribute [local go_sem] max2_int min2_int max_two min_two max_three min_three max_four min_four   -- for this text's walks alone
set_option linter.unusedVariables false
set_option linter.unusedSimpArgs false
/-! ### semigroupref07_Infinite: function 39 -/
mutual
def semigroupref07_Infinite.l0 : Nat → List Bool → List Int → Int → Int → Int → Int → List Bool → List (List Int) → Option (Bool)
 | 0, _, _, _, _, _, _, _, _ => none
 | k + 1, x3, x22, x23, x24, x314000, x314001, x314002, x314003 => if x24 < x23 then (if 0 ≤ x24 then (if x24 < (x22.length : Int) then (if 0 ≤ (rd x22 x24) then (if (rd x22 x24) < (x3.length : Int) then (if (rdOf false x3 (rd x22 x24) = true) then ((semigroupref07_Access.f k x314000 (rd x22 x24) x314002 x314003).bind fun bt326 => (semigroupref07_Infinite.l1 k x3 (rd x22 x24) x22 x23 x24 bt326.1 (bt326.1.length : Int) 0 x314000 x314001 x314002 x314003)) else (semigroupref07_Infinite.l0 k x3 x22 x23 (wrap64 (x24 + 1)) x314000 x314001 x314002 x314003)) else (none)) else (none)) else (none)) else (none)) else (some false)
def semigroupref07_Infinite.l1 : Nat → List Bool → Int → List Int → Int → Int → List Int → Int → Int → Int → Int → List Bool → List (List Int) → Option (Bool)
 | 0, _, _, _, _, _, _, _, _, _, _, _, _ => none
 | k + 1, x3, x7, x22, x23, x24, x41, x42, x43, x314000, x314001, x314002, x314003 => if x43 < x42 then (if 0 ≤ x43 then (if x43 < (x41.length : Int) then (if 0 ≤ (rd x41 x43) then (if (rd x41 x43) < (x314003.length : Int) then (semigroupref07_Infinite.l2 k x3 x7 (rd x41 x43) x22 x23 x24 x41 x42 x43 (rd_L1 x314003 (rd x41 x43)) ((rd_L1 x314003 (rd x41 x43)).length : Int) 0 x314000 x314001 x314002 x314003) else (none)) else (none)) else (none)) else (none)) else (semigroupref07_Infinite.l0 k x3 x22 x23 (wrap64 (x24 + 1)) x314000 x314001 x314002 x314003)
def semigroupref07_Infinite.l2 : Nat → List Bool → Int → Int → List Int → Int → Int → List Int → Int → Int → List Int → Int → Int → Int → Int → List Bool → List (List Int) → Option (Bool)
 | 0, _, _, _, _, _, _, _, _, _, _, _, _, _, _, _, _ => none
 | k + 1, x3, x7, x12, x22, x23, x24, x41, x42, x43, x51, x52, x53, x314000, x314001, x314002, x314003 => if x53 < x52 then (if 0 ≤ x53 then (if x53 < (x51.length : Int) then (if (rd x51 x53) = x7 then (if 0 ≤ x12 then (if x12 < (x3.length : Int) then (if rdOf false x3 x12 = true then (some true) else (semigroupref07_Infinite.l2 k x3 x7 x12 x22 x23 x24 x41 x42 x43 x51 x52 (wrap64 (x53 + 1)) x314000 x314001 x314002 x314003)) else (none)) else (none)) else (semigroupref07_Infinite.l2 k x3 x7 x12 x22 x23 x24 x41 x42 x43 x51 x52 (wrap64 (x53 + 1)) x314000 x314001 x314002 x314003)) else (none)) else (none)) else (semigroupref07_Infinite.l1 k x3 x7 x22 x23 x24 x41 x42 (wrap64 (x43 + 1)) x314000 x314001 x314002 x314003)
end
def semigroupref07_Infinite.f (k : Nat) (a0_0 : Int) (a0_1 : Int) (l0_2 : List Bool) (l0_3 : List (List Int)) : Option (Bool) := (semigroupref07_Live.f k a0_0 a0_1 l0_2 l0_3).bind fun t314 => ((semigroupref07_Access.f k a0_0 a0_1 l0_2 l0_3).bind fun bt317 => (semigroupref07_Infinite.l0 k t314 bt317.1 (bt317.1.length : Int) 0 a0_0 a0_1 l0_2 l0_3))
theorem semigroupref07_Infinite.mono_l : ∀ k, (∀ y0 y1 y2 y3 y4 y5 y6 y7, LeO (semigroupref07_Infinite.l0 k y0 y1 y2 y3 y4 y5 y6 y7) (semigroupref07_Infinite.l0 (k + 1) y0 y1 y2 y3 y4 y5 y6 y7)) ∧ (∀ y0 y1 y2 y3 y4 y5 y6 y7 y8 y9 y10 y11, LeO (semigroupref07_Infinite.l1 k y0 y1 y2 y3 y4 y5 y6 y7 y8 y9 y10 y11) (semigroupref07_Infinite.l1 (k + 1) y0 y1 y2 y3 y4 y5 y6 y7 y8 y9 y10 y11)) ∧ (∀ y0 y1 y2 y3 y4 y5 y6 y7 y8 y9 y10 y11 y12 y13 y14 y15, LeO (semigroupref07_Infinite.l2 k y0 y1 y2 y3 y4 y5 y6 y7 y8 y9 y10 y11 y12 y13 y14 y15) (semigroupref07_Infinite.l2 (k + 1) y0 y1 y2 y3 y4 y5 y6 y7 y8 y9 y10 y11 y12 y13 y14 y15))
 | 0 => ⟨fun _ _ _ _ _ _ _ _ r h => by simp [semigroupref07_Infinite.l0] at h, fun _ _ _ _ _ _ _ _ _ _ _ _ r h => by simp [semigroupref07_Infinite.l1] at h, fun _ _ _ _ _ _ _ _ _ _ _ _ _ _ _ _ r h => by simp [semigroupref07_Infinite.l2] at h⟩
 | k + 1 => by
  obtain ⟨ih0, ih1, ih2⟩ := semigroupref07_Infinite.mono_l k
  refine ⟨?_, ?_, ?_⟩
  (focus
  intro y0 y1 y2 y3 y4 y5 y6 y7
  unfold semigroupref07_Infinite.l0
  repeat' first
  | (with_reducible exact ih0 _ _ _ _ _ _ _ _)
  | (with_reducible exact ih1 _ _ _ _ _ _ _ _ _ _ _ _)
  | (with_reducible exact ih2 _ _ _ _ _ _ _ _ _ _ _ _ _ _ _ _)
  | (with_reducible exact semigroupref07_Access.mono _ _ _ _ _)
  | (with_reducible exact semigroupref07_Live.mono _ _ _ _ _)
  | (with_reducible exact LeO.refl _)
  | (with_reducible exact LeO.none _)
  | (with_reducible refine LeO.ite ?_ ?_)
  | (with_reducible refine LeO.bind ?_ (fun _ => ?_))
  | exact ih0 _ _ _ _ _ _ _ _
  | exact ih1 _ _ _ _ _ _ _ _ _ _ _ _
  | exact ih2 _ _ _ _ _ _ _ _ _ _ _ _ _ _ _ _
  | exact semigroupref07_Access.mono _ _ _ _ _
  | exact semigroupref07_Live.mono _ _ _ _ _
  | exact LeO.none _
  | refine LeO.ite ?_ ?_
  | refine LeO.bind ?_ (fun _ => ?_)
  )
  (focus
  intro y0 y1 y2 y3 y4 y5 y6 y7 y8 y9 y10 y11
  unfold semigroupref07_Infinite.l1
  repeat' first
  | (with_reducible exact ih0 _ _ _ _ _ _ _ _)
  | (with_reducible exact ih1 _ _ _ _ _ _ _ _ _ _ _ _)
  | (with_reducible exact ih2 _ _ _ _ _ _ _ _ _ _ _ _ _ _ _ _)
  | (with_reducible exact semigroupref07_Access.mono _ _ _ _ _)
  | (with_reducible exact semigroupref07_Live.mono _ _ _ _ _)
  | (with_reducible exact LeO.refl _)
  | (with_reducible exact LeO.none _)
  | (with_reducible refine LeO.ite ?_ ?_)
  | (with_reducible refine LeO.bind ?_ (fun _ => ?_))
  | exact ih0 _ _ _ _ _ _ _ _
  | exact ih1 _ _ _ _ _ _ _ _ _ _ _ _
  | exact ih2 _ _ _ _ _ _ _ _ _ _ _ _ _ _ _ _
  | exact semigroupref07_Access.mono _ _ _ _ _
  | exact semigroupref07_Live.mono _ _ _ _ _
  | exact LeO.none _
  | refine LeO.ite ?_ ?_
  | refine LeO.bind ?_ (fun _ => ?_)
  )
  (focus
  intro y0 y1 y2 y3 y4 y5 y6 y7 y8 y9 y10 y11 y12 y13 y14 y15
  unfold semigroupref07_Infinite.l2
  repeat' first
  | (with_reducible exact ih0 _ _ _ _ _ _ _ _)
  | (with_reducible exact ih1 _ _ _ _ _ _ _ _ _ _ _ _)
  | (with_reducible exact ih2 _ _ _ _ _ _ _ _ _ _ _ _ _ _ _ _)
  | (with_reducible exact semigroupref07_Access.mono _ _ _ _ _)
  | (with_reducible exact semigroupref07_Live.mono _ _ _ _ _)
  | (with_reducible exact LeO.refl _)
  | (with_reducible exact LeO.none _)
  | (with_reducible refine LeO.ite ?_ ?_)
  | (with_reducible refine LeO.bind ?_ (fun _ => ?_))
  | exact ih0 _ _ _ _ _ _ _ _
  | exact ih1 _ _ _ _ _ _ _ _ _ _ _ _
  | exact ih2 _ _ _ _ _ _ _ _ _ _ _ _ _ _ _ _
  | exact semigroupref07_Access.mono _ _ _ _ _
  | exact semigroupref07_Live.mono _ _ _ _ _
  | exact LeO.none _
  | refine LeO.ite ?_ ?_
  | refine LeO.bind ?_ (fun _ => ?_)
  )
theorem semigroupref07_Infinite.mono : ∀ a0 a1 a2 a3 k, LeO (semigroupref07_Infinite.f k a0 a1 a2 a3) (semigroupref07_Infinite.f (k + 1) a0 a1 a2 a3) := by
 intro a0 a1 a2 a3 k
 obtain ⟨ih0, ih1, ih2⟩ := semigroupref07_Infinite.mono_l k
 unfold semigroupref07_Infinite.f
 repeat' first
  | (with_reducible exact ih0 _ _ _ _ _ _ _ _)
  | (with_reducible exact ih1 _ _ _ _ _ _ _ _ _ _ _ _)
  | (with_reducible exact ih2 _ _ _ _ _ _ _ _ _ _ _ _ _ _ _ _)
  | (with_reducible exact semigroupref07_Access.mono _ _ _ _ _)
  | (with_reducible exact semigroupref07_Live.mono _ _ _ _ _)
  | (with_reducible exact LeO.refl _)
  | (with_reducible exact LeO.none _)
  | (with_reducible refine LeO.ite ?_ ?_)
  | (with_reducible refine LeO.bind ?_ (fun _ => ?_))
  | exact ih0 _ _ _ _ _ _ _ _
  | exact ih1 _ _ _ _ _ _ _ _ _ _ _ _
  | exact ih2 _ _ _ _ _ _ _ _ _ _ _ _ _ _ _ _
  | exact semigroupref07_Access.mono _ _ _ _ _
  | exact semigroupref07_Live.mono _ _ _ _ _
  | exact LeO.none _
  | refine LeO.ite ?_ ?_
  | refine LeO.bind ?_ (fun _ => ?_)
set_option maxHeartbeats 8000000 in
set_option maxRecDepth 100000 in
theorem semigroupref07_Infinite.calls (k : Nat) (a0_0 : Int) (a0_1 : Int) (A0_2 : Option Addr) (c0_2 : Nat) (l0_2 : List Bool) (A0_3 : Option Addr) (c0_3 : Nat) (l0_3 : List (List Int)) (r : Bool) (w : World) (hr0_2 : Kd.C Kd.bool w A0_2 l0_2.length l0_2) (hc0_2 : l0_2.length ≤ c0_2) (hr0_3 : Kd.C (Kd.slice 3 (Kd.int .i64)) w A0_3 l0_3.length l0_3) (hc0_3 : l0_3.length ≤ c0_3) (h : semigroupref07_Infinite.f k a0_0 a0_1 l0_2 l0_3 = some r) :
 Calls Try.prog 39 #[.agg #[.int .i64 a0_0, .int .i64 a0_1, .slice A0_2 l0_2.length c0_2, .slice A0_3 l0_3.length c0_3]] w fun e w' => e = .returned (.bool r) ∧ Below w.heap.size w w' := by
 have hu25 := Try.underlying25
 have HR0_2 := Aside0.mk hr0_2
 have HC0_2 := Aside0.mk hc0_2
 clear hr0_2 hc0_2
 have HR0_3 := Aside0.mk hr0_3
 have HC0_3 := Aside0.mk hc0_3
 clear hr0_3 hc0_3
 have HB := Aside0.mk (Below.refl w.heap.size w)
 have H : ((semigroupref07_Live.f k a0_0 a0_1 l0_2 l0_3).bind fun t314 => ((semigroupref07_Access.f k a0_0 a0_1 l0_2 l0_3).bind fun bt317 => (semigroupref07_Infinite.l0 k t314 bt317.1 (bt317.1.length : Int) 0 a0_0 a0_1 l0_2 l0_3))) = some r := h
 clear h
 replace H := Option.bind_eq_some_iff.mp H
 obtain ⟨t314, A20, H⟩ := H
 replace H : ((semigroupref07_Access.f k a0_0 a0_1 l0_2 l0_3).bind fun bt317 => (semigroupref07_Infinite.l0 k t314 bt317.1 (bt317.1.length : Int) 0 a0_0 a0_1 l0_2 l0_3)) = some r := H
 have A2 := Aside0.mk A20
 clear A20
 replace H := Option.bind_eq_some_iff.mp H
 obtain ⟨⟨t317, t320⟩, A30, H⟩ := H
 replace H : (semigroupref07_Infinite.l0 k t314 t317 (t317.length : Int) 0 a0_0 a0_1 l0_2 l0_3) = some r := H
 have A3 := Aside0.mk A30
 clear A30
 have H' := Aside0.mk H
 clear H
 go_enter Try.func39, Try.ntmps39
 go_wp2_with (first | ((with_reducible refine gate_dst (N := 1) rfl ?_); refine box_event ?hg (N := 1) ?hd (cs := #[.int .i64 a0_0, .int .i64 a0_1, .slice A0_2 l0_2.length c0_2, .slice A0_3 l0_3.length c0_3]) (t := 25) ?hr ?_; (case hd => rfl); (case hg => rfl); (case hr => first | (go_simp; done) | (go_simp; rfl)); intro gb313 hg w4 hbox hb; have n0_ := Aside0.mk (below_step (by repeat (first | (with_reducible first | exact HB.out | apply below_alloc | apply pw_below_drewN | apply below_drew1) | exact HB.out)) hb); have n1_ := Aside0.mk (hbox); have n2_ := Aside0.mk ((by rw [hg]; exact (below_size (by repeat (first | (with_reducible first | exact HB.out | apply below_alloc | apply pw_below_drewN | apply below_drew1) | exact HB.out))) : w.heap.size ≤ gb313)); have n3_ := Aside0.mk ((by rw [hg]; exact (below_size (by repeat (first | (with_reducible first | exact HB.out | apply below_alloc | apply pw_below_drewN | apply below_drew1) | exact HB.out))) : w.heap.size ≤ gb313)); clear HB; have HB := n0_; have BK313 := n1_; have GW313 := n2_; have GE313 := n3_; clear n0_ n1_ n2_ n3_; clear hb hbox hg; have hcz5_0 : w4.cell? ⟨gb313, 0, none⟩ = some (.int .i64 a0_0) := (blk_cell BK313.out 0).trans rfl; have hcz5_1 : w4.cell? ⟨gb313, 1, none⟩ = some (.int .i64 a0_1) := (blk_cell BK313.out 1).trans rfl; have hcz5_2 : w4.cell? ⟨gb313, 2, none⟩ = some (.slice A0_2 l0_2.length c0_2) := (blk_cell BK313.out 2).trans rfl; have hcz5_3 : w4.cell? ⟨gb313, 3, none⟩ = some (.slice A0_3 l0_3.length c0_3) := (blk_cell BK313.out 3).trans rfl; have hfz5_0 := blk_frozen BK313.out 0; have hfz5_1 := blk_frozen BK313.out 1; have hfz5_2 := blk_frozen BK313.out 2; have hfz5_3 := blk_frozen BK313.out 3) | ((with_reducible refine gate_callee (f := 53) rfl ?_); refine goesL_ (some 16) rfl rfl Try.func53 (by kernel_rfl) rfl #[.agg #[.int .i64 a0_0, .int .i64 a0_1, .slice A0_2 l0_2.length c0_2, .slice A0_3 l0_3.length c0_3]] rfl (by (try simp only [List.map_toArray, List.map_cons, List.map_nil]); first | done | rfl | (simp only [List.length_drop, List.length_take]; rfl)) ?_; (with_reducible refine (semigroupref07_Live.calls k a0_0 a0_1 _ _ l0_2 _ _ l0_3 t314 _ ?side1 ?side2 ?side3 ?side4 A2.out).mono ?_); (case side1 => repeat (first | exact (Kd.C_below HR0_2.out HB.out) | (with_reducible refine Kd.C_alloc ?_ _) | (with_reducible refine Kd.C_drewN ?_ _) | (with_reducible refine Kd.C_drew ?_))); (case side2 => exact HC0_2.out); (case side3 => repeat (first | exact (Kd.C_below HR0_3.out HB.out) | (with_reducible refine Kd.C_alloc ?_ _) | (with_reducible refine Kd.C_drewN ?_ _) | (with_reducible refine Kd.C_drew ?_))); (case side4 => exact HC0_3.out); rintro e w6 ⟨v315, rfl, ho0, hb⟩; refine ⟨_, rfl, ?_⟩; have n0_ := Aside0.mk (Kd.R_lower ho0 (below_size (by repeat (first | (with_reducible first | exact HB.out | apply below_alloc | apply pw_below_drewN | apply below_drew1 | refine below_set ?_ GE313.out) | exact HB.out)))); have n1_ := Aside0.mk (blk_below (g := gb313) (o := .cells #[.int .i64 a0_0, .int .i64 a0_1, .slice A0_2 l0_2.length c0_2, .slice A0_3 l0_3.length c0_3] 25 (0, 0)) (uB BK313.out) hb); have n2_ := Aside0.mk (below_step (by repeat (first | (with_reducible first | exact HB.out | apply below_alloc | apply pw_below_drewN | apply below_drew1 | refine below_set ?_ GE313.out) | exact HB.out)) hb); clear BK313; clear HB; have HO316 := n0_; have BK313 := n1_; have HB := n2_; clear n0_ n1_ n2_; (try clear hb); (try clear hb2); (try clear hk); (try clear hi); (try clear ho0); have hcz7_0 : w6.cell? ⟨gb313, 0, none⟩ = some (.int .i64 a0_0) := (blk_cell BK313.out 0).trans rfl; have hcz7_1 : w6.cell? ⟨gb313, 1, none⟩ = some (.int .i64 a0_1) := (blk_cell BK313.out 1).trans rfl; have hcz7_2 : w6.cell? ⟨gb313, 2, none⟩ = some (.slice A0_2 l0_2.length c0_2) := (blk_cell BK313.out 2).trans rfl; have hcz7_3 : w6.cell? ⟨gb313, 3, none⟩ = some (.slice A0_3 l0_3.length c0_3) := (blk_cell BK313.out 3).trans rfl; have hfz7_0 := blk_frozen BK313.out 0; have hfz7_1 := blk_frozen BK313.out 1; have hfz7_2 := blk_frozen BK313.out 2; have hfz7_3 := blk_frozen BK313.out 3) | ((with_reducible refine gate_callee (f := 49) rfl ?_); refine goesL_ (some 19) rfl rfl Try.func49 (by kernel_rfl) rfl #[.agg #[.int .i64 a0_0, .int .i64 a0_1, .slice A0_2 l0_2.length c0_2, .slice A0_3 l0_3.length c0_3]] rfl (by (try simp only [List.map_toArray, List.map_cons, List.map_nil]); first | done | rfl | (simp only [List.length_drop, List.length_take]; rfl)) ?_; (with_reducible refine (semigroupref07_Access.calls k a0_0 a0_1 _ _ l0_2 _ _ l0_3 t317 t320 _ ?side1 ?side2 ?side3 ?side4 A3.out).mono ?_); (case side1 => repeat (first | exact (Kd.C_below HR0_2.out HB.out) | (with_reducible refine Kd.C_alloc ?_ _) | (with_reducible refine Kd.C_drewN ?_ _) | (with_reducible refine Kd.C_drew ?_))); (case side2 => exact HC0_2.out); (case side3 => repeat (first | exact (Kd.C_below HR0_3.out HB.out) | (with_reducible refine Kd.C_alloc ?_ _) | (with_reducible refine Kd.C_drewN ?_ _) | (with_reducible refine Kd.C_drew ?_))); (case side4 => exact HC0_3.out); rintro e w8 ⟨v318, v321, rfl, ho0, ho1, hb⟩; refine ⟨_, rfl, ?_⟩; have n0_ := Aside0.mk (Kd.R_below (uR HO316.out) hb); have n1_ := Aside0.mk (Kd.R_lower ho0 (below_size (by repeat (first | (with_reducible first | exact HB.out | apply below_alloc | apply pw_below_drewN | apply below_drew1 | refine below_set ?_ GE313.out) | exact HB.out)))); have n2_ := Aside0.mk (Kd.R_lower ho1 (below_size (by repeat (first | (with_reducible first | exact HB.out | apply below_alloc | apply pw_below_drewN | apply below_drew1 | refine below_set ?_ GE313.out) | exact HB.out)))); have n3_ := Aside0.mk (blk_below (g := gb313) (o := .cells #[.int .i64 a0_0, .int .i64 a0_1, .slice A0_2 l0_2.length c0_2, .slice A0_3 l0_3.length c0_3] 25 (0, 0)) (uB BK313.out) hb); have n4_ := Aside0.mk (below_step (by repeat (first | (with_reducible first | exact HB.out | apply below_alloc | apply pw_below_drewN | apply below_drew1 | refine below_set ?_ GE313.out) | exact HB.out)) hb); clear HO316; clear BK313; clear HB; have HO316 := n0_; have HO319 := n1_; have HO322 := n2_; have BK313 := n3_; have HB := n4_; clear n0_ n1_ n2_ n3_ n4_; (try clear hb); (try clear hb2); (try clear hk); (try clear hi); (try clear ho0); (try clear ho1); obtain ⟨Ao9, co9, eo9⟩ := Kd.R_slice HO319.out; subst eo9))
 go_loopg [24] k (fun kq v24 w' => ∃ (x24_1 : Int), v24 = .int .i64 x24_1 ∧ Aside0 (semigroupref07_Infinite.l0 kq t314 t317 (t317.length : Int) x24_1 a0_0 a0_1 l0_2 l0_3 = some r) ∧ Aside0 (kq ≤ k) ∧ Aside0 (Kd.R Kd.bool 4 w' w.heap.size (fun _ => True) v315 t314) ∧ Aside0 (Kd.R (Kd.int .i64) 3 w' w.heap.size (fun _ => True) (.slice Ao9 t317.length co9) t317) ∧ Aside0 (w'.heap[gb313]? = some (.cells #[.int .i64 a0_0, .int .i64 a0_1, (.slice A0_2 l0_2.length c0_2), (.slice A0_3 l0_3.length c0_3)] 25 (0, 0))) ∧ Aside0 (Below w.heap.size w w'))
 case atStart => exact ⟨(0), (by first | rfl | (simp; done) | (simp [*]; done)), H', ⟨Nat.le_refl _⟩, ⟨by (with_reducible repeat (first | apply Kd.R_alloc | apply Kd.R_drewN | apply Kd.R_drew)); exact HO316.out⟩, ⟨by (with_reducible repeat (first | apply Kd.R_alloc | apply Kd.R_drewN | apply Kd.R_drew)); exact HO319.out⟩, ⟨by (with_reducible repeat (first | refine blk_drewN ?_ _ | refine blk_drew ?_ | refine blk_alloc ?_ _)); exact BK313.out⟩, ⟨by repeat (first | (with_reducible first | exact HB.out | apply below_alloc | apply pw_below_drewN | apply below_drew1 | refine below_set ?_ GE313.out) | exact HB.out)⟩⟩
 case round =>
  clear H'
  try clear p2
  try clear c3
  try clear c4
  try clear c5
  try clear hcz5_0
  try clear hcz5_1
  try clear hcz5_2
  try clear hcz5_3
  try clear hcz7_0
  try clear hcz7_1
  try clear hcz7_2
  try clear hcz7_3
  try clear hfz5_0
  try clear hfz5_1
  try clear hfz5_2
  try clear hfz5_3
  try clear hfz7_0
  try clear hfz7_1
  try clear hfz7_2
  try clear hfz7_3
  obtain ⟨x24_1, rfl, HA, HK1, HO_3, HO_22, BK313, HB⟩ := hrel
  cases gk with
  | zero => exact absurd HA.out (by simp [semigroupref07_Infinite.l0])
  | succ k1 =>
   have H := HA.out
   clear HA
   simp only [semigroupref07_Infinite.l0] at H
   by_cases c10 : x24_1 < (t317.length : Int)
   (focus
   rw [if_pos c10] at H
   have c10b0 : decide (x24_1 < (t317.length : Int)) = true := decide_eq_true c10
   clear c10
   by_cases c11 : 0 ≤ x24_1
   (focus
   rw [if_pos c11] at H
   have c11b0 : decide (0 ≤ x24_1) = true := decide_eq_true c11
   clear c11
   by_cases c12 : x24_1 < (t317.length : Int)
   (focus
   rw [if_pos c12] at H
   have c12b0 : decide (x24_1 < (t317.length : Int)) = true := decide_eq_true c12
   clear c12
   by_cases c13 : 0 ≤ (rd t317 x24_1)
   (focus
   rw [if_pos c13] at H
   have c13b0 : decide (0 ≤ (rd t317 x24_1)) = true := decide_eq_true c13
   clear c13
   by_cases c14 : (rd t317 x24_1) < (t314.length : Int)
   (focus
   rw [if_pos c14] at H
   have c14b0 : decide ((rd t317 x24_1) < (t314.length : Int)) = true := decide_eq_true c14
   clear c14
   obtain ⟨bq15, hbq15⟩ : ∃ b_ : Bool, b_ = (rdOf false t314 (rd t317 x24_1)) := ⟨_, rfl⟩
   replace H : (if (bq15 = true) then ((semigroupref07_Access.f k1 a0_0 (rd t317 x24_1) l0_2 l0_3).bind fun bt326 => (semigroupref07_Infinite.l1 k1 t314 (rd t317 x24_1) t317 (t317.length : Int) x24_1 bt326.1 (bt326.1.length : Int) 0 a0_0 a0_1 l0_2 l0_3)) else (semigroupref07_Infinite.l0 k1 t314 t317 (t317.length : Int) (wrap64 (x24_1 + 1)) a0_0 a0_1 l0_2 l0_3)) = some r := by rw [← hbq15] at H; exact H
   have Nbq15 := Aside0.mk hbq15
   clear hbq15
   by_cases c16 : (bq15 = true)
   (focus
   subst c16
   have H1 : ((semigroupref07_Access.f k1 a0_0 (rd t317 x24_1) l0_2 l0_3).bind fun bt326 => (semigroupref07_Infinite.l1 k1 t314 (rd t317 x24_1) t317 (t317.length : Int) x24_1 bt326.1 (bt326.1.length : Int) 0 a0_0 a0_1 l0_2 l0_3)) = some r := by rw [if_pos rfl] at H; exact H
   clear H
   have H := H1
   clear H1
   replace H := Option.bind_eq_some_iff.mp H
   obtain ⟨⟨t326, t329⟩, A170, H⟩ := H
   replace H : (semigroupref07_Infinite.l1 k1 t314 (rd t317 x24_1) t317 (t317.length : Int) x24_1 t326 (t326.length : Int) 0 a0_0 a0_1 l0_2 l0_3) = some r := H
   have A17 := Aside0.mk A170
   clear A170
   have H' := Aside0.mk H
   clear H
   have p323 : 0 ≤ (x24_1 : Int) := of_decide_eq_true (by first | (with_reducible assumption) | assumption)
   have q323 : x24_1 < (t317.length : Int) := of_decide_eq_true (by first | (with_reducible assumption) | assumption)
   obtain ⟨ad323, e323, hx323_0⟩ := Kd.at_int (Kd.R_reads' HO_22.out).2.2 x24_1 p323 q323
   cases e323
   replace p323 := eq_true p323
   replace q323 := eq_true q323
   obtain ⟨Ao18, co18, eo18⟩ := Kd.R_slice HO_3.out
   subst eo18
   have p324 : 0 ≤ ((rd t317 x24_1) : Int) := of_decide_eq_true (by first | (with_reducible assumption) | assumption)
   have q324 : (rd t317 x24_1) < (t314.length : Int) := of_decide_eq_true (by first | (with_reducible assumption) | assumption)
   obtain ⟨ad324, e324, hx324_0⟩ := Kd.at_bool (Kd.R_reads' HO_3.out).2.2 (rd t317 x24_1) p324 q324
   (try rw [← Nbq15.out] at hx324_0)
   cases e324
   replace p324 := eq_true p324
   replace q324 := eq_true q324
   have hcz19_0 : wr.cell? ⟨gb313, 0, none⟩ = some (.int .i64 a0_0) := (blk_cell BK313.out 0).trans rfl
   have hcz19_1 : wr.cell? ⟨gb313, 1, none⟩ = some (.int .i64 a0_1) := (blk_cell BK313.out 1).trans rfl
   have hcz19_2 : wr.cell? ⟨gb313, 2, none⟩ = some (.slice A0_2 l0_2.length c0_2) := (blk_cell BK313.out 2).trans rfl
   have hcz19_3 : wr.cell? ⟨gb313, 3, none⟩ = some (.slice A0_3 l0_3.length c0_3) := (blk_cell BK313.out 3).trans rfl
   have hfz19_0 := blk_frozen BK313.out 0
   have hfz19_1 := blk_frozen BK313.out 1
   have hfz19_2 := blk_frozen BK313.out 2
   have hfz19_3 := blk_frozen BK313.out 3
   go_wp2_with (first | ((with_reducible refine gate_dst (N := 8) rfl ?_); refine box_event ?hg (N := 8) ?hd (cs := #[.int .i64 0, .int .i64 0, .slice none 0 0, .slice none 0 0]) (t := 25) ?hr ?_; (case hd => rfl); (case hg => rfl); (case hr => first | (go_simp; done) | (go_simp; rfl)); intro gb325 hg w20 hbox hb; have n0_ := Aside0.mk (Kd.R_below (uR HO_3.out) hb); have n1_ := Aside0.mk (Kd.R_below (uR HO_22.out) hb); have n2_ := Aside0.mk (blk_below (g := gb313) (o := .cells #[.int .i64 a0_0, .int .i64 a0_1, .slice A0_2 l0_2.length c0_2, .slice A0_3 l0_3.length c0_3] 25 (0, 0)) (uB BK313.out) hb); have n3_ := Aside0.mk (below_step (by repeat (first | (with_reducible first | exact HB.out | apply below_alloc | apply pw_below_drewN | apply below_drew1 | refine below_set ?_ GE313.out) | exact HB.out)) hb); have n4_ := Aside0.mk (hbox); have n5_ := Aside0.mk ((by rw [hg]; exact (below_size (by repeat (first | (with_reducible first | exact HB.out | apply below_alloc | apply pw_below_drewN | apply below_drew1 | refine below_set ?_ GE313.out) | exact HB.out))) : w.heap.size ≤ gb325)); have n6_ := Aside0.mk ((by rw [hg]; exact (below_size (by repeat (first | (with_reducible first | exact HB.out | apply below_alloc | apply pw_below_drewN | apply below_drew1 | refine below_set ?_ GE313.out) | exact HB.out))) : w.heap.size ≤ gb325)); have n7_ := Aside0.mk ((by rw [hg]; exact Nat.ne_of_lt (blk_lt (g := gb313) (o := .cells #[.int .i64 a0_0, .int .i64 a0_1, .slice A0_2 l0_2.length c0_2, .slice A0_3 l0_3.length c0_3] 25 (0, 0)) (uB BK313.out)) : gb313 ≠ gb325)); have n8_ := Aside0.mk ((by rw [hg]; exact Nat.ne_of_gt (blk_lt (g := gb313) (o := .cells #[.int .i64 a0_0, .int .i64 a0_1, .slice A0_2 l0_2.length c0_2, .slice A0_3 l0_3.length c0_3] 25 (0, 0)) (uB BK313.out)) : gb325 ≠ gb313)); clear HO_3; clear HO_22; clear BK313; clear HB; have HO_3 := n0_; have HO_22 := n1_; have BK313 := n2_; have HB := n3_; have BK325 := n4_; have GW325 := n5_; have GE325 := n6_; have NB313_325 := n7_; have NB325_313 := n8_; clear n0_ n1_ n2_ n3_ n4_ n5_ n6_ n7_ n8_; clear hb hbox hg; have hnb21 := NB325_313.out; have hnc21 := NB313_325.out; have hcz22_0 : w20.cell? ⟨gb325, 0, none⟩ = some (.int .i64 0) := (blk_cell BK325.out 0).trans rfl; have hcz22_1 : w20.cell? ⟨gb325, 1, none⟩ = some (.int .i64 0) := (blk_cell BK325.out 1).trans rfl; have hcz22_2 : w20.cell? ⟨gb325, 2, none⟩ = some (.slice none 0 0) := (blk_cell BK325.out 2).trans rfl; have hcz22_3 : w20.cell? ⟨gb325, 3, none⟩ = some (.slice none 0 0) := (blk_cell BK325.out 3).trans rfl; have hfz22_0 := blk_frozen BK325.out 0; have hfz22_1 := blk_frozen BK325.out 1; have hfz22_2 := blk_frozen BK325.out 2; have hfz22_3 := blk_frozen BK325.out 3) | ((with_reducible refine gate_store (t := 25) (p := 8) rfl ?_); refine store_event (t := 25) (p := 8) (v := ?vo_w23) (w1 := ((((w20.setCell ⟨gb325, 0, none⟩ (.int .i64 a0_0)).setCell ⟨gb325, 1, none⟩ (.int .i64 a0_1)).setCell ⟨gb325, 2, none⟩ (.slice A0_2 l0_2.length c0_2)).setCell ⟨gb325, 3, none⟩ (.slice A0_3 l0_3.length c0_3))) ?hg ?ho ?hn ?hr ?_; (case ho => rfl); (case hg => rfl); (case hn => rfl); (case hr => first | (go_simp; done) | (go_simp; rfl)); intro w23 hw; have n0_ : Aside0 (Kd.R Kd.bool 4 w23 w.heap.size (fun _ => True) (.slice (some ad324) t314.length co18) t314) := ⟨(by rw [hw]; exact (uR (Kd.R_mono (Kd.R_far (p := ⟨gb325, 3, none⟩) (Kd.R_far (p := ⟨gb325, 2, none⟩) (Kd.R_far (p := ⟨gb325, 1, none⟩) (Kd.R_far (p := ⟨gb325, 0, none⟩) (Kd.R_types HO_3.out BK325.out (by decide)) (fun _ hk => hk.2) (.int .i64 a0_0)) (fun _ hk => hk.2) (.int .i64 a0_1)) (fun _ hk => hk.2) (.slice A0_2 l0_2.length c0_2)) (fun _ hk => hk.2) (.slice A0_3 l0_3.length c0_3)) (fun _ hk => trivial))))⟩; have n1_ : Aside0 (Kd.R (Kd.int .i64) 3 w23 w.heap.size (fun _ => True) (.slice (some ad323) t317.length co9) t317) := ⟨(by rw [hw]; exact (uR (Kd.R_mono (Kd.R_far (p := ⟨gb325, 3, none⟩) (Kd.R_far (p := ⟨gb325, 2, none⟩) (Kd.R_far (p := ⟨gb325, 1, none⟩) (Kd.R_far (p := ⟨gb325, 0, none⟩) (Kd.R_types HO_22.out BK325.out (by decide)) (fun _ hk => hk.2) (.int .i64 a0_0)) (fun _ hk => hk.2) (.int .i64 a0_1)) (fun _ hk => hk.2) (.slice A0_2 l0_2.length c0_2)) (fun _ hk => hk.2) (.slice A0_3 l0_3.length c0_3)) (fun _ hk => trivial))))⟩; have n2_ : Aside0 (w23.heap[gb313]? = some (.cells #[.int .i64 a0_0, .int .i64 a0_1, .slice A0_2 l0_2.length c0_2, .slice A0_3 l0_3.length c0_3] 25 (0, 0))) := ⟨(by rw [hw]; exact (by (with_reducible repeat (first | refine blk_drewN ?_ _ | refine blk_drew ?_ | refine blk_alloc ?_ _)); refine blk_far ?_ NB313_325.out _; (with_reducible repeat (first | refine blk_drewN ?_ _ | refine blk_drew ?_ | refine blk_alloc ?_ _)); refine blk_far ?_ NB313_325.out _; (with_reducible repeat (first | refine blk_drewN ?_ _ | refine blk_drew ?_ | refine blk_alloc ?_ _)); refine blk_far ?_ NB313_325.out _; (with_reducible repeat (first | refine blk_drewN ?_ _ | refine blk_drew ?_ | refine blk_alloc ?_ _)); refine blk_far ?_ NB313_325.out _; (with_reducible repeat (first | refine blk_drewN ?_ _ | refine blk_drew ?_ | refine blk_alloc ?_ _)); exact BK313.out))⟩; have n3_ : Aside0 (w23.heap[gb325]? = some (.cells #[.int .i64 a0_0, .int .i64 a0_1, .slice A0_2 l0_2.length c0_2, .slice A0_3 l0_3.length c0_3] 25 (0, 0))) := ⟨(by rw [hw]; exact (by (with_reducible repeat (first | refine blk_drewN ?_ _ | refine blk_drew ?_ | refine blk_alloc ?_ _)); refine blk_put (cs := #[.int .i64 a0_0, .int .i64 a0_1, .slice A0_2 l0_2.length c0_2, .slice none 0 0]) ?_ 3 _ rfl; (with_reducible repeat (first | refine blk_drewN ?_ _ | refine blk_drew ?_ | refine blk_alloc ?_ _)); refine blk_put (cs := #[.int .i64 a0_0, .int .i64 a0_1, .slice none 0 0, .slice none 0 0]) ?_ 2 _ rfl; (with_reducible repeat (first | refine blk_drewN ?_ _ | refine blk_drew ?_ | refine blk_alloc ?_ _)); refine blk_put (cs := #[.int .i64 a0_0, .int .i64 0, .slice none 0 0, .slice none 0 0]) ?_ 1 _ rfl; (with_reducible repeat (first | refine blk_drewN ?_ _ | refine blk_drew ?_ | refine blk_alloc ?_ _)); refine blk_put (cs := #[.int .i64 0, .int .i64 0, .slice none 0 0, .slice none 0 0]) ?_ 0 _ rfl; (with_reducible repeat (first | refine blk_drewN ?_ _ | refine blk_drew ?_ | refine blk_alloc ?_ _)); exact BK325.out))⟩; have n4_ : Aside0 (Below w.heap.size w w23) := ⟨(by rw [hw]; exact (by repeat (first | (with_reducible first | exact HB.out | apply below_alloc | apply pw_below_drewN | apply below_drew1 | refine below_set ?_ GE313.out | refine below_set ?_ GE325.out) | exact HB.out)))⟩; clear hw; clear HO_3; clear HO_22; clear BK313; clear BK325; clear HB; have HO_3 := n0_; have HO_22 := n1_; have BK313 := n2_; have BK325 := n3_; have HB := n4_; clear n0_ n1_ n2_ n3_ n4_; have hcz24_0 : w23.cell? ⟨gb325, 0, none⟩ = some (.int .i64 a0_0) := (blk_cell BK325.out 0).trans rfl; have hcz24_1 : w23.cell? ⟨gb325, 1, none⟩ = some (.int .i64 a0_1) := (blk_cell BK325.out 1).trans rfl; have hcz24_2 : w23.cell? ⟨gb325, 2, none⟩ = some (.slice A0_2 l0_2.length c0_2) := (blk_cell BK325.out 2).trans rfl; have hcz24_3 : w23.cell? ⟨gb325, 3, none⟩ = some (.slice A0_3 l0_3.length c0_3) := (blk_cell BK325.out 3).trans rfl; have hfz24_0 := blk_frozen BK325.out 0; have hfz24_1 := blk_frozen BK325.out 1; have hfz24_2 := blk_frozen BK325.out 2; have hfz24_3 := blk_frozen BK325.out 3) | ((with_reducible refine gate_callee (f := 49) rfl ?_); refine goesL_ (some 38) rfl rfl Try.func49 (by kernel_rfl) rfl #[.agg #[.int .i64 a0_0, .int .i64 (rd t317 x24_1), .slice A0_2 l0_2.length c0_2, .slice A0_3 l0_3.length c0_3]] rfl (by (try simp only [List.map_toArray, List.map_cons, List.map_nil]); first | done | rfl | (simp only [List.length_drop, List.length_take]; rfl)) ?_; (with_reducible refine (semigroupref07_Access.calls k1 a0_0 (rd t317 x24_1) _ _ l0_2 _ _ l0_3 t326 t329 _ ?side1 ?side2 ?side3 ?side4 A17.out).mono ?_); (case side1 => exact Kd.C_below HR0_2.out (by repeat (first | (with_reducible first | exact HB.out | apply below_alloc | apply pw_below_drewN | apply below_drew1 | refine below_set ?_ GE313.out | refine below_set ?_ GE325.out) | exact HB.out))); (case side2 => exact HC0_2.out); (case side3 => exact Kd.C_below HR0_3.out (by repeat (first | (with_reducible first | exact HB.out | apply below_alloc | apply pw_below_drewN | apply below_drew1 | refine below_set ?_ GE313.out | refine below_set ?_ GE325.out) | exact HB.out))); (case side4 => exact HC0_3.out); rintro e w25 ⟨v327, v330, rfl, ho0, ho1, hb⟩; refine ⟨_, rfl, ?_⟩; have n0_ := Aside0.mk (Kd.R_below (uR ((Kd.R_mono (Kd.R_far (p := ⟨gb325, 1, none⟩) (Kd.R_types HO_3.out BK325.out (by decide)) (fun _ hk => hk.2) (.int .i64 (rd t317 x24_1))) (fun _ h_ => h_.1)))) hb); have n1_ := Aside0.mk (Kd.R_elder' (uR ((Kd.R_mono (Kd.R_far (p := ⟨gb325, 1, none⟩) (Kd.R_types HO_22.out BK325.out (by decide)) (fun _ hk => hk.2) (.int .i64 (rd t317 x24_1))) (fun _ h_ => h_.1)))) (Kd.R_base ho0) hb); have n2_ := Aside0.mk (Kd.R_lower (Kd.R_new' ho0 (Kd.R_lt (uR ((Kd.R_mono (Kd.R_far (p := ⟨gb325, 1, none⟩) (Kd.R_types HO_22.out BK325.out (by decide)) (fun _ hk => hk.2) (.int .i64 (rd t317 x24_1))) (fun _ h_ => h_.1)))))) (below_size (by repeat (first | (with_reducible first | exact HB.out | apply below_alloc | apply pw_below_drewN | apply below_drew1 | refine below_set ?_ GE313.out | refine below_set ?_ GE325.out) | exact HB.out)))); have n3_ := Aside0.mk (Kd.R_lower ho1 (below_size (by repeat (first | (with_reducible first | exact HB.out | apply below_alloc | apply pw_below_drewN | apply below_drew1 | refine below_set ?_ GE313.out | refine below_set ?_ GE325.out) | exact HB.out)))); have n4_ := Aside0.mk (blk_below (g := gb313) (o := .cells #[.int .i64 a0_0, .int .i64 a0_1, .slice A0_2 l0_2.length c0_2, .slice A0_3 l0_3.length c0_3] 25 (0, 0)) (by (with_reducible repeat (first | refine blk_drewN ?_ _ | refine blk_drew ?_ | refine blk_alloc ?_ _)); refine blk_far ?_ NB313_325.out _; (with_reducible repeat (first | refine blk_drewN ?_ _ | refine blk_drew ?_ | refine blk_alloc ?_ _)); exact BK313.out) hb); have n5_ := Aside0.mk (blk_below (g := gb325) (o := .cells #[.int .i64 a0_0, .int .i64 (rd t317 x24_1), .slice A0_2 l0_2.length c0_2, .slice A0_3 l0_3.length c0_3] 25 (0, 0)) (by (with_reducible repeat (first | refine blk_drewN ?_ _ | refine blk_drew ?_ | refine blk_alloc ?_ _)); refine blk_put (cs := #[.int .i64 a0_0, .int .i64 a0_1, .slice A0_2 l0_2.length c0_2, .slice A0_3 l0_3.length c0_3]) ?_ 1 _ rfl; (with_reducible repeat (first | refine blk_drewN ?_ _ | refine blk_drew ?_ | refine blk_alloc ?_ _)); exact BK325.out) hb); have n6_ := Aside0.mk (below_step (by repeat (first | (with_reducible first | exact HB.out | apply below_alloc | apply pw_below_drewN | apply below_drew1 | refine below_set ?_ GE313.out | refine below_set ?_ GE325.out) | exact HB.out)) hb); clear HO_3; clear HO_22; clear BK313; clear BK325; clear HB; have HO_3 := n0_; have HO_22 := n1_; have HO328 := n2_; have HO331 := n3_; have BK313 := n4_; have BK325 := n5_; have HB := n6_; clear n0_ n1_ n2_ n3_ n4_ n5_ n6_; (try clear hb); (try clear hb2); (try clear hk); (try clear hi); (try clear ho0); (try clear ho1); obtain ⟨Ao26, co26, eo26⟩ := Kd.R_slice HO328.out; subst eo26))
   go_loopg [43] k1 (fun kq v43 w' => ∃ (x43_2 : Int), v43 = .int .i64 x43_2 ∧ Aside0 (semigroupref07_Infinite.l1 kq t314 (rd t317 x24_1) t317 (t317.length : Int) x24_1 t326 (t326.length : Int) x43_2 a0_0 a0_1 l0_2 l0_3 = some r) ∧ Aside0 (kq ≤ k1) ∧ Aside0 (Kd.R Kd.bool 4 w' w.heap.size (fun _ => True) (.slice (some ad324) t314.length co18) t314) ∧ Aside0 (Kd.R (Kd.int .i64) 3 w' w.heap.size (fun k_ => some k_ ≠ ((.slice Ao26 t326.length co26) : Value).ownBlock) (.slice (some ad323) t317.length co9) t317) ∧ Aside0 (Kd.R (Kd.int .i64) 3 w' w.heap.size (fun k_ => some k_ ≠ ((.slice (some ad323) t317.length co9) : Value).ownBlock) (.slice Ao26 t326.length co26) t326) ∧ Aside0 (w'.heap[gb313]? = some (.cells #[.int .i64 a0_0, .int .i64 a0_1, (.slice A0_2 l0_2.length c0_2), (.slice A0_3 l0_3.length c0_3)] 25 (0, 0))) ∧ Aside0 (w'.heap[gb325]? = some (.cells #[.int .i64 a0_0, .int .i64 (rd t317 x24_1), (.slice A0_2 l0_2.length c0_2), (.slice A0_3 l0_3.length c0_3)] 25 (0, 0))) ∧ Aside0 (Below w.heap.size w w'))
   case atStart => exact ⟨(0), (by first | rfl | (simp; done) | (simp [*]; done)), H', ⟨Nat.le_refl _⟩, ⟨by (with_reducible repeat (first | apply Kd.R_alloc | apply Kd.R_drewN | apply Kd.R_drew)); exact HO_3.out⟩, ⟨by (with_reducible repeat (first | apply Kd.R_alloc | apply Kd.R_drewN | apply Kd.R_drew)); exact Kd.R_mono HO_22.out (fun _ hk => hk.2)⟩, ⟨by (with_reducible repeat (first | apply Kd.R_alloc | apply Kd.R_drewN | apply Kd.R_drew)); exact Kd.R_mono HO328.out (fun _ hk => hk.2)⟩, ⟨by (with_reducible repeat (first | refine blk_drewN ?_ _ | refine blk_drew ?_ | refine blk_alloc ?_ _)); exact BK313.out⟩, ⟨by (with_reducible repeat (first | refine blk_drewN ?_ _ | refine blk_drew ?_ | refine blk_alloc ?_ _)); exact BK325.out⟩, ⟨by repeat (first | (with_reducible first | exact HB.out | apply below_alloc | apply pw_below_drewN | apply below_drew1 | refine below_set ?_ GE313.out | refine below_set ?_ GE325.out) | exact HB.out)⟩⟩
   case round =>
    clear H'
    try clear c1
    try clear q1
    try clear c2
    try clear p2
    try clear c3
    try clear p3
    try clear q3
    try clear hx3
    try clear c4
    try clear c5
    try clear p6
    try clear c10
    try clear c10b0
    try clear c11
    try clear c11b0
    try clear c12
    try clear c12b0
    try clear c13
    try clear c13b0
    try clear c14
    try clear c14b0
    try clear q15
    try clear c16
    try clear c21
    try clear hcz19_0
    try clear hcz19_1
    try clear hcz19_2
    try clear hcz19_3
    try clear hcz22_0
    try clear hcz22_1
    try clear hcz22_2
    try clear hcz22_3
    try clear hcz24_0
    try clear hcz24_1
    try clear hcz24_2
    try clear hcz24_3
    try clear hcz5_0
    try clear hcz5_1
    try clear hcz5_2
    try clear hcz5_3
    try clear hcz7_0
    try clear hcz7_1
    try clear hcz7_2
    try clear hcz7_3
    try clear hfz19_0
    try clear hfz19_1
    try clear hfz19_2
    try clear hfz19_3
    try clear hfz22_0
    try clear hfz22_1
    try clear hfz22_2
    try clear hfz22_3
    try clear hfz24_0
    try clear hfz24_1
    try clear hfz24_2
    try clear hfz24_3
    try clear hfz5_0
    try clear hfz5_1
    try clear hfz5_2
    try clear hfz5_3
    try clear hfz7_0
    try clear hfz7_1
    try clear hfz7_2
    try clear hfz7_3
    try clear hx323_0
    try clear hx324_0
    try clear p2
    try clear p323
    try clear p324
    try clear q323
    try clear q324
    obtain ⟨x43_2, rfl, HA, HK2, HO_3, HO_22, HO_41, BK313, BK325, HB⟩ := hrel
    cases gk with
    | zero => exact absurd HA.out (by simp [semigroupref07_Infinite.l1])
    | succ k2 =>
     have H := HA.out
     clear HA
     simp only [semigroupref07_Infinite.l1] at H
     by_cases c27 : x43_2 < (t326.length : Int)
     (focus
     rw [if_pos c27] at H
     have c27b0 : decide (x43_2 < (t326.length : Int)) = true := decide_eq_true c27
     clear c27
     by_cases c28 : 0 ≤ x43_2
     (focus
     rw [if_pos c28] at H
     have c28b0 : decide (0 ≤ x43_2) = true := decide_eq_true c28
     clear c28
     by_cases c29 : x43_2 < (t326.length : Int)
     (focus
     rw [if_pos c29] at H
     have c29b0 : decide (x43_2 < (t326.length : Int)) = true := decide_eq_true c29
     clear c29
     by_cases c30 : 0 ≤ (rd t326 x43_2)
     (focus
     rw [if_pos c30] at H
     have c30b0 : decide (0 ≤ (rd t326 x43_2)) = true := decide_eq_true c30
     clear c30
     by_cases c31 : (rd t326 x43_2) < (l0_3.length : Int)
     (focus
     rw [if_pos c31] at H
     have c31b0 : decide ((rd t326 x43_2) < (l0_3.length : Int)) = true := decide_eq_true c31
     clear c31
     have H' := Aside0.mk H
     clear H
     have p332 : 0 ≤ (x43_2 : Int) := of_decide_eq_true (by first | (with_reducible assumption) | assumption)
     have q332 : x43_2 < (t326.length : Int) := of_decide_eq_true (by first | (with_reducible assumption) | assumption)
     obtain ⟨ad332, e332, hx332_0⟩ := Kd.at_int (Kd.R_reads' HO_41.out).2.2 x43_2 p332 q332
     cases e332
     replace p332 := eq_true p332
     replace q332 := eq_true q332
     have hnb32 := NB313_325.out
     have hnc32 := NB325_313.out
     have hcz33_0 : wr.cell? ⟨gb313, 0, none⟩ = some (.int .i64 a0_0) := (blk_cell BK313.out 0).trans rfl
     have hcz33_1 : wr.cell? ⟨gb313, 1, none⟩ = some (.int .i64 a0_1) := (blk_cell BK313.out 1).trans rfl
     have hcz33_2 : wr.cell? ⟨gb313, 2, none⟩ = some (.slice A0_2 l0_2.length c0_2) := (blk_cell BK313.out 2).trans rfl
     have hcz33_3 : wr.cell? ⟨gb313, 3, none⟩ = some (.slice A0_3 l0_3.length c0_3) := (blk_cell BK313.out 3).trans rfl
     have hfz33_0 := blk_frozen BK313.out 0
     have hfz33_1 := blk_frozen BK313.out 1
     have hfz33_2 := blk_frozen BK313.out 2
     have hfz33_3 := blk_frozen BK313.out 3
     have p333 : 0 ≤ ((rd t326 x43_2) : Int) := of_decide_eq_true (by first | (with_reducible assumption) | assumption)
     have q333 : (rd t326 x43_2) < (l0_3.length : Int) := of_decide_eq_true (by first | (with_reducible assumption) | assumption)
     obtain ⟨ad333, A333_0, c333_0, e333, hx333_0, hl333_0, hi333_0⟩ := at_L1 HR0_3.out (rd t326 x43_2) p333 q333
     cases e333
     (try replace hx333_0 := (HB.out.cell (World.block_lt_of_cell? w _ hx333_0)).trans hx333_0)
     have HR333_0 := Aside0.mk hi333_0
     have HC333_0 := Aside0.mk hl333_0
     clear hi333_0 hl333_0
     replace p333 := eq_true p333
     replace q333 := eq_true q333
     go_wp2
     go_loopg [53] k2 (fun kq v53 w' => ∃ (x53_3 : Int), v53 = .int .i64 x53_3 ∧ Aside0 (semigroupref07_Infinite.l2 kq t314 (rd t317 x24_1) (rd t326 x43_2) t317 (t317.length : Int) x24_1 t326 (t326.length : Int) x43_2 (rd_L1 l0_3 (rd t326 x43_2)) ((rd_L1 l0_3 (rd t326 x43_2)).length : Int) x53_3 a0_0 a0_1 l0_2 l0_3 = some r) ∧ Aside0 (kq ≤ k2) ∧ Aside0 (Kd.R Kd.bool 4 w' w.heap.size (fun _ => True) (.slice (some ad324) t314.length co18) t314) ∧ Aside0 (Kd.R (Kd.int .i64) 3 w' w.heap.size (fun k_ => some k_ ≠ ((.slice (some ad332) t326.length co26) : Value).ownBlock) (.slice (some ad323) t317.length co9) t317) ∧ Aside0 (Kd.R (Kd.int .i64) 3 w' w.heap.size (fun k_ => some k_ ≠ ((.slice (some ad323) t317.length co9) : Value).ownBlock) (.slice (some ad332) t326.length co26) t326) ∧ Aside0 (w'.heap[gb313]? = some (.cells #[.int .i64 a0_0, .int .i64 a0_1, (.slice A0_2 l0_2.length c0_2), (.slice (some ad333) l0_3.length c0_3)] 25 (0, 0))) ∧ Aside0 (w'.heap[gb325]? = some (.cells #[.int .i64 a0_0, .int .i64 (rd t317 x24_1), (.slice A0_2 l0_2.length c0_2), (.slice (some ad333) l0_3.length c0_3)] 25 (0, 0))) ∧ Aside0 (Below w.heap.size w w'))
     case atStart => exact ⟨(0), (by first | rfl | (simp; done) | (simp [*]; done)), H', ⟨Nat.le_refl _⟩, ⟨by (with_reducible repeat (first | apply Kd.R_alloc | apply Kd.R_drewN | apply Kd.R_drew)); exact HO_3.out⟩, ⟨by (with_reducible repeat (first | apply Kd.R_alloc | apply Kd.R_drewN | apply Kd.R_drew)); exact HO_22.out⟩, ⟨by (with_reducible repeat (first | apply Kd.R_alloc | apply Kd.R_drewN | apply Kd.R_drew)); exact HO_41.out⟩, ⟨by (with_reducible repeat (first | refine blk_drewN ?_ _ | refine blk_drew ?_ | refine blk_alloc ?_ _)); exact BK313.out⟩, ⟨by (with_reducible repeat (first | refine blk_drewN ?_ _ | refine blk_drew ?_ | refine blk_alloc ?_ _)); exact BK325.out⟩, ⟨by repeat (first | (with_reducible first | exact HB.out | apply below_alloc | apply pw_below_drewN | apply below_drew1 | refine below_set ?_ GE313.out | refine below_set ?_ GE325.out) | exact HB.out)⟩⟩
     case round =>
      clear H'
      try clear c1
      try clear q1
      try clear c2
      try clear p2
      try clear c3
      try clear p3
      try clear q3
      try clear hx3
      try clear c4
      try clear c5
      try clear p6
      try clear c10
      try clear c10b0
      try clear c11
      try clear c11b0
      try clear c12
      try clear c12b0
      try clear c13
      try clear c13b0
      try clear c14
      try clear c14b0
      try clear q15
      try clear c16
      try clear c21
      try clear c27
      try clear c27b0
      try clear c28
      try clear c28b0
      try clear c29
      try clear c29b0
      try clear c30
      try clear c30b0
      try clear c31
      try clear c31b0
      try clear c32
      try clear p32
      try clear q32
      try clear hx32
      try clear c33
      try clear p33
      try clear q33
      try clear hx33
      try clear hcz19_0
      try clear hcz19_1
      try clear hcz19_2
      try clear hcz19_3
      try clear hcz22_0
      try clear hcz22_1
      try clear hcz22_2
      try clear hcz22_3
      try clear hcz24_0
      try clear hcz24_1
      try clear hcz24_2
      try clear hcz24_3
      try clear hcz33_0
      try clear hcz33_1
      try clear hcz33_2
      try clear hcz33_3
      try clear hcz5_0
      try clear hcz5_1
      try clear hcz5_2
      try clear hcz5_3
      try clear hcz7_0
      try clear hcz7_1
      try clear hcz7_2
      try clear hcz7_3
      try clear hfz19_0
      try clear hfz19_1
      try clear hfz19_2
      try clear hfz19_3
      try clear hfz22_0
      try clear hfz22_1
      try clear hfz22_2
      try clear hfz22_3
      try clear hfz24_0
      try clear hfz24_1
      try clear hfz24_2
      try clear hfz24_3
      try clear hfz33_0
      try clear hfz33_1
      try clear hfz33_2
      try clear hfz33_3
      try clear hfz5_0
      try clear hfz5_1
      try clear hfz5_2
      try clear hfz5_3
      try clear hfz7_0
      try clear hfz7_1
      try clear hfz7_2
      try clear hfz7_3
      try clear hx323_0
      try clear hx324_0
      try clear hx332_0
      try clear hx333_0
      try clear p2
      try clear p3
      try clear p323
      try clear p324
      try clear p332
      try clear p333
      try clear p6
      try clear q1
      try clear q15
      try clear q3
      try clear q323
      try clear q324
      try clear q332
      try clear q333
      obtain ⟨x53_3, rfl, HA, HK3, HO_3, HO_22, HO_41, BK313, BK325, HB⟩ := hrel
      cases gk with
      | zero => exact absurd HA.out (by simp [semigroupref07_Infinite.l2])
      | succ k3 =>
       have H := HA.out
       clear HA
       simp only [semigroupref07_Infinite.l2] at H
       by_cases c34 : x53_3 < ((rd_L1 l0_3 (rd t326 x43_2)).length : Int)
       (focus
       rw [if_pos c34] at H
       have c34b0 : decide (x53_3 < ((rd_L1 l0_3 (rd t326 x43_2)).length : Int)) = true := decide_eq_true c34
       clear c34
       by_cases c35 : 0 ≤ x53_3
       (focus
       rw [if_pos c35] at H
       have c35b0 : decide (0 ≤ x53_3) = true := decide_eq_true c35
       clear c35
       by_cases c36 : x53_3 < ((rd_L1 l0_3 (rd t326 x43_2)).length : Int)
       (focus
       rw [if_pos c36] at H
       have c36b0 : decide (x53_3 < ((rd_L1 l0_3 (rd t326 x43_2)).length : Int)) = true := decide_eq_true c36
       clear c36
       by_cases c37 : (rd (rd_L1 l0_3 (rd t326 x43_2)) x53_3) = (rd t317 x24_1)
       (focus
       rw [if_pos c37] at H
       have c37b0 : ((rd (rd_L1 l0_3 (rd t326 x43_2)) x53_3) == (rd t317 x24_1)) = true := beq_iff_eq.mpr c37
       have c37b1 : ((rd (rd_L1 l0_3 (rd t326 x43_2)) x53_3) != (rd t317 x24_1)) = false := bne_eq_false_iff_eq.mpr c37
       clear c37
       by_cases c38 : 0 ≤ (rd t326 x43_2)
       (focus
       rw [if_pos c38] at H
       have c38b0 : decide (0 ≤ (rd t326 x43_2)) = true := decide_eq_true c38
       clear c38
       by_cases c39 : (rd t326 x43_2) < (t314.length : Int)
       (focus
       rw [if_pos c39] at H
       have c39b0 : decide ((rd t326 x43_2) < (t314.length : Int)) = true := decide_eq_true c39
       clear c39
       obtain ⟨bq40, hbq40⟩ : ∃ b_ : Bool, b_ = (rdOf false t314 (rd t326 x43_2)) := ⟨_, rfl⟩
       replace H : (if bq40 = true then (some true) else (semigroupref07_Infinite.l2 k3 t314 (rd t317 x24_1) (rd t326 x43_2) t317 (t317.length : Int) x24_1 t326 (t326.length : Int) x43_2 (rd_L1 l0_3 (rd t326 x43_2)) ((rd_L1 l0_3 (rd t326 x43_2)).length : Int) (wrap64 (x53_3 + 1)) a0_0 a0_1 l0_2 l0_3)) = some r := by rw [← hbq40] at H; exact H
       have Nbq40 := Aside0.mk hbq40
       clear hbq40
       by_cases c41 : bq40 = true
       (focus
       subst c41
       have H1 : (some true) = some r := by rw [if_pos rfl] at H; exact H
       clear H
       have H := H1
       clear H1
       obtain rfl := Option.some.inj H
       have p334 : 0 ≤ (x53_3 : Int) := of_decide_eq_true (by first | (with_reducible assumption) | assumption)
       have q334 : x53_3 < ((rd_L1 l0_3 (rd t326 x43_2)).length : Int) := of_decide_eq_true (by first | (with_reducible assumption) | assumption)
       obtain ⟨ad334, e334, hx334_0⟩ := Kd.at_int HR333_0.out x53_3 p334 q334
       cases e334
       (try replace hx334_0 := (HB.out.cell (World.block_lt_of_cell? w _ hx334_0)).trans hx334_0)
       replace p334 := eq_true p334
       replace q334 := eq_true q334
       have p335 : 0 ≤ ((rd t326 x43_2) : Int) := of_decide_eq_true (by first | (with_reducible assumption) | assumption)
       have q335 : (rd t326 x43_2) < (t314.length : Int) := of_decide_eq_true (by first | (with_reducible assumption) | assumption)
       obtain ⟨ad335, e335, hx335_0⟩ := Kd.at_bool (Kd.R_reads' HO_3.out).2.2 (rd t326 x43_2) p335 q335
       (try rw [← Nbq15.out] at hx335_0)
       (try rw [← Nbq40.out] at hx335_0)
       obtain rfl : ad324 = ad335 := (by injection e335)
       replace p335 := eq_true p335
       replace q335 := eq_true q335
       go_wp2
       go_ret
       exact ⟨by first | rfl | (simp [errW_none, errW_some] <;> rfl) | (simp [*, errW_none, errW_some] <;> rfl), by repeat (first | (with_reducible first | exact HB.out | apply below_alloc | apply pw_below_drewN | apply below_drew1 | refine below_set ?_ GE313.out | refine below_set ?_ GE325.out) | exact HB.out)⟩
       )
       (focus
       replace c41 := Bool.eq_false_iff.mpr c41
       subst c41
       have H1 : (semigroupref07_Infinite.l2 k3 t314 (rd t317 x24_1) (rd t326 x43_2) t317 (t317.length : Int) x24_1 t326 (t326.length : Int) x43_2 (rd_L1 l0_3 (rd t326 x43_2)) ((rd_L1 l0_3 (rd t326 x43_2)).length : Int) (wrap64 (x53_3 + 1)) a0_0 a0_1 l0_2 l0_3) = some r := by rw [if_neg (show ¬ (false = true) by decide)] at H; exact H
       clear H
       have H := H1
       clear H1
       have H' := Aside0.mk H
       clear H
       have p334 : 0 ≤ (x53_3 : Int) := of_decide_eq_true (by first | (with_reducible assumption) | assumption)
       have q334 : x53_3 < ((rd_L1 l0_3 (rd t326 x43_2)).length : Int) := of_decide_eq_true (by first | (with_reducible assumption) | assumption)
       obtain ⟨ad334, e334, hx334_0⟩ := Kd.at_int HR333_0.out x53_3 p334 q334
       cases e334
       (try replace hx334_0 := (HB.out.cell (World.block_lt_of_cell? w _ hx334_0)).trans hx334_0)
       replace p334 := eq_true p334
       replace q334 := eq_true q334
       have p335 : 0 ≤ ((rd t326 x43_2) : Int) := of_decide_eq_true (by first | (with_reducible assumption) | assumption)
       have q335 : (rd t326 x43_2) < (t314.length : Int) := of_decide_eq_true (by first | (with_reducible assumption) | assumption)
       obtain ⟨ad335, e335, hx335_0⟩ := Kd.at_bool (Kd.R_reads' HO_3.out).2.2 (rd t326 x43_2) p335 q335
       (try rw [← Nbq15.out] at hx335_0)
       (try rw [← Nbq40.out] at hx335_0)
       obtain rfl : ad324 = ad335 := (by injection e335)
       replace p335 := eq_true p335
       replace q335 := eq_true q335
       go_wp2
       go_roundg k3
       case measure => have := HK1.out; have := HK2.out; have := HK3.out; omega
       case rel => exact ⟨(wrap64 (x53_3 + 1)), (by first | rfl | (simp; done) | (simp [*]; done)), H', ⟨by have := HK1.out; have := HK2.out; have := HK3.out; omega⟩, ⟨by (with_reducible repeat (first | apply Kd.R_alloc | apply Kd.R_drewN | apply Kd.R_drew)); exact HO_3.out⟩, ⟨by (with_reducible repeat (first | apply Kd.R_alloc | apply Kd.R_drewN | apply Kd.R_drew)); exact HO_22.out⟩, ⟨by (with_reducible repeat (first | apply Kd.R_alloc | apply Kd.R_drewN | apply Kd.R_drew)); exact HO_41.out⟩, ⟨by (with_reducible repeat (first | refine blk_drewN ?_ _ | refine blk_drew ?_ | refine blk_alloc ?_ _)); exact BK313.out⟩, ⟨by (with_reducible repeat (first | refine blk_drewN ?_ _ | refine blk_drew ?_ | refine blk_alloc ?_ _)); exact BK325.out⟩, ⟨by repeat (first | (with_reducible first | exact HB.out | apply below_alloc | apply pw_below_drewN | apply below_drew1 | refine below_set ?_ GE313.out | refine below_set ?_ GE325.out) | exact HB.out)⟩⟩
       )
       )
       (focus
       rw [if_neg c39] at H
       exact absurd H (by simp)
       )
       )
       (focus
       rw [if_neg c38] at H
       exact absurd H (by simp)
       )
       )
       (focus
       rw [if_neg c37] at H
       have c37b0 : ((rd (rd_L1 l0_3 (rd t326 x43_2)) x53_3) == (rd t317 x24_1)) = false := beq_eq_false_iff_ne.mpr c37
       have c37b1 : ((rd (rd_L1 l0_3 (rd t326 x43_2)) x53_3) != (rd t317 x24_1)) = true := bne_iff_ne.mpr c37
       have H' := Aside0.mk H
       clear H
       have p334 : 0 ≤ (x53_3 : Int) := of_decide_eq_true (by first | (with_reducible assumption) | assumption)
       have q334 : x53_3 < ((rd_L1 l0_3 (rd t326 x43_2)).length : Int) := of_decide_eq_true (by first | (with_reducible assumption) | assumption)
       obtain ⟨ad334, e334, hx334_0⟩ := Kd.at_int HR333_0.out x53_3 p334 q334
       cases e334
       (try replace hx334_0 := (HB.out.cell (World.block_lt_of_cell? w _ hx334_0)).trans hx334_0)
       replace p334 := eq_true p334
       replace q334 := eq_true q334
       go_wp2
       go_roundg k3
       case measure => have := HK1.out; have := HK2.out; have := HK3.out; omega
       case rel => exact ⟨(wrap64 (x53_3 + 1)), (by first | rfl | (simp; done) | (simp [*]; done)), H', ⟨by have := HK1.out; have := HK2.out; have := HK3.out; omega⟩, ⟨by (with_reducible repeat (first | apply Kd.R_alloc | apply Kd.R_drewN | apply Kd.R_drew)); exact HO_3.out⟩, ⟨by (with_reducible repeat (first | apply Kd.R_alloc | apply Kd.R_drewN | apply Kd.R_drew)); exact HO_22.out⟩, ⟨by (with_reducible repeat (first | apply Kd.R_alloc | apply Kd.R_drewN | apply Kd.R_drew)); exact HO_41.out⟩, ⟨by (with_reducible repeat (first | refine blk_drewN ?_ _ | refine blk_drew ?_ | refine blk_alloc ?_ _)); exact BK313.out⟩, ⟨by (with_reducible repeat (first | refine blk_drewN ?_ _ | refine blk_drew ?_ | refine blk_alloc ?_ _)); exact BK325.out⟩, ⟨by repeat (first | (with_reducible first | exact HB.out | apply below_alloc | apply pw_below_drewN | apply below_drew1 | refine below_set ?_ GE313.out | refine below_set ?_ GE325.out) | exact HB.out)⟩⟩
       )
       )
       (focus
       rw [if_neg c36] at H
       exact absurd H (by simp)
       )
       )
       (focus
       rw [if_neg c35] at H
       exact absurd H (by simp)
       )
       )
       (focus
       rw [if_neg c34] at H
       have c34b0 : decide (x53_3 < ((rd_L1 l0_3 (rd t326 x43_2)).length : Int)) = false := decide_eq_false c34
       clear c34
       have H' := Aside0.mk H
       clear H
       go_wp2
       go_roundg k3
       case measure => have := HK1.out; have := HK2.out; have := HK3.out; omega
       case rel => exact ⟨(wrap64 (x43_2 + 1)), (by first | rfl | (simp; done) | (simp [*]; done)), H', ⟨by have := HK1.out; have := HK2.out; have := HK3.out; omega⟩, ⟨by (with_reducible repeat (first | apply Kd.R_alloc | apply Kd.R_drewN | apply Kd.R_drew)); exact HO_3.out⟩, ⟨by (with_reducible repeat (first | apply Kd.R_alloc | apply Kd.R_drewN | apply Kd.R_drew)); exact HO_22.out⟩, ⟨by (with_reducible repeat (first | apply Kd.R_alloc | apply Kd.R_drewN | apply Kd.R_drew)); exact HO_41.out⟩, ⟨by (with_reducible repeat (first | refine blk_drewN ?_ _ | refine blk_drew ?_ | refine blk_alloc ?_ _)); exact BK313.out⟩, ⟨by (with_reducible repeat (first | refine blk_drewN ?_ _ | refine blk_drew ?_ | refine blk_alloc ?_ _)); exact BK325.out⟩, ⟨by repeat (first | (with_reducible first | exact HB.out | apply below_alloc | apply pw_below_drewN | apply below_drew1 | refine below_set ?_ GE313.out | refine below_set ?_ GE325.out) | exact HB.out)⟩⟩
       )
     )
     (focus
     rw [if_neg c31] at H
     exact absurd H (by simp)
     )
     )
     (focus
     rw [if_neg c30] at H
     exact absurd H (by simp)
     )
     )
     (focus
     rw [if_neg c29] at H
     exact absurd H (by simp)
     )
     )
     (focus
     rw [if_neg c28] at H
     exact absurd H (by simp)
     )
     )
     (focus
     rw [if_neg c27] at H
     have c27b0 : decide (x43_2 < (t326.length : Int)) = false := decide_eq_false c27
     clear c27
     have H' := Aside0.mk H
     clear H
     go_wp2
     go_roundg k2
     case measure => have := HK1.out; have := HK2.out; omega
     case rel => exact ⟨(wrap64 (x24_1 + 1)), (by first | rfl | (simp; done) | (simp [*]; done)), H', ⟨by have := HK1.out; have := HK2.out; omega⟩, ⟨by (with_reducible repeat (first | apply Kd.R_alloc | apply Kd.R_drewN | apply Kd.R_drew)); exact HO_3.out⟩, ⟨by (with_reducible repeat (first | apply Kd.R_alloc | apply Kd.R_drewN | apply Kd.R_drew)); exact Kd.R_mono HO_22.out (fun _ hk => trivial)⟩, ⟨by (with_reducible repeat (first | refine blk_drewN ?_ _ | refine blk_drew ?_ | refine blk_alloc ?_ _)); exact BK313.out⟩, ⟨by repeat (first | (with_reducible first | exact HB.out | apply below_alloc | apply pw_below_drewN | apply below_drew1 | refine below_set ?_ GE313.out | refine below_set ?_ GE325.out) | exact HB.out)⟩⟩
     )
   )
   (focus
   replace c16 := Bool.eq_false_iff.mpr c16
   subst c16
   have H1 : (semigroupref07_Infinite.l0 k1 t314 t317 (t317.length : Int) (wrap64 (x24_1 + 1)) a0_0 a0_1 l0_2 l0_3) = some r := by rw [if_neg (show ¬ (false = true) by decide)] at H; exact H
   clear H
   have H := H1
   clear H1
   have H' := Aside0.mk H
   clear H
   have p323 : 0 ≤ (x24_1 : Int) := of_decide_eq_true (by first | (with_reducible assumption) | assumption)
   have q323 : x24_1 < (t317.length : Int) := of_decide_eq_true (by first | (with_reducible assumption) | assumption)
   obtain ⟨ad323, e323, hx323_0⟩ := Kd.at_int (Kd.R_reads' HO_22.out).2.2 x24_1 p323 q323
   cases e323
   replace p323 := eq_true p323
   replace q323 := eq_true q323
   obtain ⟨Ao42, co42, eo42⟩ := Kd.R_slice HO_3.out
   subst eo42
   have p324 : 0 ≤ ((rd t317 x24_1) : Int) := of_decide_eq_true (by first | (with_reducible assumption) | assumption)
   have q324 : (rd t317 x24_1) < (t314.length : Int) := of_decide_eq_true (by first | (with_reducible assumption) | assumption)
   obtain ⟨ad324, e324, hx324_0⟩ := Kd.at_bool (Kd.R_reads' HO_3.out).2.2 (rd t317 x24_1) p324 q324
   (try rw [← Nbq15.out] at hx324_0)
   cases e324
   replace p324 := eq_true p324
   replace q324 := eq_true q324
   go_wp2
   go_roundg k1
   case measure => have := HK1.out; omega
   case rel => exact ⟨(wrap64 (x24_1 + 1)), (by first | rfl | (simp; done) | (simp [*]; done)), H', ⟨by have := HK1.out; omega⟩, ⟨by (with_reducible repeat (first | apply Kd.R_alloc | apply Kd.R_drewN | apply Kd.R_drew)); exact HO_3.out⟩, ⟨by (with_reducible repeat (first | apply Kd.R_alloc | apply Kd.R_drewN | apply Kd.R_drew)); exact HO_22.out⟩, ⟨by (with_reducible repeat (first | refine blk_drewN ?_ _ | refine blk_drew ?_ | refine blk_alloc ?_ _)); exact BK313.out⟩, ⟨by repeat (first | (with_reducible first | exact HB.out | apply below_alloc | apply pw_below_drewN | apply below_drew1 | refine below_set ?_ GE313.out) | exact HB.out)⟩⟩
   )
   )
   (focus
   rw [if_neg c14] at H
   exact absurd H (by simp)
   )
   )
   (focus
   rw [if_neg c13] at H
   exact absurd H (by simp)
   )
   )
   (focus
   rw [if_neg c12] at H
   exact absurd H (by simp)
   )
   )
   (focus
   rw [if_neg c11] at H
   exact absurd H (by simp)
   )
   )
   (focus
   rw [if_neg c10] at H
   have c10b0 : decide (x24_1 < (t317.length : Int)) = false := decide_eq_false c10
   clear c10
   obtain rfl := Option.some.inj H
   go_wp2
   go_ret
   exact ⟨by first | rfl | (simp [errW_none, errW_some] <;> rfl) | (simp [*, errW_none, errW_some] <;> rfl), by repeat (first | (with_reducible first | exact HB.out | apply below_alloc | apply pw_below_drewN | apply below_drew1 | refine below_set ?_ GE313.out) | exact HB.out)⟩
   )
end Go.Proofs.Ytpjbmgoagehjkaa.PDfaInfinite
