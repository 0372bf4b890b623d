import Derived.Test.YtpjbmgoagehjkaaZDfaInfinitex0
namespace Go.Proofs.Ytpjbmgoagehjkaa.PDfaInfinite
open Go.RowKit Go.Proofs.YtpjbmgoagehjkaaH Go.Proofs.YtpjbmgoagehjkaaW.PrintWords Go.Proofs.YtpjbmgoagehjkaaW.PrintLast Go.Proofs.YtpjbmgoagehjkaaW.PrintMore
attribute [local go_sem] max2_int min2_int max_two min_two max_three min_three max_four min_four   -- for this text's walks alone
set_option linter.unusedVariables false
set_option linter.unusedSimpArgs false
/-! ### semigroupref07_Live: function 53 -/
mutual
def semigroupref07_Live.l0 : Nat → List Bool → Int → Int → Int → Int → List Bool → List (List Int) → Option (List Bool)
 | 0, _, _, _, _, _, _, _ => none
 | k + 1, x3, x13, x14, x301000, x301001, x301002, x301003 => if x14 < x13 then (semigroupref07_Live.l1 k x3 x13 x14 (x3.length : Int) 0 x301000 x301001 x301002 x301003) else (some x3)
def semigroupref07_Live.l1 : Nat → List Bool → Int → Int → Int → Int → Int → Int → List Bool → List (List Int) → Option (List Bool)
 | 0, _, _, _, _, _, _, _, _, _ => none
 | k + 1, x3, x13, x14, x19, x20, x301000, x301001, x301002, x301003 => if x20 < x19 then (if 0 ≤ x20 then (if x20 < (x301003.length : Int) then (semigroupref07_Live.l2 k x3 x20 x13 x14 x19 x20 (rd_L1 x301003 x20) ((rd_L1 x301003 x20).length : Int) 0 x301000 x301001 x301002 x301003) else (none)) else (none)) else (semigroupref07_Live.l0 k x3 x13 (wrap64 (x14 + 1)) x301000 x301001 x301002 x301003)
def semigroupref07_Live.l2 : Nat → List Bool → Int → Int → Int → Int → Int → List Int → Int → Int → Int → Int → List Bool → List (List Int) → Option (List Bool)
 | 0, _, _, _, _, _, _, _, _, _, _, _, _, _ => none
 | k + 1, x3, x5, x13, x14, x19, x20, x27, x28, x29, x301000, x301001, x301002, x301003 => if x29 < x28 then (if 0 ≤ x29 then (if x29 < (x27.length : Int) then (if 0 ≤ x5 then (if x5 < (x3.length : Int) then (if rdOf false x3 x5 = true then (semigroupref07_Live.l2 k (x3.set (x5 : Int).toNat true) x5 x13 x14 x19 x20 x27 x28 (wrap64 (x29 + 1)) x301000 x301001 x301002 x301003) else (if 0 ≤ (rd x27 x29) then (if (rd x27 x29) < (x3.length : Int) then (semigroupref07_Live.l2 k (x3.set (x5 : Int).toNat (rdOf false x3 (rd x27 x29))) x5 x13 x14 x19 x20 x27 x28 (wrap64 (x29 + 1)) x301000 x301001 x301002 x301003) else (none)) else (none))) else (none)) else (none)) else (none)) else (none)) else (semigroupref07_Live.l1 k x3 x13 x14 x19 (wrap64 (x20 + 1)) x301000 x301001 x301002 x301003)
end
def semigroupref07_Live.f (k : Nat) (a0_0 : Int) (a0_1 : Int) (l0_2 : List Bool) (l0_3 : List (List Int)) : Option (List Bool) := (some (([] : List Bool) : List Bool)).bind fun y301 => (if y301.length + l0_2.length < 140737488355328 then ((some (y301 ++ l0_2 : List Bool)).bind fun y304 => (semigroupref07_Live.l0 k y304 (y304.length : Int) 0 a0_0 a0_1 l0_2 l0_3)) else (none))
theorem semigroupref07_Live.mono_l : ∀ k, (∀ y0 y1 y2 y3 y4 y5 y6, LeO (semigroupref07_Live.l0 k y0 y1 y2 y3 y4 y5 y6) (semigroupref07_Live.l0 (k + 1) y0 y1 y2 y3 y4 y5 y6)) ∧ (∀ y0 y1 y2 y3 y4 y5 y6 y7 y8, LeO (semigroupref07_Live.l1 k y0 y1 y2 y3 y4 y5 y6 y7 y8) (semigroupref07_Live.l1 (k + 1) y0 y1 y2 y3 y4 y5 y6 y7 y8)) ∧ (∀ y0 y1 y2 y3 y4 y5 y6 y7 y8 y9 y10 y11 y12, LeO (semigroupref07_Live.l2 k y0 y1 y2 y3 y4 y5 y6 y7 y8 y9 y10 y11 y12) (semigroupref07_Live.l2 (k + 1) y0 y1 y2 y3 y4 y5 y6 y7 y8 y9 y10 y11 y12))
 | 0 => ⟨fun _ _ _ _ _ _ _ r h => by simp [semigroupref07_Live.l0] at h, fun _ _ _ _ _ _ _ _ _ r h => by simp [semigroupref07_Live.l1] at h, fun _ _ _ _ _ _ _ _ _ _ _ _ _ r h => by simp [semigroupref07_Live.l2] at h⟩
 | k + 1 => by
  obtain ⟨ih0, ih1, ih2⟩ := semigroupref07_Live.mono_l k
  refine ⟨?_, ?_, ?_⟩
  (focus
  intro y0 y1 y2 y3 y4 y5 y6
  unfold semigroupref07_Live.l0
  repeat' first
  | (with_reducible exact ih0 _ _ _ _ _ _ _)
  | (with_reducible exact ih1 _ _ _ _ _ _ _ _ _)
  | (with_reducible exact ih2 _ _ _ _ _ _ _ _ _ _ _ _ _)
  | (with_reducible exact LeO.refl _)
  | (with_reducible exact LeO.none _)
  | (with_reducible refine LeO.ite ?_ ?_)
  | (with_reducible refine LeO.bind ?_ (fun _ => ?_))
  | exact ih0 _ _ _ _ _ _ _
  | exact ih1 _ _ _ _ _ _ _ _ _
  | exact ih2 _ _ _ _ _ _ _ _ _ _ _ _ _
  | exact LeO.none _
  | refine LeO.ite ?_ ?_
  | refine LeO.bind ?_ (fun _ => ?_)
  )
  (focus
  intro y0 y1 y2 y3 y4 y5 y6 y7 y8
  unfold semigroupref07_Live.l1
  repeat' first
  | (with_reducible exact ih0 _ _ _ _ _ _ _)
  | (with_reducible exact ih1 _ _ _ _ _ _ _ _ _)
  | (with_reducible exact ih2 _ _ _ _ _ _ _ _ _ _ _ _ _)
  | (with_reducible exact LeO.refl _)
  | (with_reducible exact LeO.none _)
  | (with_reducible refine LeO.ite ?_ ?_)
  | (with_reducible refine LeO.bind ?_ (fun _ => ?_))
  | exact ih0 _ _ _ _ _ _ _
  | exact ih1 _ _ _ _ _ _ _ _ _
  | exact ih2 _ _ _ _ _ _ _ _ _ _ _ _ _
  | exact LeO.none _
  | refine LeO.ite ?_ ?_
  | refine LeO.bind ?_ (fun _ => ?_)
  )
  (focus
  intro y0 y1 y2 y3 y4 y5 y6 y7 y8 y9 y10 y11 y12
  unfold semigroupref07_Live.l2
  repeat' first
  | (with_reducible exact ih0 _ _ _ _ _ _ _)
  | (with_reducible exact ih1 _ _ _ _ _ _ _ _ _)
  | (with_reducible exact ih2 _ _ _ _ _ _ _ _ _ _ _ _ _)
  | (with_reducible exact LeO.refl _)
  | (with_reducible exact LeO.none _)
  | (with_reducible refine LeO.ite ?_ ?_)
  | (with_reducible refine LeO.bind ?_ (fun _ => ?_))
  | exact ih0 _ _ _ _ _ _ _
  | exact ih1 _ _ _ _ _ _ _ _ _
  | exact ih2 _ _ _ _ _ _ _ _ _ _ _ _ _
  | exact LeO.none _
  | refine LeO.ite ?_ ?_
  | refine LeO.bind ?_ (fun _ => ?_)
  )
theorem semigroupref07_Live.mono : ∀ a0 a1 a2 a3 k, LeO (semigroupref07_Live.f k a0 a1 a2 a3) (semigroupref07_Live.f (k + 1) a0 a1 a2 a3) := by
 intro a0 a1 a2 a3 k
 obtain ⟨ih0, ih1, ih2⟩ := semigroupref07_Live.mono_l k
 unfold semigroupref07_Live.f
 repeat' first
  | (with_reducible exact ih0 _ _ _ _ _ _ _)
  | (with_reducible exact ih1 _ _ _ _ _ _ _ _ _)
  | (with_reducible exact ih2 _ _ _ _ _ _ _ _ _ _ _ _ _)
  | (with_reducible exact LeO.refl _)
  | (with_reducible exact LeO.none _)
  | (with_reducible refine LeO.ite ?_ ?_)
  | (with_reducible refine LeO.bind ?_ (fun _ => ?_))
  | exact ih0 _ _ _ _ _ _ _
  | exact ih1 _ _ _ _ _ _ _ _ _
  | exact ih2 _ _ _ _ _ _ _ _ _ _ _ _ _
  | exact LeO.none _
  | refine LeO.ite ?_ ?_
  | refine LeO.bind ?_ (fun _ => ?_)
set_option maxHeartbeats 8000000 in
set_option maxRecDepth 100000 in
theorem semigroupref07_Live.calls (k : Nat) (a0_0 : Int) (a0_1 : Int) (A0_2 : Option Addr) (c0_2 : Nat) (l0_2 : List Bool) (A0_3 : Option Addr) (c0_3 : Nat) (l0_3 : List (List Int)) (r : List Bool) (w : World) (hr0_2 : Kd.C Kd.bool w A0_2 l0_2.length l0_2) (hc0_2 : l0_2.length ≤ c0_2) (hr0_3 : Kd.C (Kd.slice 3 (Kd.int .i64)) w A0_3 l0_3.length l0_3) (hc0_3 : l0_3.length ≤ c0_3) (h : semigroupref07_Live.f k a0_0 a0_1 l0_2 l0_3 = some r) :
 Calls Try.prog 53 #[.agg #[.int .i64 a0_0, .int .i64 a0_1, .slice A0_2 l0_2.length c0_2, .slice A0_3 l0_3.length c0_3]] w fun e w' => ∃ v0_ : Value, e = .returned (v0_) ∧ Kd.R Kd.bool 4 w' w.heap.size (fun _ => True) v0_ r ∧ Below w.heap.size w w' := by
 have hu25 := Try.underlying25
 have HR0_2 := Aside0.mk hr0_2
 have HC0_2 := Aside0.mk hc0_2
 clear hr0_2 hc0_2
 have HR0_3 := Aside0.mk hr0_3
 have HC0_3 := Aside0.mk hc0_3
 clear hr0_3 hc0_3
 have HB := Aside0.mk (Below.refl w.heap.size w)
 have H : ((some (([] : List Bool) : List Bool)).bind fun y301 => (if y301.length + l0_2.length < 140737488355328 then ((some (y301 ++ l0_2 : List Bool)).bind fun y304 => (semigroupref07_Live.l0 k y304 (y304.length : Int) 0 a0_0 a0_1 l0_2 l0_3)) else (none))) = some r := h
 clear h
 obtain ⟨y301, hy301⟩ : ∃ y_ : List Bool, y_ = (([] : List Bool)) := ⟨_, rfl⟩
 replace H : (if y301.length + l0_2.length < 140737488355328 then ((some (y301 ++ l0_2 : List Bool)).bind fun y304 => (semigroupref07_Live.l0 k y304 (y304.length : Int) 0 a0_0 a0_1 l0_2 l0_3)) else (none)) = some r := by first | (rw [hy301]; with_reducible exact H) | (have H2_ := (Option.bind_some _ _).symm.trans H; rw [hy301]; with_reducible exact H2_) | (have H2_ := (Option.bind_some _ _).symm.trans H; with_reducible exact H2_) | with_reducible exact H | (rw [hy301]; exact H) | exact H
 have Ny301 := Aside0.mk hy301
 clear hy301
 by_cases c2 : y301.length + l0_2.length < 140737488355328
 (focus
 rw [if_pos c2] at H
 have LMc2 := Aside0.mk c2
 clear c2
 obtain ⟨y304, hy304⟩ : ∃ y_ : List Bool, y_ = (y301 ++ l0_2) := ⟨_, rfl⟩
 replace H : (semigroupref07_Live.l0 k y304 (y304.length : Int) 0 a0_0 a0_1 l0_2 l0_3) = some r := by first | (rw [hy304]; with_reducible exact H) | (have H2_ := (Option.bind_some _ _).symm.trans H; rw [hy304]; with_reducible exact H2_) | (have H2_ := (Option.bind_some _ _).symm.trans H; with_reducible exact H2_) | with_reducible exact H | (rw [hy304]; exact H) | exact H
 have Ny304 := Aside0.mk hy304
 clear hy304
 have H' := Aside0.mk H
 clear H
 go_enter Try.func53, Try.ntmps53
 go_wp2_with (first | ((with_reducible refine gate_dst (N := 1) rfl ?_); refine box_event ?hg (N := 1) ?hd (cs := #[.int .i64 a0_0, .int .i64 a0_1, .slice A0_2 l0_2.length c0_2, .slice A0_3 l0_3.length c0_3]) (t := 25) ?hr ?_; (case hd => rfl); (case hg => rfl); (case hr => first | (go_simp; done) | (go_simp; rfl)); intro gb300 hg w3 hbox hb; have n0_ := Aside0.mk (below_step (by repeat (first | (with_reducible first | exact HB.out | apply below_alloc | apply pw_below_drewN | apply below_drew1) | exact HB.out)) hb); have n1_ := Aside0.mk (hbox); have n2_ := Aside0.mk ((by rw [hg]; exact (below_size (by repeat (first | (with_reducible first | exact HB.out | apply below_alloc | apply pw_below_drewN | apply below_drew1) | exact HB.out))) : w.heap.size ≤ gb300)); have n3_ := Aside0.mk ((by rw [hg]; exact (below_size (by repeat (first | (with_reducible first | exact HB.out | apply below_alloc | apply pw_below_drewN | apply below_drew1) | exact HB.out))) : w.heap.size ≤ gb300)); clear HB; have HB := n0_; have BK300 := n1_; have GW300 := n2_; have GE300 := n3_; clear n0_ n1_ n2_ n3_; clear hb hbox hg) | ((with_reducible refine gate_dst (N := 8) rfl ?_); refine Kd.R_lit Kd.bool _ 4 ?hg (N := 8) ?hd (xs := ([] : List Bool)) (inner := []) (ok := fun _ => True) (okp := fun _ => True) ?hr ?hp (fun _ hk => hk) trivial (Below.refl _ _) (Nat.le_refl _) (by simp) ?_; (case hd => rfl); (case hg => rfl); (case hr => first | (go_simp; done) | (go_simp; rfl)); (case hp => exact (Reps.none _ _)); intro v302 w4 ho5 hb hg_ hnew_; clear hg_ hnew_; (first | rw [← Ny301.out] at ho5 | (simp only [Int.reduceToNat] at ho5; rw [← Ny301.out] at ho5)); have n0_ := Aside0.mk (Kd.R_lower ho5 (below_size (by repeat (first | (with_reducible first | exact HB.out | apply below_alloc | apply pw_below_drewN | apply below_drew1 | refine below_set ?_ GE300.out) | exact HB.out)))); have n1_ := Aside0.mk (blk_below (g := gb300) (o := .cells #[.int .i64 a0_0, .int .i64 a0_1, .slice A0_2 l0_2.length c0_2, .slice A0_3 l0_3.length c0_3] 25 (0, 0)) (uB BK300.out) hb); have n2_ := Aside0.mk (below_step (by repeat (first | (with_reducible first | exact HB.out | apply below_alloc | apply pw_below_drewN | apply below_drew1 | refine below_set ?_ GE300.out) | exact HB.out)) hb); clear BK300; clear HB; have HO303 := n0_; have BK300 := n1_; have HB := n2_; clear n0_ n1_ n2_; clear hb ho5; have hcz6_0 : w4.cell? ⟨gb300, 0, none⟩ = some (.int .i64 a0_0) := (blk_cell BK300.out 0).trans rfl; have hcz6_1 : w4.cell? ⟨gb300, 1, none⟩ = some (.int .i64 a0_1) := (blk_cell BK300.out 1).trans rfl; have hcz6_2 : w4.cell? ⟨gb300, 2, none⟩ = some (.slice A0_2 l0_2.length c0_2) := (blk_cell BK300.out 2).trans rfl; have hcz6_3 : w4.cell? ⟨gb300, 3, none⟩ = some (.slice A0_3 l0_3.length c0_3) := (blk_cell BK300.out 3).trans rfl; have hfz6_0 := blk_frozen BK300.out 0; have hfz6_1 := blk_frozen BK300.out 1; have hfz6_2 := blk_frozen BK300.out 2; have hfz6_3 := blk_frozen BK300.out 3) | ((with_reducible refine gate_builtin (b := .append) (xs := #[.tmp 8, .tmp 10]) rfl ?_); at_builtin; refine Kd.R_append_rows Kd.bool (w0 := w) w.heap.size rfl (.tmp 8) (.tmp 10) 22 4 (.bool false) 1 rfl Try.underlying22 info4 rfl (by decide) (by omega) v302 y301 l0_2 _ _ _ (fun _ => True) (fun _ => False) rfl rfl ?aO ?aR (fun _ _ h => h) (fun _ h => h.elim) ?aF ?aB ?aS ?aL ?_; (case aR => repeat (first | exact (Kd.C_below HR0_2.out HB.out) | (with_reducible refine Kd.C_alloc ?_ _) | (with_reducible refine Kd.C_drewN ?_ _) | (with_reducible refine Kd.C_drew ?_))); (case aB => exact (by repeat (first | (with_reducible first | exact HB.out | apply below_alloc | apply pw_below_drewN | apply below_drew1 | refine below_set ?_ GE300.out) | exact HB.out))); (case aF => exact (fun _ _ => trivial)); (case aO => exact (uR HO303.out)); (case aS => exact (below_size (by repeat (first | (with_reducible first | exact HB.out | apply below_alloc | apply pw_below_drewN | apply below_drew1 | refine below_set ?_ GE300.out) | exact HB.out)))); (case aL => have := LMc2.out; omega); intro v305 w7 ho hb hg hat; rw [← Ny304.out] at ho; have n0_ := Aside0.mk (blk_grown (g := gb300) (o := .cells #[.int .i64 a0_0, .int .i64 a0_1, .slice A0_2 l0_2.length c0_2, .slice A0_3 l0_3.length c0_3] 25 (0, 0)) (uB BK300.out) hg (Kd.R_ne HO303.out BK300.out (by decide))); have n1_ := Aside0.mk (hb); have n2_ := Aside0.mk (ho); clear BK300; clear HB; clear HO303; have BK300 := n0_; have HB := n1_; have HO306 := n2_; clear n0_ n1_ n2_; clear ho hb hg hat; obtain ⟨Ao8, co8, eo8⟩ := Kd.R_slice HO306.out; subst eo8))
 go_loopg [14] k (fun kq v14 w' => ∃ (x3_1 : List Bool) (x14_1 : Int), v14 = .int .i64 x14_1 ∧ Aside0 (semigroupref07_Live.l0 kq x3_1 (y304.length : Int) x14_1 a0_0 a0_1 l0_2 l0_3 = some r) ∧ Aside0 (kq ≤ k) ∧ Aside0 (Kd.R Kd.bool 4 w' w.heap.size (fun _ => True) (.slice Ao8 y304.length co8) x3_1) ∧ Aside0 (w'.heap[gb300]? = some (.cells #[.int .i64 a0_0, .int .i64 a0_1, (.slice A0_2 l0_2.length c0_2), (.slice A0_3 l0_3.length c0_3)] 25 (0, 0))) ∧ Aside0 (Below w.heap.size w w'))
 case atStart => exact ⟨(y304), (0), (by first | rfl | (simp; done) | (simp [*]; done)), H', ⟨Nat.le_refl _⟩, ⟨by (with_reducible repeat (first | apply Kd.R_alloc | apply Kd.R_drewN | apply Kd.R_drew)); exact HO306.out⟩, ⟨by (with_reducible repeat (first | refine blk_drewN ?_ _ | refine blk_drew ?_ | refine blk_alloc ?_ _)); exact BK300.out⟩, ⟨by repeat (first | (with_reducible first | exact HB.out | apply below_alloc | apply pw_below_drewN | apply below_drew1 | refine below_set ?_ GE300.out) | exact HB.out)⟩⟩
 case round =>
  clear H'
  try clear c2
  try clear p2
  try clear c5
  try clear hcz6_0
  try clear hcz6_1
  try clear hcz6_2
  try clear hcz6_3
  try clear hfz6_0
  try clear hfz6_1
  try clear hfz6_2
  try clear hfz6_3
  obtain ⟨x3_1, x14_1, rfl, HA, HK1, HO_3, BK300, HB⟩ := hrel
  have hl3_1 := (Kd.R_reads' HO_3.out).1
  rw [hl3_1] at HO_3
  (try simp only [hl3_1])
  (try simp only [hl3_1] at BK300)
  cases gk with
  | zero => exact absurd HA.out (by simp [semigroupref07_Live.l0])
  | succ k1 =>
   have H := HA.out
   clear HA
   simp only [semigroupref07_Live.l0] at H
   by_cases c9 : x14_1 < (y304.length : Int)
   (focus
   rw [if_pos c9] at H
   have c9b0 : decide (x14_1 < (y304.length : Int)) = true := decide_eq_true c9
   (try (have c9b0_hl3_1 := c9b0; simp only [hl3_1] at c9b0_hl3_1))
   clear c9
   have H' := Aside0.mk H
   clear H
   go_wp2
   go_loopg [20] k1 (fun kq v20 w' => ∃ (x3_2 : List Bool) (x20_2 : Int), v20 = .int .i64 x20_2 ∧ Aside0 (semigroupref07_Live.l1 kq x3_2 (y304.length : Int) x14_1 (x3_1.length : Int) x20_2 a0_0 a0_1 l0_2 l0_3 = some r) ∧ Aside0 (kq ≤ k1) ∧ Aside0 (Kd.R Kd.bool 4 w' w.heap.size (fun _ => True) (.slice Ao8 x3_1.length co8) x3_2) ∧ Aside0 (w'.heap[gb300]? = some (.cells #[.int .i64 a0_0, .int .i64 a0_1, (.slice A0_2 l0_2.length c0_2), (.slice A0_3 l0_3.length c0_3)] 25 (0, 0))) ∧ Aside0 (Below w.heap.size w w'))
   case atStart => exact ⟨(x3_1), (0), (by first | rfl | (simp; done) | (simp [*]; done)), H', ⟨Nat.le_refl _⟩, ⟨by (try simp only [hl3_1]); (with_reducible repeat (first | apply Kd.R_alloc | apply Kd.R_drewN | apply Kd.R_drew)); exact HO_3.out⟩, ⟨by (try simp only [hl3_1]); (with_reducible repeat (first | refine blk_drewN ?_ _ | refine blk_drew ?_ | refine blk_alloc ?_ _)); exact BK300.out⟩, ⟨by repeat (first | (with_reducible first | exact HB.out | apply below_alloc | apply pw_below_drewN | apply below_drew1 | refine below_set ?_ GE300.out) | exact HB.out)⟩⟩
   case round =>
    clear H'
    try clear c2
    try clear p2
    try clear c5
    try clear c9
    try clear c9b0
    try clear hcz6_0
    try clear hcz6_1
    try clear hcz6_2
    try clear hcz6_3
    try clear hfz6_0
    try clear hfz6_1
    try clear hfz6_2
    try clear hfz6_3
    try clear p2
    obtain ⟨x3_2, x20_2, rfl, HA, HK2, HO_3, BK300, HB⟩ := hrel
    have hl3_2 := (Kd.R_reads' HO_3.out).1
    rw [hl3_2] at HO_3
    (try simp only [hl3_2])
    (try simp only [hl3_2] at BK300)
    cases gk with
    | zero => exact absurd HA.out (by simp [semigroupref07_Live.l1])
    | succ k2 =>
     have H := HA.out
     clear HA
     simp only [semigroupref07_Live.l1] at H
     by_cases c10 : x20_2 < (x3_1.length : Int)
     (focus
     rw [if_pos c10] at H
     have c10b0 : decide (x20_2 < (x3_1.length : Int)) = true := decide_eq_true c10
     (try (have c10b0_hl3_1 := c10b0; simp only [hl3_1] at c10b0_hl3_1))
     (try (have c10b0_hl3_2 := c10b0; simp only [hl3_2] at c10b0_hl3_2))
     clear c10
     by_cases c11 : 0 ≤ x20_2
     (focus
     rw [if_pos c11] at H
     have c11b0 : decide (0 ≤ x20_2) = true := decide_eq_true c11
     clear c11
     by_cases c12 : x20_2 < (l0_3.length : Int)
     (focus
     rw [if_pos c12] at H
     have c12b0 : decide (x20_2 < (l0_3.length : Int)) = true := decide_eq_true c12
     (try (have c12b0_hl3_1 := c12b0; simp only [hl3_1] at c12b0_hl3_1))
     (try (have c12b0_hl3_2 := c12b0; simp only [hl3_2] at c12b0_hl3_2))
     clear c12
     have H' := Aside0.mk H
     clear H
     have hcz13_0 : wr.cell? ⟨gb300, 0, none⟩ = some (.int .i64 a0_0) := (blk_cell BK300.out 0).trans rfl
     have hcz13_1 : wr.cell? ⟨gb300, 1, none⟩ = some (.int .i64 a0_1) := (blk_cell BK300.out 1).trans rfl
     have hcz13_2 : wr.cell? ⟨gb300, 2, none⟩ = some (.slice A0_2 l0_2.length c0_2) := (blk_cell BK300.out 2).trans rfl
     have hcz13_3 : wr.cell? ⟨gb300, 3, none⟩ = some (.slice A0_3 l0_3.length c0_3) := (blk_cell BK300.out 3).trans rfl
     have hfz13_0 := blk_frozen BK300.out 0
     have hfz13_1 := blk_frozen BK300.out 1
     have hfz13_2 := blk_frozen BK300.out 2
     have hfz13_3 := blk_frozen BK300.out 3
     have p307 : 0 ≤ (x20_2 : Int) := of_decide_eq_true (by first | (with_reducible assumption) | assumption)
     have q307 : x20_2 < (l0_3.length : Int) := of_decide_eq_true (by first | (with_reducible assumption) | assumption)
     obtain ⟨ad307, A307_0, c307_0, e307, hx307_0, hl307_0, hi307_0⟩ := at_L1 HR0_3.out x20_2 p307 q307
     cases e307
     (try replace hx307_0 := (HB.out.cell (World.block_lt_of_cell? w _ hx307_0)).trans hx307_0)
     have HR307_0 := Aside0.mk hi307_0
     have HC307_0 := Aside0.mk hl307_0
     clear hi307_0 hl307_0
     replace p307 := eq_true p307
     replace q307 := eq_true q307
     go_wp2
     go_loopg [29] k2 (fun kq v29 w' => ∃ (x3_3 : List Bool) (x29_3 : Int), v29 = .int .i64 x29_3 ∧ Aside0 (semigroupref07_Live.l2 kq x3_3 x20_2 (y304.length : Int) x14_1 (x3_1.length : Int) x20_2 (rd_L1 l0_3 x20_2) ((rd_L1 l0_3 x20_2).length : Int) x29_3 a0_0 a0_1 l0_2 l0_3 = some r) ∧ Aside0 (kq ≤ k2) ∧ Aside0 (Kd.R Kd.bool 4 w' w.heap.size (fun _ => True) (.slice Ao8 x3_2.length co8) x3_3) ∧ Aside0 (w'.heap[gb300]? = some (.cells #[.int .i64 a0_0, .int .i64 a0_1, (.slice A0_2 l0_2.length c0_2), (.slice (some ad307) l0_3.length c0_3)] 25 (0, 0))) ∧ Aside0 (Below w.heap.size w w'))
     case atStart => exact ⟨(x3_2), (0), (by first | rfl | (simp; done) | (simp [*]; done)), H', ⟨Nat.le_refl _⟩, ⟨by (try simp only [hl3_1]); (try simp only [hl3_2]); (with_reducible repeat (first | apply Kd.R_alloc | apply Kd.R_drewN | apply Kd.R_drew)); exact HO_3.out⟩, ⟨by (try simp only [hl3_1]); (try simp only [hl3_2]); (with_reducible repeat (first | refine blk_drewN ?_ _ | refine blk_drew ?_ | refine blk_alloc ?_ _)); exact BK300.out⟩, ⟨by repeat (first | (with_reducible first | exact HB.out | apply below_alloc | apply pw_below_drewN | apply below_drew1 | refine below_set ?_ GE300.out) | exact HB.out)⟩⟩
     case round =>
      clear H'
      try clear c1
      try clear c2
      try clear p2
      try clear c3
      try clear p3
      try clear q3
      try clear hx3
      try clear c5
      try clear c9
      try clear c9b0
      try clear c10
      try clear c10b0
      try clear c11
      try clear c11b0
      try clear c12
      try clear c12b0
      try clear hcz13_0
      try clear hcz13_1
      try clear hcz13_2
      try clear hcz13_3
      try clear hcz6_0
      try clear hcz6_1
      try clear hcz6_2
      try clear hcz6_3
      try clear hfz13_0
      try clear hfz13_1
      try clear hfz13_2
      try clear hfz13_3
      try clear hfz6_0
      try clear hfz6_1
      try clear hfz6_2
      try clear hfz6_3
      try clear hx307_0
      try clear p2
      try clear p307
      try clear q307
      obtain ⟨x3_3, x29_3, rfl, HA, HK3, HO_3, BK300, HB⟩ := hrel
      have hl3_3 := (Kd.R_reads' HO_3.out).1
      rw [hl3_3] at HO_3
      (try simp only [hl3_3])
      (try simp only [hl3_3] at BK300)
      cases gk with
      | zero => exact absurd HA.out (by simp [semigroupref07_Live.l2])
      | succ k3 =>
       have H := HA.out
       clear HA
       simp only [semigroupref07_Live.l2] at H
       by_cases c14 : x29_3 < ((rd_L1 l0_3 x20_2).length : Int)
       (focus
       rw [if_pos c14] at H
       have c14b0 : decide (x29_3 < ((rd_L1 l0_3 x20_2).length : Int)) = true := decide_eq_true c14
       (try (have c14b0_hl3_1 := c14b0; simp only [hl3_1] at c14b0_hl3_1))
       (try (have c14b0_hl3_2 := c14b0; simp only [hl3_2] at c14b0_hl3_2))
       (try (have c14b0_hl3_3 := c14b0; simp only [hl3_3] at c14b0_hl3_3))
       clear c14
       by_cases c15 : 0 ≤ x29_3
       (focus
       rw [if_pos c15] at H
       have c15b0 : decide (0 ≤ x29_3) = true := decide_eq_true c15
       clear c15
       by_cases c16 : x29_3 < ((rd_L1 l0_3 x20_2).length : Int)
       (focus
       rw [if_pos c16] at H
       have c16b0 : decide (x29_3 < ((rd_L1 l0_3 x20_2).length : Int)) = true := decide_eq_true c16
       (try (have c16b0_hl3_1 := c16b0; simp only [hl3_1] at c16b0_hl3_1))
       (try (have c16b0_hl3_2 := c16b0; simp only [hl3_2] at c16b0_hl3_2))
       (try (have c16b0_hl3_3 := c16b0; simp only [hl3_3] at c16b0_hl3_3))
       clear c16
       by_cases c17 : 0 ≤ x20_2
       (focus
       rw [if_pos c17] at H
       have c17b0 : decide (0 ≤ x20_2) = true := decide_eq_true c17
       clear c17
       by_cases c18 : x20_2 < (x3_3.length : Int)
       (focus
       rw [if_pos c18] at H
       have c18b0 : decide (x20_2 < (x3_3.length : Int)) = true := decide_eq_true c18
       (try (have c18b0_hl3_1 := c18b0; simp only [hl3_1] at c18b0_hl3_1))
       (try (have c18b0_hl3_2 := c18b0; simp only [hl3_2] at c18b0_hl3_2))
       (try (have c18b0_hl3_3 := c18b0; simp only [hl3_3] at c18b0_hl3_3))
       clear c18
       obtain ⟨bq19, hbq19⟩ : ∃ b_ : Bool, b_ = (rdOf false x3_3 x20_2) := ⟨_, rfl⟩
       replace H : (if bq19 = true then (semigroupref07_Live.l2 k3 (x3_3.set (x20_2 : Int).toNat true) x20_2 (y304.length : Int) x14_1 (x3_1.length : Int) x20_2 (rd_L1 l0_3 x20_2) ((rd_L1 l0_3 x20_2).length : Int) (wrap64 (x29_3 + 1)) a0_0 a0_1 l0_2 l0_3) else (if 0 ≤ (rd (rd_L1 l0_3 x20_2) x29_3) then (if (rd (rd_L1 l0_3 x20_2) x29_3) < (x3_3.length : Int) then (semigroupref07_Live.l2 k3 (x3_3.set (x20_2 : Int).toNat (rdOf false x3_3 (rd (rd_L1 l0_3 x20_2) x29_3))) x20_2 (y304.length : Int) x14_1 (x3_1.length : Int) x20_2 (rd_L1 l0_3 x20_2) ((rd_L1 l0_3 x20_2).length : Int) (wrap64 (x29_3 + 1)) a0_0 a0_1 l0_2 l0_3) else (none)) else (none))) = some r := by rw [← hbq19] at H; exact H
       have Nbq19 := Aside0.mk hbq19
       clear hbq19
       by_cases c20 : bq19 = true
       (focus
       subst c20
       have H1 : (semigroupref07_Live.l2 k3 (x3_3.set (x20_2 : Int).toNat true) x20_2 (y304.length : Int) x14_1 (x3_1.length : Int) x20_2 (rd_L1 l0_3 x20_2) ((rd_L1 l0_3 x20_2).length : Int) (wrap64 (x29_3 + 1)) a0_0 a0_1 l0_2 l0_3) = some r := by rw [if_pos rfl] at H; exact H
       clear H
       have H := H1
       clear H1
       obtain ⟨y310, hy310⟩ : ∃ y_ : List Bool, y_ = (x3_3.set (x20_2 : Int).toNat true) := ⟨_, rfl⟩
       replace H : (semigroupref07_Live.l2 k3 y310 x20_2 (y304.length : Int) x14_1 (x3_1.length : Int) x20_2 (rd_L1 l0_3 x20_2) ((rd_L1 l0_3 x20_2).length : Int) (wrap64 (x29_3 + 1)) a0_0 a0_1 l0_2 l0_3) = some r := by first | (rw [hy310]; with_reducible exact H) | (have H2_ := (Option.bind_some _ _).symm.trans H; rw [hy310]; with_reducible exact H2_) | (have H2_ := (Option.bind_some _ _).symm.trans H; with_reducible exact H2_) | with_reducible exact H | (rw [hy310]; exact H) | exact H
       have Ny310 := Aside0.mk hy310
       clear hy310
       have H' := Aside0.mk H
       clear H
       have p308 : 0 ≤ (x29_3 : Int) := of_decide_eq_true (by first | (with_reducible assumption) | assumption)
       have q308 : x29_3 < ((rd_L1 l0_3 x20_2).length : Int) := of_decide_eq_true (by first | (with_reducible assumption) | assumption)
       obtain ⟨ad308, e308, hx308_0⟩ := Kd.at_int HR307_0.out x29_3 p308 q308
       cases e308
       (try replace hx308_0 := (HB.out.cell (World.block_lt_of_cell? w _ hx308_0)).trans hx308_0)
       replace p308 := eq_true p308
       replace q308 := eq_true q308
       have p309 : 0 ≤ (x20_2 : Int) := of_decide_eq_true (by first | (with_reducible assumption) | assumption)
       have q309 : x20_2 < (x3_3.length : Int) := of_decide_eq_true (by first | (with_reducible assumption) | assumption)
       obtain ⟨ad309, e309, hx309_0⟩ := Kd.at_bool (Kd.R_reads' HO_3.out).2.2 x20_2 p309 q309
       (try rw [← Nbq19.out] at hx309_0)
       cases e309
       replace p309 := eq_true p309
       replace q309 := eq_true q309
       have p21 : 0 ≤ (x20_2 : Int) := of_decide_eq_true (by first | (with_reducible assumption) | assumption)
       have q21 : (x20_2 : Int) < ((x3_3.length : Int) : Int) := of_decide_eq_true (by first | (with_reducible assumption) | assumption)
       obtain ⟨go21, co21, eo21, gb21, gl21, cl21, HG21⟩ := Kd.R_form HO_3.out (by first | omega | (have e_ := (Kd.R_reads' HO_3.out).1; omega))
       (first | cases eo21 | (injection eo21 with ea_ en_ ec_; (first | subst ea_ | (injection ea_ with ea_; subst ea_)); subst ec_; clear en_))
       have GB21 := Aside0.mk gb21
       have GG21 := Aside0.mk HG21
       clear gb21 gl21 HG21
       (first | simp only [add_plain] at hx309_0 | skip)
       (try simp only [Int.toNat_natCast] at hx309_0)
       obtain ⟨hx21_0, hf21_0⟩ := Kd.R_celln false HO_3.out (x20_2 : Int) p21 q21
       replace p21 := eq_true p21
       replace q21 := eq_true q21
       have HP22 := Kd.R_putg HO_3.out (x20_2 : Int) true
       go_wp2_with (first | ((with_reducible refine gate_store (t := 4) (p := 45) rfl ?_); refine store_event (t := 4) (p := 45) (v := ?vo_w23) (w1 := (wr.setCell ⟨go21, (x20_2 : Int).toNat, none⟩ (.bool true))) ?hg ?ho ?hn ?hr ?_; (case ho => rfl); (case hg => rfl); (case hn => rfl); (case hr => first | (go_simp; done) | (go_simp; rfl)); intro w23 hw; have hg : wr.grownBy w23 (some go21) := (by rw [hw]; exact HP22.2); have hp_ : Kd.R Kd.bool 4 w23 w.heap.size (fun _ => True) (.slice (some ⟨go21, 0, none⟩) x3_3.length co8) y310 := (by rw [hw, Ny310.out]; exact HP22.1); clear HP22; have n0_ := Aside0.mk (hp_); have n1_ := Aside0.mk (blk_grown (g := gb300) (o := .cells #[.int .i64 a0_0, .int .i64 a0_1, .slice A0_2 l0_2.length c0_2, .slice (some ad307) l0_3.length c0_3] 25 (0, 0)) (uB BK300.out) hg (Kd.R_ne HO_3.out BK300.out (by decide))); have n2_ := Aside0.mk ((by rw [hw]; exact below_set (HB.out) GB21.out : Below w.heap.size w w23)); clear HO_3; clear BK300; clear HB; have HO_3 := n0_; have BK300 := n1_; have HB := n2_; clear n0_ n1_ n2_; clear hg hw hp_))
       (try simp only [← hl3_3])
       go_roundg k3
       case measure => have := HK1.out; have := HK2.out; have := HK3.out; omega
       case rel => exact ⟨(y310), (wrap64 (x29_3 + 1)), (by first | rfl | (simp; done) | (simp [*]; done)), H', ⟨by have := HK1.out; have := HK2.out; have := HK3.out; omega⟩, ⟨by (try simp only [hl3_1]); (try simp only [hl3_2]); (try simp only [hl3_3]); (with_reducible repeat (first | apply Kd.R_alloc | apply Kd.R_drewN | apply Kd.R_drew)); exact HO_3.out⟩, ⟨by (try simp only [hl3_1]); (try simp only [hl3_2]); (try simp only [hl3_3]); (with_reducible repeat (first | refine blk_drewN ?_ _ | refine blk_drew ?_ | refine blk_alloc ?_ _)); exact BK300.out⟩, ⟨by repeat (first | (with_reducible first | exact HB.out | apply below_alloc | apply pw_below_drewN | apply below_drew1 | refine below_set ?_ GE300.out) | exact HB.out)⟩⟩
       )
       (focus
       replace c20 := Bool.eq_false_iff.mpr c20
       subst c20
       have H1 : (if 0 ≤ (rd (rd_L1 l0_3 x20_2) x29_3) then (if (rd (rd_L1 l0_3 x20_2) x29_3) < (x3_3.length : Int) then (semigroupref07_Live.l2 k3 (x3_3.set (x20_2 : Int).toNat (rdOf false x3_3 (rd (rd_L1 l0_3 x20_2) x29_3))) x20_2 (y304.length : Int) x14_1 (x3_1.length : Int) x20_2 (rd_L1 l0_3 x20_2) ((rd_L1 l0_3 x20_2).length : Int) (wrap64 (x29_3 + 1)) a0_0 a0_1 l0_2 l0_3) else (none)) else (none)) = some r := by rw [if_neg (show ¬ (false = true) by decide)] at H; exact H
       clear H
       have H := H1
       clear H1
       by_cases c24 : 0 ≤ (rd (rd_L1 l0_3 x20_2) x29_3)
       (focus
       rw [if_pos c24] at H
       have c24b0 : decide (0 ≤ (rd (rd_L1 l0_3 x20_2) x29_3)) = true := decide_eq_true c24
       clear c24
       by_cases c25 : (rd (rd_L1 l0_3 x20_2) x29_3) < (x3_3.length : Int)
       (focus
       rw [if_pos c25] at H
       have c25b0 : decide ((rd (rd_L1 l0_3 x20_2) x29_3) < (x3_3.length : Int)) = true := decide_eq_true c25
       (try (have c25b0_hl3_1 := c25b0; simp only [hl3_1] at c25b0_hl3_1))
       (try (have c25b0_hl3_2 := c25b0; simp only [hl3_2] at c25b0_hl3_2))
       (try (have c25b0_hl3_3 := c25b0; simp only [hl3_3] at c25b0_hl3_3))
       clear c25
       obtain ⟨y312, hy312⟩ : ∃ y_ : List Bool, y_ = (x3_3.set (x20_2 : Int).toNat (rdOf false x3_3 (rd (rd_L1 l0_3 x20_2) x29_3))) := ⟨_, rfl⟩
       replace H : (semigroupref07_Live.l2 k3 y312 x20_2 (y304.length : Int) x14_1 (x3_1.length : Int) x20_2 (rd_L1 l0_3 x20_2) ((rd_L1 l0_3 x20_2).length : Int) (wrap64 (x29_3 + 1)) a0_0 a0_1 l0_2 l0_3) = some r := by first | (rw [hy312]; with_reducible exact H) | (have H2_ := (Option.bind_some _ _).symm.trans H; rw [hy312]; with_reducible exact H2_) | (have H2_ := (Option.bind_some _ _).symm.trans H; with_reducible exact H2_) | with_reducible exact H | (rw [hy312]; exact H) | exact H
       have Ny312 := Aside0.mk hy312
       clear hy312
       have H' := Aside0.mk H
       clear H
       have p308 : 0 ≤ (x29_3 : Int) := of_decide_eq_true (by first | (with_reducible assumption) | assumption)
       have q308 : x29_3 < ((rd_L1 l0_3 x20_2).length : Int) := of_decide_eq_true (by first | (with_reducible assumption) | assumption)
       obtain ⟨ad308, e308, hx308_0⟩ := Kd.at_int HR307_0.out x29_3 p308 q308
       cases e308
       (try replace hx308_0 := (HB.out.cell (World.block_lt_of_cell? w _ hx308_0)).trans hx308_0)
       replace p308 := eq_true p308
       replace q308 := eq_true q308
       have p309 : 0 ≤ (x20_2 : Int) := of_decide_eq_true (by first | (with_reducible assumption) | assumption)
       have q309 : x20_2 < (x3_3.length : Int) := of_decide_eq_true (by first | (with_reducible assumption) | assumption)
       obtain ⟨ad309, e309, hx309_0⟩ := Kd.at_bool (Kd.R_reads' HO_3.out).2.2 x20_2 p309 q309
       (try rw [← Nbq19.out] at hx309_0)
       cases e309
       replace p309 := eq_true p309
       replace q309 := eq_true q309
       have p311 : 0 ≤ ((rd (rd_L1 l0_3 x20_2) x29_3) : Int) := of_decide_eq_true (by first | (with_reducible assumption) | assumption)
       have q311 : (rd (rd_L1 l0_3 x20_2) x29_3) < (x3_3.length : Int) := of_decide_eq_true (by first | (with_reducible assumption) | assumption)
       obtain ⟨ad311, e311, hx311_0⟩ := Kd.at_bool (Kd.R_reads' HO_3.out).2.2 (rd (rd_L1 l0_3 x20_2) x29_3) p311 q311
       (try rw [← Nbq19.out] at hx311_0)
       obtain rfl : ad309 = ad311 := (by injection e311)
       replace p311 := eq_true p311
       replace q311 := eq_true q311
       have p26 : 0 ≤ (x20_2 : Int) := of_decide_eq_true (by first | (with_reducible assumption) | assumption)
       have q26 : (x20_2 : Int) < ((x3_3.length : Int) : Int) := of_decide_eq_true (by first | (with_reducible assumption) | assumption)
       obtain ⟨go26, co26, eo26, gb26, gl26, cl26, HG26⟩ := Kd.R_form HO_3.out (by first | omega | (have e_ := (Kd.R_reads' HO_3.out).1; omega))
       (first | cases eo26 | (injection eo26 with ea_ en_ ec_; (first | subst ea_ | (injection ea_ with ea_; subst ea_)); subst ec_; clear en_))
       have GB26 := Aside0.mk gb26
       have GG26 := Aside0.mk HG26
       clear gb26 gl26 HG26
       (first | simp only [add_plain] at hx309_0 | skip)
       (try simp only [Int.toNat_natCast] at hx309_0)
       (first | simp only [add_plain] at hx311_0 | skip)
       (try simp only [Int.toNat_natCast] at hx311_0)
       obtain ⟨hx26_0, hf26_0⟩ := Kd.R_celln false HO_3.out (x20_2 : Int) p26 q26
       replace p26 := eq_true p26
       replace q26 := eq_true q26
       have HP27 := Kd.R_putg HO_3.out (x20_2 : Int) (rdOf false x3_3 (rd (rd_L1 l0_3 x20_2) x29_3))
       go_wp2_with (first | ((with_reducible refine gate_store (t := 4) (p := 45) rfl ?_); refine store_event (t := 4) (p := 45) (v := ?vo_w28) (w1 := (wr.setCell ⟨go26, (x20_2 : Int).toNat, none⟩ (.bool (rdOf false x3_3 (rd (rd_L1 l0_3 x20_2) x29_3))))) ?hg ?ho ?hn ?hr ?_; (case ho => rfl); (case hg => rfl); (case hn => rfl); (case hr => first | (go_simp; done) | (go_simp; rfl)); intro w28 hw; have hg : wr.grownBy w28 (some go26) := (by rw [hw]; exact HP27.2); have hp_ : Kd.R Kd.bool 4 w28 w.heap.size (fun _ => True) (.slice (some ⟨go26, 0, none⟩) x3_3.length co8) y312 := (by rw [hw, Ny312.out]; exact HP27.1); clear HP27; have n0_ := Aside0.mk (hp_); have n1_ := Aside0.mk (blk_grown (g := gb300) (o := .cells #[.int .i64 a0_0, .int .i64 a0_1, .slice A0_2 l0_2.length c0_2, .slice (some ad307) l0_3.length c0_3] 25 (0, 0)) (uB BK300.out) hg (Kd.R_ne HO_3.out BK300.out (by decide))); have n2_ := Aside0.mk ((by rw [hw]; exact below_set (HB.out) GB26.out : Below w.heap.size w w28)); clear HO_3; clear BK300; clear HB; have HO_3 := n0_; have BK300 := n1_; have HB := n2_; clear n0_ n1_ n2_; clear hg hw hp_))
       (try simp only [← hl3_3])
       go_roundg k3
       case measure => have := HK1.out; have := HK2.out; have := HK3.out; omega
       case rel => exact ⟨(y312), (wrap64 (x29_3 + 1)), (by first | rfl | (simp; done) | (simp [*]; done)), H', ⟨by have := HK1.out; have := HK2.out; have := HK3.out; omega⟩, ⟨by (try simp only [hl3_1]); (try simp only [hl3_2]); (try simp only [hl3_3]); (with_reducible repeat (first | apply Kd.R_alloc | apply Kd.R_drewN | apply Kd.R_drew)); exact HO_3.out⟩, ⟨by (try simp only [hl3_1]); (try simp only [hl3_2]); (try simp only [hl3_3]); (with_reducible repeat (first | refine blk_drewN ?_ _ | refine blk_drew ?_ | refine blk_alloc ?_ _)); exact BK300.out⟩, ⟨by repeat (first | (with_reducible first | exact HB.out | apply below_alloc | apply pw_below_drewN | apply below_drew1 | refine below_set ?_ GE300.out) | exact HB.out)⟩⟩
       )
       (focus
       rw [if_neg c25] at H
       exact absurd H (by simp)
       )
       )
       (focus
       rw [if_neg c24] at H
       exact absurd H (by simp)
       )
       )
       )
       (focus
       rw [if_neg c18] at H
       exact absurd H (by simp)
       )
       )
       (focus
       rw [if_neg c17] at H
       exact absurd H (by simp)
       )
       )
       (focus
       rw [if_neg c16] at H
       exact absurd H (by simp)
       )
       )
       (focus
       rw [if_neg c15] at H
       exact absurd H (by simp)
       )
       )
       (focus
       rw [if_neg c14] at H
       have c14b0 : decide (x29_3 < ((rd_L1 l0_3 x20_2).length : Int)) = false := decide_eq_false c14
       (try (have c14b0_hl3_1 := c14b0; simp only [hl3_1] at c14b0_hl3_1))
       (try (have c14b0_hl3_2 := c14b0; simp only [hl3_2] at c14b0_hl3_2))
       (try (have c14b0_hl3_3 := c14b0; simp only [hl3_3] at c14b0_hl3_3))
       clear c14
       have H' := Aside0.mk H
       clear H
       go_wp2
       (try simp only [← hl3_2, ← hl3_3])
       go_roundg k3
       case measure => have := HK1.out; have := HK2.out; have := HK3.out; omega
       case rel => exact ⟨(x3_3), (wrap64 (x20_2 + 1)), (by first | rfl | (simp; done) | (simp [*]; done)), H', ⟨by have := HK1.out; have := HK2.out; have := HK3.out; omega⟩, ⟨by (try simp only [hl3_1]); (try simp only [hl3_2]); (try simp only [hl3_3]); (with_reducible repeat (first | apply Kd.R_alloc | apply Kd.R_drewN | apply Kd.R_drew)); exact HO_3.out⟩, ⟨by (try simp only [hl3_1]); (try simp only [hl3_2]); (try simp only [hl3_3]); (with_reducible repeat (first | refine blk_drewN ?_ _ | refine blk_drew ?_ | refine blk_alloc ?_ _)); exact BK300.out⟩, ⟨by repeat (first | (with_reducible first | exact HB.out | apply below_alloc | apply pw_below_drewN | apply below_drew1 | refine below_set ?_ GE300.out) | exact HB.out)⟩⟩
       )
     )
     (focus
     rw [if_neg c12] at H
     exact absurd H (by simp)
     )
     )
     (focus
     rw [if_neg c11] at H
     exact absurd H (by simp)
     )
     )
     (focus
     rw [if_neg c10] at H
     have c10b0 : decide (x20_2 < (x3_1.length : Int)) = false := decide_eq_false c10
     (try (have c10b0_hl3_1 := c10b0; simp only [hl3_1] at c10b0_hl3_1))
     (try (have c10b0_hl3_2 := c10b0; simp only [hl3_2] at c10b0_hl3_2))
     clear c10
     have H' := Aside0.mk H
     clear H
     go_wp2
     (try simp only [← hl3_1, ← hl3_2])
     go_roundg k2
     case measure => have := HK1.out; have := HK2.out; omega
     case rel => exact ⟨(x3_2), (wrap64 (x14_1 + 1)), (by first | rfl | (simp; done) | (simp [*]; done)), H', ⟨by have := HK1.out; have := HK2.out; omega⟩, ⟨by (try simp only [hl3_1]); (try simp only [hl3_2]); (with_reducible repeat (first | apply Kd.R_alloc | apply Kd.R_drewN | apply Kd.R_drew)); exact HO_3.out⟩, ⟨by (try simp only [hl3_1]); (try simp only [hl3_2]); (with_reducible repeat (first | refine blk_drewN ?_ _ | refine blk_drew ?_ | refine blk_alloc ?_ _)); exact BK300.out⟩, ⟨by repeat (first | (with_reducible first | exact HB.out | apply below_alloc | apply pw_below_drewN | apply below_drew1 | refine below_set ?_ GE300.out) | exact HB.out)⟩⟩
     )
   )
   (focus
   rw [if_neg c9] at H
   have c9b0 : decide (x14_1 < (y304.length : Int)) = false := decide_eq_false c9
   (try (have c9b0_hl3_1 := c9b0; simp only [hl3_1] at c9b0_hl3_1))
   clear c9
   obtain rfl := Option.some.inj H
   go_wp2
   go_ret
   exact ⟨_, by first | rfl | (simp [errW_none, errW_some] <;> rfl) | (simp [*, errW_none, errW_some] <;> rfl), (by first | exact (uR HO_3.out) | (simp only [hl3_1]; exact (uR HO_3.out))), by repeat (first | (with_reducible first | exact HB.out | apply below_alloc | apply pw_below_drewN | apply below_drew1 | refine below_set ?_ GE300.out) | exact HB.out)⟩
   )
 )
 (focus
 rw [if_neg c2] at H
 exact absurd H (by simp)
 )
end Go.Proofs.Ytpjbmgoagehjkaa.PDfaInfinite
