import Derived.Test.YtpjbmgoagehjkaaZDfaListsx0
namespace Go.Proofs.Ytpjbmgoagehjkaa.PDfaLists
open Go.RowKit Go.Proofs.YtpjbmgoagehjkaaH Go.Proofs.YtpjbmgoagehjkaaW.PrintWords Go.Proofs.YtpjbmgoagehjkaaW.PrintLast Go.Proofs.YtpjbmgoagehjkaaW.PrintMore
attribute [local go_sem] max2_int min2_int max_two min_two max_three min_three max_four min_four   -- for this text's walks alone
set_option linter.unusedVariables false
set_option linter.unusedSimpArgs false
/-! ### semigroupref07_emit: function 44 -/
mutual
def semigroupref07_emit.j0 : Nat → List (List Bool) → Int → Int → ByteArray → Int → List ByteArray → Bool → Int → Int → List Bool → List (List Int) → Option (List ByteArray)
 | 0, _, _, _, _, _, _, _, _, _, _, _ => none
 | k + 1, x1, x2, x3, x4, x5, x6, x29, x189000, x189001, x189002, x189003 => if x29 = true then (some x6) else (if x3 = 0 then (if x6.length < 8796093022208 then (some (x6 ++ [x4])) else (none)) else (semigroupref07_emit.l0 k x1 x2 x3 x4 x5 x6 0 x189000 x189001 x189002 x189003))
def semigroupref07_emit.l0 : Nat → List (List Bool) → Int → Int → ByteArray → Int → List ByteArray → Int → Int → Int → List Bool → List (List Int) → Option (List ByteArray)
 | 0, _, _, _, _, _, _, _, _, _, _, _ => none
 | k + 1, x1, x2, x3, x4, x5, x6, x15, x189000, x189001, x189002, x189003 => if x15 < x189000 then (if 0 ≤ x2 then (if x2 < (x189003.length : Int) then (if 0 ≤ x15 then (if x15 < ((rd_L1 x189003 x2).length : Int) then ((some (([(wrap64 (97 + x15)) % 256] : List Int) : List Int)).bind fun y196 => (if x4.size + (strOfNums y196).size ≤ 9223372036854775807 then ((semigroupref07_emit.f k x189000 x189001 x189002 x189003 x1 (rd (rd_L1 x189003 x2) x15) (wrap64 (x3 - 1)) (x4 ++ (strOfNums y196)) x5 x6).bind fun t199 => (semigroupref07_emit.l0 k x1 x2 x3 x4 x5 t199 (wrap64 (x15 + 1)) x189000 x189001 x189002 x189003)) else (none))) else (none)) else (none)) else (none)) else (none)) else (some x6)
def semigroupref07_emit.f : Nat → Int → Int → List Bool → List (List Int) → List (List Bool) → Int → Int → ByteArray → Int → List ByteArray → Option (List ByteArray)
 | 0, _, _, _, _, _, _, _, _, _, _ => none
 | k + 1, a0_0, a0_1, l0_2, l0_3, l1, a2, a3, a4, a5, l6 => if (l6.length : Int) ≥ a5 then (semigroupref07_emit.j0 k l1 a2 a3 a4 a5 l6 true a0_0 a0_1 l0_2 l0_3) else (if 0 ≤ a3 then (if a3 < (l1.length : Int) then (if 0 ≤ a2 then (if a2 < ((rd_L3 l1 a3).length : Int) then (semigroupref07_emit.j0 k l1 a2 a3 a4 a5 l6 (!(rdOf false (rd_L3 l1 a3) a2)) a0_0 a0_1 l0_2 l0_3) else (none)) else (none)) else (none)) else (none))
end
theorem semigroupref07_emit.mono_l : ∀ k, (∀ y0 y1 y2 y3 y4 y5 y6 y7 y8 y9, LeO (semigroupref07_emit.f k y0 y1 y2 y3 y4 y5 y6 y7 y8 y9) (semigroupref07_emit.f (k + 1) y0 y1 y2 y3 y4 y5 y6 y7 y8 y9)) ∧ (∀ y0 y1 y2 y3 y4 y5 y6 y7 y8 y9 y10, LeO (semigroupref07_emit.j0 k y0 y1 y2 y3 y4 y5 y6 y7 y8 y9 y10) (semigroupref07_emit.j0 (k + 1) y0 y1 y2 y3 y4 y5 y6 y7 y8 y9 y10)) ∧ (∀ y0 y1 y2 y3 y4 y5 y6 y7 y8 y9 y10, LeO (semigroupref07_emit.l0 k y0 y1 y2 y3 y4 y5 y6 y7 y8 y9 y10) (semigroupref07_emit.l0 (k + 1) y0 y1 y2 y3 y4 y5 y6 y7 y8 y9 y10))
 | 0 => ⟨fun _ _ _ _ _ _ _ _ _ _ r h => by simp [semigroupref07_emit.f] at h, fun _ _ _ _ _ _ _ _ _ _ _ r h => by simp [semigroupref07_emit.j0] at h, fun _ _ _ _ _ _ _ _ _ _ _ r h => by simp [semigroupref07_emit.l0] at h⟩
 | k + 1 => by
  obtain ⟨ih0, ih1, ih2⟩ := semigroupref07_emit.mono_l k
  refine ⟨?_, ?_, ?_⟩
  (focus
  intro y0 y1 y2 y3 y4 y5 y6 y7 y8 y9
  unfold semigroupref07_emit.f
  repeat' first
  | (with_reducible exact ih0 _ _ _ _ _ _ _ _ _ _)
  | (with_reducible exact ih1 _ _ _ _ _ _ _ _ _ _ _)
  | (with_reducible exact ih2 _ _ _ _ _ _ _ _ _ _ _)
  | (with_reducible exact LeO.refl _)
  | (with_reducible exact LeO.none _)
  | (with_reducible refine LeO.ite ?_ ?_)
  | (with_reducible refine LeO.bind ?_ (fun _ => ?_))
  | exact ih0 _ _ _ _ _ _ _ _ _ _
  | exact ih1 _ _ _ _ _ _ _ _ _ _ _
  | exact ih2 _ _ _ _ _ _ _ _ _ _ _
  | exact LeO.none _
  | refine LeO.ite ?_ ?_
  | refine LeO.bind ?_ (fun _ => ?_)
  )
  (focus
  intro y0 y1 y2 y3 y4 y5 y6 y7 y8 y9 y10
  unfold semigroupref07_emit.j0
  repeat' first
  | (with_reducible exact ih0 _ _ _ _ _ _ _ _ _ _)
  | (with_reducible exact ih1 _ _ _ _ _ _ _ _ _ _ _)
  | (with_reducible exact ih2 _ _ _ _ _ _ _ _ _ _ _)
  | (with_reducible exact LeO.refl _)
  | (with_reducible exact LeO.none _)
  | (with_reducible refine LeO.ite ?_ ?_)
  | (with_reducible refine LeO.bind ?_ (fun _ => ?_))
  | exact ih0 _ _ _ _ _ _ _ _ _ _
  | exact ih1 _ _ _ _ _ _ _ _ _ _ _
  | exact ih2 _ _ _ _ _ _ _ _ _ _ _
  | exact LeO.none _
  | refine LeO.ite ?_ ?_
  | refine LeO.bind ?_ (fun _ => ?_)
  )
  (focus
  intro y0 y1 y2 y3 y4 y5 y6 y7 y8 y9 y10
  unfold semigroupref07_emit.l0
  repeat' first
  | (with_reducible exact ih0 _ _ _ _ _ _ _ _ _ _)
  | (with_reducible exact ih1 _ _ _ _ _ _ _ _ _ _ _)
  | (with_reducible exact ih2 _ _ _ _ _ _ _ _ _ _ _)
  | (with_reducible exact LeO.refl _)
  | (with_reducible exact LeO.none _)
  | (with_reducible refine LeO.ite ?_ ?_)
  | (with_reducible refine LeO.bind ?_ (fun _ => ?_))
  | exact ih0 _ _ _ _ _ _ _ _ _ _
  | exact ih1 _ _ _ _ _ _ _ _ _ _ _
  | exact ih2 _ _ _ _ _ _ _ _ _ _ _
  | exact LeO.none _
  | refine LeO.ite ?_ ?_
  | refine LeO.bind ?_ (fun _ => ?_)
  )
theorem semigroupref07_emit.mono : ∀ a0 a1 a2 a3 a4 a5 a6 a7 a8 a9 k, LeO (semigroupref07_emit.f k a0 a1 a2 a3 a4 a5 a6 a7 a8 a9) (semigroupref07_emit.f (k + 1) a0 a1 a2 a3 a4 a5 a6 a7 a8 a9) := by
 intro a0 a1 a2 a3 a4 a5 a6 a7 a8 a9 k
 obtain ⟨ih0, ih1, ih2⟩ := semigroupref07_emit.mono_l k
 exact ih0 a0 a1 a2 a3 a4 a5 a6 a7 a8 a9
def semigroupref07_emit.T8 : Bool × List (List Nat × List Nat) := (true, [([], []), ([], []), ([], []), ([2], [2]), ([], []), ([3, 4], [3, 4]), ([5], [5]), ([], []), ([6, 7], [6, 7]), ([8], [8]), ([], []), ([10], [10]), ([], []), ([], []), ([13], [13]), ([14], [14]), ([15], [15]), ([16], [16]), ([12, 17], [12, 17]), ([], []), ([], []), ([0, 1, 9, 11, 18, 19, 20], [0, 1, 9, 11, 18, 19, 20]), ([21, 21, 0, 1, 2, 3, 4, 5, 6, 7, 8, 9, 10, 11, 12, 13, 14, 15, 16, 17, 18, 19, 20, 21], [20, 21])])
def semigroupref07_emit.B8 : List Nat := [0, 0, 0, 4, 0, 28, 60, 0, 252, 508, 0, 1024, 0, 0, 8192, 24576, 57344, 122880, 258048, 0, 0, 2097151, 4194303]
theorem semigroupref07_emit.tab8 : rtab .any (opsOf Try.f44 8) = semigroupref07_emit.T8 := by kernel_rfl
theorem semigroupref07_emit.bits8 : waitsOk semigroupref07_emit.T8.2 semigroupref07_emit.B8 = true := by kernel_rfl
set_option maxHeartbeats 8000000 in
set_option maxRecDepth 100000 in
theorem semigroupref07_emit.calls (k : Nat) : ∀ (a0_0 : Int) (a0_1 : Int) (A0_2 : Option Addr) (c0_2 : Nat) (l0_2 : List Bool) (A0_3 : Option Addr) (c0_3 : Nat) (l0_3 : List (List Int)) (A1 : Option Addr) (c1 : Nat) (l1 : List (List Bool)) (a2 : Int) (a3 : Int) (a4 : ByteArray) (a5 : Int) (P6_ : Nat → Prop) (u9000_ : Value) (l6 : List ByteArray) (r : List ByteArray) (w0 w : World) (hB : Below w0.heap.size w0 w) (hr0_2 : ∀ W_, Kept w W_ (fun k_ => P6_ k_) → Kd.C Kd.bool W_ A0_2 l0_2.length l0_2) (hc0_2 : l0_2.length ≤ c0_2) (hr0_3 : ∀ W_, Kept w W_ (fun k_ => P6_ k_) → Kd.C (Kd.slice 3 (Kd.int .i64)) W_ A0_3 l0_3.length l0_3) (hc0_3 : l0_3.length ≤ c0_3) (hr1 : ∀ W_, Kept w W_ (fun k_ => P6_ k_) → Kd.C (Kd.slice 4 Kd.bool) W_ A1 l1.length l1) (hc1 : l1.length ≤ c1) (ho6 : Kd.R Kd.string 9 w w0.heap.size P6_ u9000_ l6) (h : semigroupref07_emit.f k a0_0 a0_1 l0_2 l0_3 l1 a2 a3 a4 a5 l6 = some r),
 Calls Try.prog 44 #[.agg #[.int .i64 a0_0, .int .i64 a0_1, .slice A0_2 l0_2.length c0_2, .slice A0_3 l0_3.length c0_3], .slice A1 l1.length c1, .int .i64 a2, .int .i64 a3, .string a4, .int .i64 a5, u9000_] w fun e w' => ∃ v0_ : Value, e = .returned (v0_) ∧ Kd.R Kd.string 9 w' w0.heap.size (fun k_ => (P6_ k_ ∨ w.heap.size ≤ k_)) v0_ r ∧ Below w0.heap.size w0 w' ∧ Kept w w' (fun k_ => P6_ k_) := by
 induction k using Nat.strongRecOn with
 | _ k ih =>
 intro a0_0 a0_1 A0_2 c0_2 l0_2 A0_3 c0_3 l0_3 A1 c1 l1 a2 a3 a4 a5 P6_ u9000_ l6 r w0 w hB hr0_2 hc0_2 hr0_3 hc0_3 hr1 hc1 ho6 h
 cases k with
 | zero => exact absurd h (by simp [semigroupref07_emit.f])
 | succ k =>
 simp only [semigroupref07_emit.f] at h
 have hu25 := Try.underlying25
 have HR0_2 := Aside0.mk hr0_2
 have HC0_2 := Aside0.mk hc0_2
 clear hr0_2 hc0_2
 have HR0_3 := Aside0.mk hr0_3
 have HC0_3 := Aside0.mk hc0_3
 clear hr0_3 hc0_3
 have HR1 := Aside0.mk hr1
 have HC1 := Aside0.mk hc1
 clear hr1 hc1
 have HO6 := Aside0.mk (show Kd.R Kd.string 9 w w0.heap.size (fun k_ => (P6_ k_ ∨ w.heap.size ≤ k_)) u9000_ l6 from Kd.R_mono ho6 (fun k_ hk => (.inl hk)))
 have HK := Aside0.mk (Kept.refl w (fun k_ => P6_ k_))
 have HW0 := Aside0.mk hB.size
 have HB := Aside0.mk hB
 clear hB
 have H : (if (l6.length : Int) ≥ a5 then (semigroupref07_emit.j0 k l1 a2 a3 a4 a5 l6 true a0_0 a0_1 l0_2 l0_3) else (if 0 ≤ a3 then (if a3 < (l1.length : Int) then (if 0 ≤ a2 then (if a2 < ((rd_L3 l1 a3).length : Int) then (semigroupref07_emit.j0 k l1 a2 a3 a4 a5 l6 (!(rdOf false (rd_L3 l1 a3) a2)) a0_0 a0_1 l0_2 l0_3) else (none)) else (none)) else (none)) else (none))) = some r := h
 clear h
 have HC8 := Aside0.mk H
 clear H
 go_enter Try.func44, Try.ntmps44
 go_upto_region 1 with (first | ((with_reducible refine gate_dst (N := 7) rfl ?_); refine box_event ?hg (N := 7) ?hd (cs := #[.int .i64 a0_0, .int .i64 a0_1, .slice A0_2 l0_2.length c0_2, .slice A0_3 l0_3.length c0_3]) (t := 25) ?hr ?_; (case hd => rfl); (case hg => rfl); (case hr => first | (go_simp; done) | (go_simp; rfl)); intro gb188 hg w9 hbox hb; have n0_ := Aside0.mk (Kd.R_below (uR HO6.out) hb); have n1_ := Aside0.mk (Kept.below (S := (fun k_ => P6_ k_)) (by repeat (first | (with_reducible first | exact HK.out | apply Kept.alloc | apply Kept.drewN | apply Kept.drew) | exact HK.out)) hb); have n2_ := Aside0.mk (below_step (by repeat (first | (with_reducible first | exact HB.out | apply below_alloc | apply pw_below_drewN | apply below_drew1) | exact HB.out)) hb); have n3_ := Aside0.mk (hbox); have n4_ := Aside0.mk ((by rw [hg]; exact (by first | exact HK.out.1 | exact (show Kept w _ (fun k_ => P6_ k_) from by repeat (first | (with_reducible first | exact HK.out | apply Kept.alloc | apply Kept.drewN | apply Kept.drew) | exact HK.out)).1) : w.heap.size ≤ gb188)); have n5_ := Aside0.mk ((by rw [hg]; exact (below_size (by repeat (first | (with_reducible first | exact HB.out | apply below_alloc | apply pw_below_drewN | apply below_drew1) | exact HB.out))) : w0.heap.size ≤ gb188)); clear HO6; clear HK; clear HB; have HO6 := n0_; have HK := n1_; have HB := n2_; have BK188 := n3_; have GW188 := n4_; have GE188 := n5_; clear n0_ n1_ n2_ n3_ n4_ n5_; clear hb hbox hg))
 (try simp only [Act.put, List.setIfInBounds_toArray, List.set_cons_zero, List.set_cons_succ])
 go_cut [29] (fun v29 wc => ∃ (kq : Nat) (x29_7 : Bool), v29 = .bool x29_7 ∧ Aside0 (semigroupref07_emit.j0 kq l1 a2 a3 a4 a5 l6 x29_7 a0_0 a0_1 l0_2 l0_3 = some r) ∧ Aside0 (kq ≤ k) ∧ Aside0 (Kd.R Kd.string 9 wc w0.heap.size (fun k_ => (P6_ k_ ∨ w.heap.size ≤ k_)) u9000_ l6) ∧ Aside0 (wc.heap[gb188]? = some (.cells #[.int .i64 a0_0, .int .i64 a0_1, (.slice A0_2 l0_2.length c0_2), (.slice A0_3 l0_3.length c0_3)] 25 (0, 0))) ∧ Aside0 (Kept w wc (fun k_ => P6_ k_)) ∧ Aside0 (Below w0.heap.size w0 wc))
 case first =>
  have H := HC8.out
  clear HC8
  by_cases c10 : (l6.length : Int) ≥ a5
  (focus
  rw [if_pos c10] at H
  have c10b0 : decide (a5 ≤ (l6.length : Int)) = true := decide_eq_true c10
  clear c10
  (first | rw [c10b0] | (simp only [i64_w, i32_w]; rw [c10b0]) | skip)
  have H' := Aside0.mk H
  clear H
  obtain ⟨Ao11, co11, eo11⟩ := Kd.R_slice HO6.out
  subst eo11
  go_wp2
  go_meet
  case rel => exact ⟨_, (true), (by first | rfl | (simp; done) | (simp [*]; done)), H', ⟨by first | omega | exact Nat.le_refl _⟩, ⟨by (with_reducible repeat (first | apply Kd.R_alloc | apply Kd.R_drewN | apply Kd.R_drew)); exact HO6.out⟩, ⟨by (with_reducible repeat (first | refine blk_drewN ?_ _ | refine blk_drew ?_ | refine blk_alloc ?_ _)); exact BK188.out⟩, ⟨by repeat (first | (with_reducible first | exact HK.out | apply Kept.alloc | apply Kept.drewN | apply Kept.drew | refine Kept.setCell ?_ (.inr GW188.out) _) | exact HK.out)⟩, ⟨by repeat (first | (with_reducible first | exact HB.out | apply below_alloc | apply pw_below_drewN | apply below_drew1 | refine below_set ?_ GE188.out) | exact HB.out)⟩⟩
  )
  (focus
  rw [if_neg c10] at H
  have c10b0 : decide (a5 ≤ (l6.length : Int)) = false := decide_eq_false c10
  clear c10
  (first | rw [c10b0] | (simp only [i64_w, i32_w]; rw [c10b0]) | skip)
  by_cases c12 : 0 ≤ a3
  (focus
  rw [if_pos c12] at H
  have c12b0 : decide (0 ≤ a3) = true := decide_eq_true c12
  clear c12
  by_cases c13 : a3 < (l1.length : Int)
  (focus
  rw [if_pos c13] at H
  have c13b0 : decide (a3 < (l1.length : Int)) = true := decide_eq_true c13
  clear c13
  by_cases c14 : 0 ≤ a2
  (focus
  rw [if_pos c14] at H
  have c14b0 : decide (0 ≤ a2) = true := decide_eq_true c14
  clear c14
  by_cases c15 : a2 < ((rd_L3 l1 a3).length : Int)
  (focus
  rw [if_pos c15] at H
  have c15b0 : decide (a2 < ((rd_L3 l1 a3).length : Int)) = true := decide_eq_true c15
  clear c15
  have H' := Aside0.mk H
  clear H
  obtain ⟨Ao16, co16, eo16⟩ := Kd.R_slice HO6.out
  subst eo16
  have p189 : 0 ≤ (a3 : Int) := of_decide_eq_true (by first | (with_reducible assumption) | assumption)
  have q189 : a3 < (l1.length : Int) := of_decide_eq_true (by first | (with_reducible assumption) | assumption)
  obtain ⟨ad189, A189_0, c189_0, e189, hx189_0, hl189_0, hi189_0⟩ := at_L3 (Kd.C_kept_now HR1.out HK.out) a3 p189 q189
  cases e189
  have HR189_0 := Aside0.mk hi189_0
  have HC189_0 := Aside0.mk hl189_0
  clear hi189_0 hl189_0
  replace p189 := eq_true p189
  replace q189 := eq_true q189
  have p190 : 0 ≤ (a2 : Int) := of_decide_eq_true (by first | (with_reducible assumption) | assumption)
  have q190 : a2 < ((rd_L3 l1 a3).length : Int) := of_decide_eq_true (by first | (with_reducible assumption) | assumption)
  obtain ⟨ad190, e190, hx190_0⟩ := Kd.at_bool (by repeat (first | (with_reducible exact HR189_0.out) | (with_reducible refine Kd.C_alloc ?_ _) | (with_reducible refine Kd.C_drewN ?_ _) | (with_reducible refine Kd.C_drew ?_) | exact HR189_0.out)) a2 p190 q190
  cases e190
  replace p190 := eq_true p190
  replace q190 := eq_true q190
  go_wp2
  go_meet
  case rel => exact ⟨_, (!(rdOf false (rd_L3 l1 a3) a2)), (by first | rfl | (simp; done) | (simp [*]; done)), H', ⟨by first | omega | exact Nat.le_refl _⟩, ⟨by (with_reducible repeat (first | apply Kd.R_alloc | apply Kd.R_drewN | apply Kd.R_drew)); exact HO6.out⟩, ⟨by (with_reducible repeat (first | refine blk_drewN ?_ _ | refine blk_drew ?_ | refine blk_alloc ?_ _)); exact BK188.out⟩, ⟨by repeat (first | (with_reducible first | exact HK.out | apply Kept.alloc | apply Kept.drewN | apply Kept.drew | refine Kept.setCell ?_ (.inr GW188.out) _) | exact HK.out)⟩, ⟨by repeat (first | (with_reducible first | exact HB.out | apply below_alloc | apply pw_below_drewN | apply below_drew1 | refine below_set ?_ GE188.out) | exact HB.out)⟩⟩
  )
  (focus
  rw [if_neg c15] at H
  exact absurd H (by simp)
  )
  )
  (focus
  rw [if_neg c14] at H
  exact absurd H (by simp)
  )
  )
  (focus
  rw [if_neg c13] at H
  exact absurd H (by simp)
  )
  )
  (focus
  rw [if_neg c12] at H
  exact absurd H (by simp)
  )
  )
 case rest =>
  clear HC8
  try clear c1
  try clear p1
  try clear q1
  try clear hx1
  try clear p2
  try clear c4
  try clear c10
  try clear c10b0
  try clear c12
  try clear c12b0
  try clear c13
  try clear c13b0
  try clear c14
  try clear c14b0
  try clear c15
  try clear c15b0
  try clear hx189_0
  try clear hx190_0
  try clear p189
  try clear p190
  try clear q189
  try clear q190
  obtain ⟨kq, x29_7, rfl, HA, HJ7, HO_6, BK188, HK, HB⟩ := hcut
  cases kq with
  | zero => exact absurd HA.out (by simp [semigroupref07_emit.j0])
  | succ kj7 =>
   have H := HA.out
   clear HA
   simp only [semigroupref07_emit.j0] at H
   by_cases c17 : x29_7 = true
   (focus
   subst c17
   have H1 : (some l6) = some r := by rw [if_pos rfl] at H; exact H
   clear H
   have H := H1
   clear H1
   obtain rfl := Option.some.inj H
   go_wp2
   go_ret
   exact ⟨_, by first | rfl | (simp [errW_none, errW_some] <;> rfl) | (simp [*, errW_none, errW_some] <;> rfl), by (with_reducible repeat (first | apply Kd.R_alloc | apply Kd.R_drewN | apply Kd.R_drew)); exact HO_6.out, by repeat (first | (with_reducible first | exact HB.out | apply below_alloc | apply pw_below_drewN | apply below_drew1 | refine below_set ?_ GE188.out) | exact HB.out), by repeat (first | (with_reducible first | exact HK.out | apply Kept.alloc | apply Kept.drewN | apply Kept.drew | refine Kept.setCell ?_ (.inr GW188.out) _) | exact HK.out)⟩
   )
   (focus
   replace c17 := Bool.eq_false_iff.mpr c17
   subst c17
   have H1 : (if a3 = 0 then (if l6.length < 8796093022208 then (some (l6 ++ [a4])) else (none)) else (semigroupref07_emit.l0 kj7 l1 a2 a3 a4 a5 l6 0 a0_0 a0_1 l0_2 l0_3)) = some r := by rw [if_neg (show ¬ (false = true) by decide)] at H; exact H
   clear H
   have H := H1
   clear H1
   by_cases c18 : a3 = 0
   (focus
   rw [if_pos c18] at H
   have c18b0 : (a3 == 0) = true := beq_iff_eq.mpr c18
   have c18b1 : (a3 != 0) = false := bne_eq_false_iff_eq.mpr c18
   clear c18
   by_cases c19 : l6.length < 8796093022208
   (focus
   rw [if_pos c19] at H
   have LMc19 := Aside0.mk c19
   clear c19
   obtain ⟨y191, hy191⟩ : ∃ y_ : List ByteArray, y_ = (l6 ++ [a4]) := ⟨_, rfl⟩
   replace H : (some y191) = some r := by first | (rw [hy191]; with_reducible exact H) | (have H2_ := (Option.bind_some _ _).symm.trans H; rw [hy191]; with_reducible exact H2_) | (have H2_ := (Option.bind_some _ _).symm.trans H; with_reducible exact H2_) | with_reducible exact H | (rw [hy191]; exact H) | exact H
   have Ny191 := Aside0.mk hy191
   clear hy191
   obtain rfl := Option.some.inj H
   go_wp2_with (first | ((with_reducible refine gate_builtin (b := .append) (xs := #[.tmp 33, .tmp 35]) rfl ?_); at_builtin; refine Kd.R_append Kd.string (w0 := w0) w0.heap.size rfl (.tmp 33) (.tmp 35) 30 9 (.string ⟨#[]⟩) 16 rfl Try.underlying30 info9 rfl (by decide) (by omega) u9000_ l6 a4 [.string a4] (fun k_ => (P6_ k_ ∨ w.heap.size ≤ k_)) (fun _ => False) rfl rfl ?aP (fun _ hk => hk.elim) ?aF ?aO ?aB ?aS ?aL ?_; (case aP => exact rfl); (case aB => exact (by repeat (first | (with_reducible first | exact HB.out | apply below_alloc | apply pw_below_drewN | apply below_drew1 | refine below_set ?_ GE188.out) | exact HB.out))); (case aF => exact (fun k_ hk => (.inr (Nat.le_trans (by first | exact HK.out.1 | exact (show Kept w _ (fun k_ => P6_ k_) from by repeat (first | (with_reducible first | exact HK.out | apply Kept.alloc | apply Kept.drewN | apply Kept.drew | refine Kept.setCell ?_ (.inr GW188.out) _) | exact HK.out)).1) hk)))); (case aO => exact (uR HO_6.out)); (case aS => exact (below_size (by repeat (first | (with_reducible first | exact HB.out | apply below_alloc | apply pw_below_drewN | apply below_drew1 | refine below_set ?_ GE188.out) | exact HB.out)))); (case aL => have := LMc19.out; omega); intro v192 w20 ho hb hg hat; rw [← Ny191.out] at ho; have n0_ := Aside0.mk (blk_grown (g := gb188) (o := .cells #[.int .i64 a0_0, .int .i64 a0_1, .slice A0_2 l0_2.length c0_2, .slice A0_3 l0_3.length c0_3] 25 (0, 0)) (uB BK188.out) hg (Kd.R_ne HO_6.out BK188.out (by decide))); have n1_ := Aside0.mk (hb); have n2_ := Aside0.mk (Kept.of_grown (S := (fun k_ => P6_ k_)) hg (by repeat (first | (with_reducible first | exact HK.out | apply Kept.alloc | apply Kept.drewN | apply Kept.drew | refine Kept.setCell ?_ (.inr GW188.out) _) | exact HK.out)) (fun k_ e_ => (HO_6.out.1 k_ e_))); have n3_ := Aside0.mk (ho); clear BK188; clear HB; clear HK; clear HO_6; have BK188 := n0_; have HB := n1_; have HK := n2_; have HO193 := n3_; clear n0_ n1_ n2_ n3_; clear ho hb hg hat))
   go_ret
   exact ⟨_, by first | rfl | (simp [errW_none, errW_some] <;> rfl) | (simp [*, errW_none, errW_some] <;> rfl), by (with_reducible repeat (first | apply Kd.R_alloc | apply Kd.R_drewN | apply Kd.R_drew)); exact HO193.out, by repeat (first | (with_reducible first | exact HB.out | apply below_alloc | apply pw_below_drewN | apply below_drew1 | refine below_set ?_ GE188.out) | exact HB.out), by repeat (first | (with_reducible first | exact HK.out | apply Kept.alloc | apply Kept.drewN | apply Kept.drew | refine Kept.setCell ?_ (.inr GW188.out) _) | exact HK.out)⟩
   )
   (focus
   rw [if_neg c19] at H
   exact absurd H (by simp)
   )
   )
   (focus
   rw [if_neg c18] at H
   have c18b0 : (a3 == 0) = false := beq_eq_false_iff_ne.mpr c18
   have c18b1 : (a3 != 0) = true := bne_iff_ne.mpr c18
   have H' := Aside0.mk H
   clear H
   go_wp2
   go_loopg [6, 15] kj7 (fun kq v6 v15 w' => ∃ (x6_2 : List ByteArray) (x15_2 : Int), v15 = .int .i64 x15_2 ∧ Aside0 (semigroupref07_emit.l0 kq l1 a2 a3 a4 a5 x6_2 x15_2 a0_0 a0_1 l0_2 l0_3 = some r) ∧ Aside0 (kq ≤ kj7) ∧ Aside0 (Kd.R Kd.string 9 w' w0.heap.size (fun k_ => (P6_ k_ ∨ w.heap.size ≤ k_)) v6 x6_2) ∧ Aside0 (w'.heap[gb188]? = some (.cells #[.int .i64 a0_0, .int .i64 a0_1, (.slice A0_2 l0_2.length c0_2), (.slice A0_3 l0_3.length c0_3)] 25 (0, 0))) ∧ Aside0 (Kept w w' (fun k_ => P6_ k_)) ∧ Aside0 (Below w0.heap.size w0 w'))
   case atStart => exact ⟨(l6), (0), (by first | rfl | (simp; done) | (simp [*]; done)), H', ⟨Nat.le_refl _⟩, ⟨by (with_reducible repeat (first | apply Kd.R_alloc | apply Kd.R_drewN | apply Kd.R_drew)); exact HO_6.out⟩, ⟨by (with_reducible repeat (first | refine blk_drewN ?_ _ | refine blk_drew ?_ | refine blk_alloc ?_ _)); exact BK188.out⟩, ⟨by repeat (first | (with_reducible first | exact HK.out | apply Kept.alloc | apply Kept.drewN | apply Kept.drew | refine Kept.setCell ?_ (.inr GW188.out) _) | exact HK.out)⟩, ⟨by repeat (first | (with_reducible first | exact HB.out | apply below_alloc | apply pw_below_drewN | apply below_drew1 | refine below_set ?_ GE188.out) | exact HB.out)⟩⟩
   case round =>
    clear H'
    try clear c1
    try clear p1
    try clear q1
    try clear hx1
    try clear p2
    try clear c4
    try clear c10
    try clear c10b0
    try clear c12
    try clear c12b0
    try clear c13
    try clear c13b0
    try clear c14
    try clear c14b0
    try clear c15
    try clear c15b0
    try clear c17
    try clear c18
    try clear c18b0
    try clear c18b1
    try clear p18
    try clear q18
    try clear hx18
    try clear c19
    try clear p19
    try clear q19
    try clear hx19
    try clear hx189_0
    try clear hx190_0
    try clear p1
    try clear p189
    try clear p190
    try clear p2
    try clear q1
    try clear q189
    try clear q190
    obtain ⟨x6_2, x15_2, rfl, HA, HK2, HO_6, BK188, HK, HB⟩ := hrel
    cases gk with
    | zero => exact absurd HA.out (by simp [semigroupref07_emit.l0])
    | succ k2 =>
     have H := HA.out
     clear HA
     simp only [semigroupref07_emit.l0] at H
     by_cases c21 : x15_2 < a0_0
     (focus
     rw [if_pos c21] at H
     have c21b0 : decide (x15_2 < a0_0) = true := decide_eq_true c21
     clear c21
     by_cases c22 : 0 ≤ a2
     (focus
     rw [if_pos c22] at H
     have c22b0 : decide (0 ≤ a2) = true := decide_eq_true c22
     clear c22
     by_cases c23 : a2 < (l0_3.length : Int)
     (focus
     rw [if_pos c23] at H
     have c23b0 : decide (a2 < (l0_3.length : Int)) = true := decide_eq_true c23
     clear c23
     by_cases c24 : 0 ≤ x15_2
     (focus
     rw [if_pos c24] at H
     have c24b0 : decide (0 ≤ x15_2) = true := decide_eq_true c24
     clear c24
     by_cases c25 : x15_2 < ((rd_L1 l0_3 a2).length : Int)
     (focus
     rw [if_pos c25] at H
     have c25b0 : decide (x15_2 < ((rd_L1 l0_3 a2).length : Int)) = true := decide_eq_true c25
     clear c25
     obtain ⟨y196, hy196⟩ : ∃ y_ : List Int, y_ = (([(wrap64 (97 + x15_2)) % 256] : List Int)) := ⟨_, rfl⟩
     replace H : (if a4.size + (strOfNums y196).size ≤ 9223372036854775807 then ((semigroupref07_emit.f k2 a0_0 a0_1 l0_2 l0_3 l1 (rd (rd_L1 l0_3 a2) x15_2) (wrap64 (a3 - 1)) (a4 ++ (strOfNums y196)) a5 x6_2).bind fun t199 => (semigroupref07_emit.l0 k2 l1 a2 a3 a4 a5 t199 (wrap64 (x15_2 + 1)) a0_0 a0_1 l0_2 l0_3)) else (none)) = some r := by first | (rw [hy196]; with_reducible exact H) | (have H2_ := (Option.bind_some _ _).symm.trans H; rw [hy196]; with_reducible exact H2_) | (have H2_ := (Option.bind_some _ _).symm.trans H; with_reducible exact H2_) | with_reducible exact H | (rw [hy196]; exact H) | exact H
     have Ny196 := Aside0.mk hy196
     clear hy196
     by_cases c26 : a4.size + (strOfNums y196).size ≤ 9223372036854775807
     (focus
     rw [if_pos c26] at H
     have c26b0 := eq_true c26
     have c26b1 : decide (a4.size + (strOfNums y196).size ≤ 9223372036854775807) = true := decide_eq_true c26
     try have c26b2 : (9223372036854775807 < a4.size + (strOfNums y196).size) = False := eq_false (Nat.not_lt.2 c26)
     replace H := Option.bind_eq_some_iff.mp H
     obtain ⟨t199, A270, H⟩ := H
     replace H : (semigroupref07_emit.l0 k2 l1 a2 a3 a4 a5 t199 (wrap64 (x15_2 + 1)) a0_0 a0_1 l0_2 l0_3) = some r := H
     have A27 := Aside0.mk A270
     clear A270
     have H' := Aside0.mk H
     clear H
     have hcz28_0 : wr.cell? ⟨gb188, 0, none⟩ = some (.int .i64 a0_0) := (blk_cell BK188.out 0).trans rfl
     have hcz28_1 : wr.cell? ⟨gb188, 1, none⟩ = some (.int .i64 a0_1) := (blk_cell BK188.out 1).trans rfl
     have hcz28_2 : wr.cell? ⟨gb188, 2, none⟩ = some (.slice A0_2 l0_2.length c0_2) := (blk_cell BK188.out 2).trans rfl
     have hcz28_3 : wr.cell? ⟨gb188, 3, none⟩ = some (.slice A0_3 l0_3.length c0_3) := (blk_cell BK188.out 3).trans rfl
     have hfz28_0 := blk_frozen BK188.out 0
     have hfz28_1 := blk_frozen BK188.out 1
     have hfz28_2 := blk_frozen BK188.out 2
     have hfz28_3 := blk_frozen BK188.out 3
     try go_wp2
     have n0_ := Aside0.mk (Kd.R_drew HO_6.out)
     have n1_ := Aside0.mk (blk_drew BK188.out)
     have n2_ := Aside0.mk (Kept.drew HK.out)
     have n3_ := Aside0.mk (below_drew1 HB.out)
     clear HO_6
     clear BK188
     clear HK
     clear HB
     have HO_6 := n0_
     have BK188 := n1_
     have HK := n2_
     have HB := n3_
     clear n0_ n1_ n2_ n3_
     have p194 : 0 ≤ (a2 : Int) := of_decide_eq_true (by first | (with_reducible assumption) | assumption)
     have q194 : a2 < (l0_3.length : Int) := of_decide_eq_true (by first | (with_reducible assumption) | assumption)
     obtain ⟨ad194, A194_0, c194_0, e194, hx194_0, hl194_0, hi194_0⟩ := at_L1 (Kd.C_kept_now HR0_3.out HK.out) a2 p194 q194
     have hw194_0 := hx194_0
     cases e194
     have HR194_0 := Aside0.mk hi194_0
     have HC194_0 := Aside0.mk hl194_0
     clear hi194_0 hl194_0
     replace p194 := eq_true p194
     replace q194 := eq_true q194
     have p195 : 0 ≤ (x15_2 : Int) := of_decide_eq_true (by first | (with_reducible assumption) | assumption)
     have q195 : x15_2 < ((rd_L1 l0_3 a2).length : Int) := of_decide_eq_true (by first | (with_reducible assumption) | assumption)
     obtain ⟨ad195, e195, hx195_0⟩ := Kd.at_int (by repeat (first | (with_reducible exact HR194_0.out) | (with_reducible refine Kd.C_alloc ?_ _) | (with_reducible refine Kd.C_drewN ?_ _) | (with_reducible refine Kd.C_drew ?_) | exact HR194_0.out)) x15_2 p195 q195
     cases e195
     replace p195 := eq_true p195
     replace q195 := eq_true q195
     refine start_ (n := 23) (S := fun w' => w'.cell? ⟨gb188, 0, none⟩ = some (.int .i64 a0_0) ∧ w'.cell? ⟨gb188, 1, none⟩ = some (.int .i64 a0_1) ∧ w'.cell? ⟨gb188, 2, none⟩ = some (.slice A0_2 l0_2.length c0_2) ∧ w'.cell? ⟨gb188, 3, none⟩ = some (.slice (some ad194) l0_3.length c0_3) ∧ w'.cell? (ad194.add (a2).toNat) = some (.slice (some ad195) (rd_L1 l0_3 a2).length c194_0) ∧ w'.cell? (ad195.add (x15_2).toNat) = some (.int .i64 (rd (rd_L1 l0_3 a2) x15_2))) (ds := [21]) #[false, false, false, false, false, false, false, false, false, false, false, false, false, false, false, false, false, false, false, false, false, false, false] (by kernel_rfl) rfl rfl ⟨(blk_cell BK188.out 0).trans rfl, (blk_cell BK188.out 1).trans rfl, (blk_cell BK188.out 2).trans rfl, (blk_cell BK188.out 3).trans rfl, hx194_0, hx195_0⟩ (fun hHeld => ?_); refine with_tabW semigroupref07_emit.tab8 semigroupref07_emit.bits8 (fun HT_ HW_ => ?_)
     generalize wr.drew = w29 at HO_6 BK188 HK HB HR194_0 hx194_0 hx195_0 hHeld ⊢
     refine pure_ (i := 1) (N := some 44) (v := ?_) (a' := ?_) #[false, true, false, false, false, false, false, false, false, false, false, false, false, false, false, false, false, false, false, false, false, false, false] rfl rfl (any_of HT_.out (by kernel_rfl)) (fun _ _ _ h => h) (Or.inl ⟨by rfl, ?_⟩) ?_ ?_
     rotate_left
     (focus
     intro w'
     go_simp
     with_reducible rfl
     )
     rotate_left
     (focus
     simp only [Act.put, List.setIfInBounds_toArray, List.set_cons_zero, List.set_cons_succ, i64_w, i32_w]
     rfl
     )
     refine pure_ (i := 2) (N := some 45) (v := ?_) (a' := ?_) #[false, true, true, false, false, false, false, false, false, false, false, false, false, false, false, false, false, false, false, false, false, false, false] rfl rfl (any_of HT_.out (by kernel_rfl)) (fun _ _ _ h => h) (Or.inl ⟨by rfl, ?_⟩) ?_ ?_
     rotate_left
     (focus
     intro w'
     go_simp
     with_reducible rfl
     )
     rotate_left
     (focus
     simp only [Act.put, List.setIfInBounds_toArray, List.set_cons_zero, List.set_cons_succ, i64_w, i32_w]
     rfl
     )
     refine pure_ (i := 4) (N := some 47) (v := ?_) (a' := ?_) #[false, true, true, false, true, false, false, false, false, false, false, false, false, false, false, false, false, false, false, false, false, false, false] rfl rfl (any_of HT_.out (by kernel_rfl)) (fun _ _ _ h => h) (Or.inl ⟨by rfl, ?_⟩) ?_ ?_
     rotate_left
     (focus
     intro w'
     go_simp
     with_reducible rfl
     )
     rotate_left
     (focus
     simp only [Act.put, List.setIfInBounds_toArray, List.set_cons_zero, List.set_cons_succ, i64_w, i32_w]
     rfl
     )
     refine pure_ (i := 7) (N := some 50) (v := ?_) (a' := ?_) #[false, true, true, false, true, false, false, true, false, false, false, false, false, false, false, false, false, false, false, false, false, false, false] rfl rfl (any_of HT_.out (by kernel_rfl)) (fun _ _ _ h => h) (Or.inl ⟨by rfl, ?_⟩) ?_ ?_
     rotate_left
     (focus
     intro w'
     go_simp
     with_reducible rfl
     )
     rotate_left
     (focus
     simp only [Act.put, List.setIfInBounds_toArray, List.set_cons_zero, List.set_cons_succ, i64_w, i32_w]
     rfl
     )
     refine pure_ (i := 10) (N := some 53) (v := ?_) (a' := ?_) #[false, true, true, false, true, false, false, true, false, false, true, false, false, false, false, false, false, false, false, false, false, false, false] rfl rfl (any_of HT_.out (by kernel_rfl)) (fun _ _ _ h => h) (Or.inl ⟨by rfl, ?_⟩) ?_ ?_
     rotate_left
     (focus
     intro w'
     go_simp
     with_reducible rfl
     )
     rotate_left
     (focus
     simp only [Act.put, List.setIfInBounds_toArray, List.set_cons_zero, List.set_cons_succ, i64_w, i32_w]
     rfl
     )
     refine pure_ (i := 11) (N := some 54) (v := ?_) (a' := ?_) #[false, true, true, false, true, false, false, true, false, false, true, true, false, false, false, false, false, false, false, false, false, false, false] rfl rfl (any_of HT_.out (by kernel_rfl)) (fun _ _ _ h => h) (Or.inl ⟨by rfl, ?_⟩) ?_ ?_
     rotate_left
     (focus
     intro w'
     go_simp
     with_reducible rfl
     )
     rotate_left
     (focus
     simp only [Act.put, List.setIfInBounds_toArray, List.set_cons_zero, List.set_cons_succ, i64_w, i32_w]
     rfl
     )
     refine pure_ (i := 12) (N := some 55) (v := ?_) (a' := ?_) #[false, true, true, false, true, false, false, true, false, false, true, true, true, false, false, false, false, false, false, false, false, false, false] rfl rfl (any_of HT_.out (by kernel_rfl)) (fun _ _ _ h => h) (Or.inl ⟨by rfl, ?_⟩) ?_ ?_
     rotate_left
     (focus
     intro w'
     go_simp
     with_reducible rfl
     )
     rotate_left
     (focus
     simp only [Act.put, List.setIfInBounds_toArray, List.set_cons_zero, List.set_cons_succ, i64_w, i32_w]
     rfl
     )
     refine pure_ (i := 13) (N := some 56) (v := ?_) (a' := ?_) #[false, true, true, false, true, false, false, true, false, false, true, true, true, true, false, false, false, false, false, false, false, false, false] rfl rfl (any_of HT_.out (by kernel_rfl)) (fun _ _ _ h => h) (Or.inl ⟨by rfl, ?_⟩) ?_ ?_
     rotate_left
     (focus
     intro w'
     go_simp
     with_reducible rfl
     )
     rotate_left
     (focus
     simp only [Act.put, List.setIfInBounds_toArray, List.set_cons_zero, List.set_cons_succ, i64_w, i32_w]
     rfl
     )
     refine pure_ (i := 14) (N := some 57) (v := ?_) (a' := ?_) #[false, true, true, false, true, false, false, true, false, false, true, true, true, true, true, false, false, false, false, false, false, false, false] rfl rfl (any_of HT_.out (by kernel_rfl)) (fun _ _ _ h => h) (Or.inl ⟨by rfl, ?_⟩) ?_ ?_
     rotate_left
     (focus
     intro w'
     go_simp
     with_reducible rfl
     )
     rotate_left
     (focus
     simp only [Act.put, List.setIfInBounds_toArray, List.set_cons_zero, List.set_cons_succ, i64_w, i32_w]
     rfl
     )
     refine pure_ (i := 15) (N := some 58) (v := ?_) (a' := ?_) #[false, true, true, false, true, false, false, true, false, false, true, true, true, true, true, true, false, false, false, false, false, false, false] rfl rfl (any_of HT_.out (by kernel_rfl)) (fun _ _ _ h => h) (Or.inl ⟨by rfl, ?_⟩) ?_ ?_
     rotate_left
     (focus
     intro w'
     go_simp
     with_reducible rfl
     )
     rotate_left
     (focus
     simp only [Act.put, List.setIfInBounds_toArray, List.set_cons_zero, List.set_cons_succ, i64_w, i32_w]
     rfl
     )
     refine pure_ (i := 19) (N := some 62) (v := ?_) (a' := ?_) #[false, true, true, false, true, false, false, true, false, false, true, true, true, true, true, true, false, false, false, true, false, false, false] rfl rfl (any_of HT_.out (by kernel_rfl)) (fun _ _ _ h => h) (Or.inl ⟨by rfl, ?_⟩) ?_ ?_
     rotate_left
     (focus
     intro w'
     go_simp
     with_reducible rfl
     )
     rotate_left
     (focus
     simp only [Act.put, List.setIfInBounds_toArray, List.set_cons_zero, List.set_cons_succ, i64_w, i32_w]
     rfl
     )
     refine pure_ (i := 20) (N := some 63) (v := ?_) (a' := ?_) #[false, true, true, false, true, false, false, true, false, false, true, true, true, true, true, true, false, false, false, true, true, false, false] rfl rfl (any_of HT_.out (by kernel_rfl)) (fun _ _ _ h => h) (Or.inl ⟨by rfl, ?_⟩) ?_ ?_
     rotate_left
     (focus
     intro w'
     go_simp
     with_reducible rfl
     )
     rotate_left
     (focus
     simp only [Act.put, List.setIfInBounds_toArray, List.set_cons_zero, List.set_cons_succ, i64_w, i32_w]
     rfl
     )
     refine take_ (i := 0) (N := some 43) (v := ?_) (a' := ?_) #[true, true, true, false, true, false, false, true, false, false, true, true, true, true, true, true, false, false, false, true, true, false, false] rfl rfl (take_ofW HT_.out HW_.out (by kernel_rfl)) (fun _ _ _ h => h) (Or.inl ⟨by rfl, ?_⟩) hHeld ?_ ?_
     rotate_left
     (focus
     rintro w' ⟨s0, s1, s2, s3, s4, s5⟩
     go_simp
     with_reducible rfl
     )
     rotate_left
     (focus
     simp only [Act.put, List.setIfInBounds_toArray, List.set_cons_zero, List.set_cons_succ, i64_w, i32_w]
     rfl
     )
     refine take_ (i := 3) (N := some 46) (v := ?_) (a' := ?_) #[true, true, true, true, true, false, false, true, false, false, true, true, true, true, true, true, false, false, false, true, true, false, false] rfl rfl (take_ofW HT_.out HW_.out (by kernel_rfl)) (fun _ _ _ h => h) (Or.inl ⟨by rfl, ?_⟩) hHeld ?_ ?_
     rotate_left
     (focus
     rintro w' ⟨s0, s1, s2, s3, s4, s5⟩
     go_simp
     with_reducible rfl
     )
     rotate_left
     (focus
     simp only [Act.put, List.setIfInBounds_toArray, List.set_cons_zero, List.set_cons_succ, i64_w, i32_w]
     rfl
     )
     refine pure_ (i := 5) (N := some 48) (v := ?_) (a' := ?_) #[true, true, true, true, true, true, false, true, false, false, true, true, true, true, true, true, false, false, false, true, true, false, false] rfl rfl (any_of HT_.out (by kernel_rfl)) (fun _ _ _ h => h) (Or.inl ⟨by rfl, ?_⟩) ?_ ?_
     rotate_left
     (focus
     intro w'
     go_simp
     with_reducible rfl
     )
     rotate_left
     (focus
     simp only [Act.put, List.setIfInBounds_toArray, List.set_cons_zero, List.set_cons_succ, i64_w, i32_w]
     rfl
     )
     refine take_ (i := 6) (N := some 49) (v := ?_) (a' := ?_) #[true, true, true, true, true, true, true, true, false, false, true, true, true, true, true, true, false, false, false, true, true, false, false] rfl rfl (take_ofW HT_.out HW_.out (by kernel_rfl)) (fun _ _ _ h => h) (Or.inl ⟨by rfl, ?_⟩) hHeld ?_ ?_
     rotate_left
     (focus
     rintro w' ⟨s0, s1, s2, s3, s4, s5⟩
     go_simp
     with_reducible rfl
     )
     rotate_left
     (focus
     simp only [Act.put, List.setIfInBounds_toArray, List.set_cons_zero, List.set_cons_succ, i64_w, i32_w]
     rfl
     )
     refine pure_ (i := 8) (N := some 51) (v := ?_) (a' := ?_) #[true, true, true, true, true, true, true, true, true, false, true, true, true, true, true, true, false, false, false, true, true, false, false] rfl rfl (any_of HT_.out (by kernel_rfl)) (fun _ _ _ h => h) (Or.inl ⟨by rfl, ?_⟩) ?_ ?_
     rotate_left
     (focus
     intro w'
     go_simp
     with_reducible rfl
     )
     rotate_left
     (focus
     simp only [Act.put, List.setIfInBounds_toArray, List.set_cons_zero, List.set_cons_succ, i64_w, i32_w]
     rfl
     )
     refine take_ (i := 9) (N := some 52) (v := ?_) (a' := ?_) #[true, true, true, true, true, true, true, true, true, true, true, true, true, true, true, true, false, false, false, true, true, false, false] rfl rfl (take_ofW HT_.out HW_.out (by kernel_rfl)) (fun _ _ _ h => h) (Or.inl ⟨by rfl, ?_⟩) hHeld ?_ ?_
     rotate_left
     (focus
     rintro w' ⟨s0, s1, s2, s3, s4, s5⟩
     go_simp
     with_reducible rfl
     )
     rotate_left
     (focus
     simp only [Act.put, List.setIfInBounds_toArray, List.set_cons_zero, List.set_cons_succ, i64_w, i32_w]
     rfl
     )
     refine one_ (i := 16) (N := some 59) #[true, true, true, true, true, true, true, true, true, true, true, true, true, true, true, true, true, false, false, true, true, false, false] rfl rfl (one_of HT_.out (by kernel_rfl)) (by decide) (fun K hK => ?_)
     refine Kd.R_lit_step (Kd.int .u8) _ 5 ?hg (N := 59) ?hd (xs := ([(wrap64 (97 + x15_2)) % 256] : List Int)) (inner := [.int .u8 ((wrap64 (97 + x15_2)) % 256)]) (ok := fun _ => True) (okp := fun _ => True) ?hr ?hp (fun _ hk => hk) trivial (Below.refl _ _) (Nat.le_refl _) (by simp) ?_; (case hd => rfl); (case hg => rfl); (case hr => first | (go_simp; done) | (go_simp; rfl)); (case hp => exact (Reps.one (show Kd.M (Kd.int .u8) _ _ _ ((wrap64 (97 + x15_2)) % 256) [.int .u8 ((wrap64 (97 + x15_2)) % 256)] from rfl) (Reps.none _ _)))
     intro v197 w30 ho31 hb hg_ hnew_
     have HS4_ := (hb.cell (World.block_lt_of_cell? _ _ (hHeld.2.2.2.2.1))).trans (hHeld.2.2.2.2.1)
     have HS5_ := (hb.cell (World.block_lt_of_cell? _ _ (hHeld.2.2.2.2.2))).trans (hHeld.2.2.2.2.2)
     clear hg_ hnew_
     (first | rw [← Ny196.out] at ho31 | (simp only [Int.reduceToNat] at ho31; rw [← Ny196.out] at ho31))
     have n0_ := Aside0.mk (Kd.R_below (uR HO_6.out) hb)
     have n1_ := Aside0.mk (Kd.R_lower (Kd.R_newM (M := fun k_ => (P6_ k_ ∨ w.heap.size ≤ k_)) ho31 (by first | exact HK.out.1 | exact (show Kept w _ (fun k_ => P6_ k_) from by repeat (first | (with_reducible first | exact HK.out | apply Kept.alloc | apply Kept.drewN | apply Kept.drew | refine Kept.setCell ?_ (.inr GW188.out) _) | exact HK.out)).1) (fun k_ h_ => .inr h_)) (below_size (by repeat (first | (with_reducible first | exact HB.out | apply below_alloc | apply pw_below_drewN | apply below_drew1 | refine below_set ?_ GE188.out) | exact HB.out))))
     have n2_ := Aside0.mk (blk_below (g := gb188) (o := .cells #[.int .i64 a0_0, .int .i64 a0_1, .slice A0_2 l0_2.length c0_2, .slice (some ad194) l0_3.length c0_3] 25 (0, 0)) (uB BK188.out) hb)
     have n3_ := Aside0.mk (Kd.C_below (by repeat (first | (with_reducible exact HR194_0.out) | (with_reducible refine Kd.C_alloc ?_ _) | (with_reducible refine Kd.C_drewN ?_ _) | (with_reducible refine Kd.C_drew ?_) | exact HR194_0.out)) hb)
     have n4_ := Aside0.mk (Kept.below (S := (fun k_ => P6_ k_)) (by repeat (first | (with_reducible first | exact HK.out | apply Kept.alloc | apply Kept.drewN | apply Kept.drew | refine Kept.setCell ?_ (.inr GW188.out) _) | exact HK.out)) hb)
     have n5_ := Aside0.mk (below_step (by repeat (first | (with_reducible first | exact HB.out | apply below_alloc | apply pw_below_drewN | apply below_drew1 | refine below_set ?_ GE188.out) | exact HB.out)) hb)
     clear HO_6
     clear BK188
     clear HR194_0
     clear HK
     clear HB
     have HO_6 := n0_
     have HO198 := n1_
     have BK188 := n2_
     have HR194_0 := n3_
     have HK := n4_
     have HB := n5_
     clear n0_ n1_ n2_ n3_ n4_ n5_
     clear hb ho31
     obtain ⟨Ao33, co33, eo33⟩ := Kd.R_slice HO_6.out
     (first | subst eo33 | (injection eo33 with f1_ f2_ f3_; have f4_ := f1_.symm; have f5_ := f3_.symm; clear f1_ f2_ f3_; subst f4_; subst f5_))
     refine hK.out _ _ ⟨(blk_cell BK188.out 0).trans rfl, (blk_cell BK188.out 1).trans rfl, (blk_cell BK188.out 2).trans rfl, (blk_cell BK188.out 3).trans rfl, HS4_, HS5_⟩ (fun hHeld => ?_)
     clear hK K
     refine norm_ (a' := ?_) ?_ ?_
     rotate_left
     (focus
     show Act.put _ (some 59) _ = _
     simp only [Act.put, List.setIfInBounds_toArray, List.set_cons_zero, List.set_cons_succ, i64_w, i32_w]
     rfl
     )
     refine one_ (i := 17) (N := some 60) #[true, true, true, true, true, true, true, true, true, true, true, true, true, true, true, true, true, true, false, true, true, false, false] rfl rfl (one_of HT_.out (by kernel_rfl)) (by decide) (fun K hK => ?_)
     have hcv32 := own_string (P := Try.prog) Try.underlying56 Try.underlying5 Try.underlying9 (Kd.own_of_R HO198.out)
     refine value_ (w1 := ?_) (v := ?_) (by rfl) rfl ?_ ?_
     rotate_left 2
     (focus
     go_simp
     constructor
     (focus
     rfl
     )
     (focus
     rfl
     )
     )
     clear hcv32
     refine hK.out _ _ ⟨(blk_cell BK188.out 0).trans rfl, (blk_cell BK188.out 1).trans rfl, (blk_cell BK188.out 2).trans rfl, (blk_cell BK188.out 3).trans rfl, hHeld.2.2.2.2.1, hHeld.2.2.2.2.2⟩ (fun hHeld => ?_)
     clear hK K
     refine norm_ (a' := ?_) ?_ ?_
     rotate_left
     (focus
     show Act.put _ (some 60) _ = _
     simp only [Act.put, List.setIfInBounds_toArray, List.set_cons_zero, List.set_cons_succ, i64_w, i32_w]
     rfl
     )
     refine pure_ (i := 18) (N := some 61) (v := ?_) (a' := ?_) #[true, true, true, true, true, true, true, true, true, true, true, true, true, true, true, true, true, true, true, true, true, false, false] rfl rfl (any_of HT_.out (by kernel_rfl)) (fun _ _ _ h => h) (Or.inl ⟨by rfl, ?_⟩) ?_ ?_
     rotate_left
     (focus
     intro w'
     go_simp
     with_reducible rfl
     )
     rotate_left
     (focus
     simp only [Act.put, List.setIfInBounds_toArray, List.set_cons_zero, List.set_cons_succ, i64_w, i32_w]
     rfl
     )
     refine last_ (i := 21) (N := some 64) #[true, true, true, true, true, true, true, true, true, true, true, true, true, true, true, true, true, true, true, true, true, true, false] rfl rfl (one_of HT_.out (by kernel_rfl)) (by decide) (fun K hK => ?_)
     refine goes_ Try.func44 (by kernel_rfl) rfl #[.agg #[.int .i64 a0_0, .int .i64 a0_1, .slice A0_2 l0_2.length c0_2, .slice (some ad194) l0_3.length c0_3], .slice A1 l1.length c1, .int .i64 (rd (rd_L1 l0_3 a2) x15_2), .int .i64 (wrap64 (a3 - 1)), .string (a4 ++ (strOfNums y196)), .int .i64 a5, .slice Ao33 x6_2.length co33] (by rfl) rfl rfl (by (try simp only [List.map_toArray, List.map_cons, List.map_nil]); first | done | rfl | (simp only [List.length_drop, List.length_take]; rfl)) ?_
     with_reducible refine (ih k2 (by have := HJ7.out; have := HK2.out; omega) a0_0 a0_1 _ _ l0_2 _ _ l0_3 _ _ l1 (rd (rd_L1 l0_3 a2) x15_2) (wrap64 (a3 - 1)) (a4 ++ (strOfNums y196)) a5 (fun k_ => some k_ = (.slice Ao33 x6_2.length co33 : Value).ownBlock) (.slice Ao33 x6_2.length co33) x6_2 t199 w0 _ ?side1 ?side2 ?side3 ?side4 ?side5 ?side6 ?side7 ?side8 A27.out).mono ?_
     (case side1 => repeat (first | (with_reducible first | exact HB.out | apply below_alloc | apply pw_below_drewN | apply below_drew1 | refine below_set ?_ GE188.out) | exact HB.out))
     (case side2 => exact Kd.C_kept_call HR0_2.out (by repeat (first | (with_reducible first | exact HK.out | apply Kept.alloc | apply Kept.drewN | apply Kept.drew | refine Kept.setCell ?_ (.inr GW188.out) _) | exact HK.out)) (fun k_ hs_ => (fun e_ => (HO_6.out.1 k_ e_.symm)) hs_))
     (case side3 => exact HC0_2.out)
     (case side4 => exact Kd.C_kept_call HR0_3.out (by repeat (first | (with_reducible first | exact HK.out | apply Kept.alloc | apply Kept.drewN | apply Kept.drew | refine Kept.setCell ?_ (.inr GW188.out) _) | exact HK.out)) (fun k_ hs_ => (fun e_ => (HO_6.out.1 k_ e_.symm)) hs_))
     (case side5 => exact HC0_3.out)
     (case side6 => exact Kd.C_kept_call HR1.out (by repeat (first | (with_reducible first | exact HK.out | apply Kept.alloc | apply Kept.drewN | apply Kept.drew | refine Kept.setCell ?_ (.inr GW188.out) _) | exact HK.out)) (fun k_ hs_ => (fun e_ => (HO_6.out.1 k_ e_.symm)) hs_))
     (case side7 => exact HC1.out)
     (case side8 => exact Kd.R_tight rfl HO_6.out)
     rintro e w34 ⟨v200, rfl, ho0, hb, hkp⟩
     refine ⟨_, rfl, ?_⟩
     have n0_ := Aside0.mk (blk_kept (uB BK188.out) hkp (fun hs_ => (fun e_ => (Kd.R_ne HO_6.out BK188.out (by decide)) e_) hs_))
     have n1_ := Aside0.mk (Kd.R_mono (ok' := fun k_ => (P6_ k_ ∨ w.heap.size ≤ k_)) (Kd.R_keptB ((Kd.R_apart' HO198.out (Kd.R_typed HO_6.out) (by decide))) hkp (fun k_ hk_ hs_ => (hk_.2) hs_)) (fun k_ hk_ => hk_.1.1.1))
     have n2_ := Aside0.mk (Kd.R_mono (ok' := fun k_ => (P6_ k_ ∨ w.heap.size ≤ k_)) ho0 (fun k_ hk_ => Or.elim hk_ (fun hs_ => (HO_6.out.1 k_ (hs_).symm)) (fun hn_ => (.inr (Nat.le_trans (by first | exact HK.out.1 | exact (show Kept w _ (fun k_ => P6_ k_) from by repeat (first | (with_reducible first | exact HK.out | apply Kept.alloc | apply Kept.drewN | apply Kept.drew | refine Kept.setCell ?_ (.inr GW188.out) _) | exact HK.out)).1) hn_)))))
     have n3_ := Aside0.mk (Kept.then_ (S := (fun k_ => P6_ k_)) (by repeat (first | (with_reducible first | exact HK.out | apply Kept.alloc | apply Kept.drewN | apply Kept.drew | refine Kept.setCell ?_ (.inr GW188.out) _) | exact HK.out)) hkp (fun k_ hs_ => (fun e_ => (HO_6.out.1 k_ e_.symm)) hs_))
     have n4_ := Aside0.mk (hb)
     clear BK188
     clear HO198
     clear HK
     clear HB
     clear HO_6
     have BK188 := n0_
     have HO198 := n1_
     have HO201 := n2_
     have HK := n3_
     have HB := n4_
     clear n0_ n1_ n2_ n3_ n4_
     (try clear hb)
     (try clear hkp)
     (try clear ho0)
     refine hK.out _ _ ?_
     clear hK K
     refine norm_ (a' := ?_) ?_ ?_
     rotate_left
     (focus
     show Act.put _ (some 64) _ = _
     simp only [Act.put, List.setIfInBounds_toArray, List.set_cons_zero, List.set_cons_succ, i64_w, i32_w]
     rfl
     )
     refine pure_ (i := 22) (N := some 6) (v := ?_) (a' := ?_) #[true, true, true, true, true, true, true, true, true, true, true, true, true, true, true, true, true, true, true, true, true, true, true] rfl rfl (any_of HT_.out (by kernel_rfl)) (fun _ _ _ h => h) (Or.inl ⟨by rfl, ?_⟩) ?_ ?_
     rotate_left
     (focus
     intro w'
     go_simp
     with_reducible rfl
     )
     rotate_left
     (focus
     simp only [Act.put, List.setIfInBounds_toArray, List.set_cons_zero, List.set_cons_succ, i64_w, i32_w]
     rfl
     )
     refine done_ (done_of HT_.out (by kernel_rfl)) ?_
     try go_wp2
     go_roundg k2
     case measure => have := HJ7.out; have := HK2.out; omega
     case rel => exact ⟨(t199), (wrap64 (x15_2 + 1)), (by first | rfl | (simp; done) | (simp [*]; done)), H', ⟨by have := HJ7.out; have := HK2.out; omega⟩, ⟨by (with_reducible repeat (first | apply Kd.R_alloc | apply Kd.R_drewN | apply Kd.R_drew)); exact HO201.out⟩, ⟨by (with_reducible repeat (first | refine blk_drewN ?_ _ | refine blk_drew ?_ | refine blk_alloc ?_ _)); exact BK188.out⟩, ⟨by repeat (first | (with_reducible first | exact HK.out | apply Kept.alloc | apply Kept.drewN | apply Kept.drew | refine Kept.setCell ?_ (.inr GW188.out) _) | exact HK.out)⟩, ⟨by repeat (first | (with_reducible first | exact HB.out | apply below_alloc | apply pw_below_drewN | apply below_drew1 | refine below_set ?_ GE188.out) | exact HB.out)⟩⟩
     )
     (focus
     rw [if_neg c26] at H
     exact absurd H (by simp)
     )
     )
     (focus
     rw [if_neg c25] at H
     exact absurd H (by simp)
     )
     )
     (focus
     rw [if_neg c24] at H
     exact absurd H (by simp)
     )
     )
     (focus
     rw [if_neg c23] at H
     exact absurd H (by simp)
     )
     )
     (focus
     rw [if_neg c22] at H
     exact absurd H (by simp)
     )
     )
     (focus
     rw [if_neg c21] at H
     have c21b0 : decide (x15_2 < a0_0) = false := decide_eq_false c21
     clear c21
     obtain rfl := Option.some.inj H
     have hcz35_0 : wr.cell? ⟨gb188, 0, none⟩ = some (.int .i64 a0_0) := (blk_cell BK188.out 0).trans rfl
     have hcz35_1 : wr.cell? ⟨gb188, 1, none⟩ = some (.int .i64 a0_1) := (blk_cell BK188.out 1).trans rfl
     have hcz35_2 : wr.cell? ⟨gb188, 2, none⟩ = some (.slice A0_2 l0_2.length c0_2) := (blk_cell BK188.out 2).trans rfl
     have hcz35_3 : wr.cell? ⟨gb188, 3, none⟩ = some (.slice A0_3 l0_3.length c0_3) := (blk_cell BK188.out 3).trans rfl
     have hfz35_0 := blk_frozen BK188.out 0
     have hfz35_1 := blk_frozen BK188.out 1
     have hfz35_2 := blk_frozen BK188.out 2
     have hfz35_3 := blk_frozen BK188.out 3
     go_wp2
     go_ret
     exact ⟨_, by first | rfl | (simp [errW_none, errW_some] <;> rfl) | (simp [*, errW_none, errW_some] <;> rfl), by (with_reducible repeat (first | apply Kd.R_alloc | apply Kd.R_drewN | apply Kd.R_drew)); exact HO_6.out, by repeat (first | (with_reducible first | exact HB.out | apply below_alloc | apply pw_below_drewN | apply below_drew1 | refine below_set ?_ GE188.out) | exact HB.out), by repeat (first | (with_reducible first | exact HK.out | apply Kept.alloc | apply Kept.drewN | apply Kept.drew | refine Kept.setCell ?_ (.inr GW188.out) _) | exact HK.out)⟩
     )
   )
   )
end Go.Proofs.Ytpjbmgoagehjkaa.PDfaLists
