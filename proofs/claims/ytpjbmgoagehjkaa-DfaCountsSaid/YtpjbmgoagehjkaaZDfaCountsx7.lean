import Derived.Test.YtpjbmgoagehjkaaZDfaCountsx0
namespace Go.Proofs.Ytpjbmgoagehjkaa.PDfaCounts
open Go.RowKit Go.Proofs.YtpjbmgoagehjkaaH Go.Proofs.YtpjbmgoagehjkaaW.PrintWords Go.Proofs.YtpjbmgoagehjkaaW.PrintLast Go.Proofs.YtpjbmgoagehjkaaW.PrintMore
attribute [local go_sem] max2_int min2_int max_two min_two max_three min_three max_four min_four   -- for this text's walks alone
set_option linter.unusedVariables false
set_option linter.unusedSimpArgs false

/-! ### semigroupref07_Count: function 22 -/
mutual
def semigroupref07_Count.j0 : Nat → Int → Bool → Int → Int → List Bool → List (List Int) → Option (Int)
  | 0, _, _, _, _, _, _ => none
  | k + 1, x1, x18, x205000, x205001, x205002, x205003 => if x18 = true then (some 0) else (if 0 ≤ (x205002.length : Int) then (if ((x205002.length : Int) : Int).toNat ≤ 35184372088832 then ((some (List.replicate ((x205002.length : Int) : Int).toNat 0 : List Int)).bind fun y205 => (if 0 ≤ x205001 then (if x205001 < (y205.length : Int) then (semigroupref07_Count.l0 k x1 (y205.set (x205001 : Int).toNat 1) 0 x205000 x205001 x205002 x205003) else (none)) else (none))) else (none)) else (none))
def semigroupref07_Count.l0 : Nat → Int → List Int → Int → Int → Int → List Bool → List (List Int) → Option (Int)
  | 0, _, _, _, _, _, _, _ => none
  | k + 1, x1, x5, x6, x205000, x205001, x205002, x205003 => if x6 < x1 then (if 0 ≤ (x205002.length : Int) then (if ((x205002.length : Int) : Int).toNat ≤ 35184372088832 then (semigroupref07_Count.l1 k x1 x5 x6 (List.replicate ((x205002.length : Int) : Int).toNat 0) (x5.length : Int) 0 x205000 x205001 x205002 x205003) else (none)) else (none)) else (semigroupref07_Count.l3 k x5 0 (x5.length : Int) 0 x205000 x205001 x205002 x205003)
def semigroupref07_Count.l1 : Nat → Int → List Int → Int → List Int → Int → Int → Int → Int → List Bool → List (List Int) → Option (Int)
  | 0, _, _, _, _, _, _, _, _, _, _ => none
  | k + 1, x1, x5, x6, x7, x37, x38, x205000, x205001, x205002, x205003 => if x38 < x37 then (if 0 ≤ x38 then (if x38 < (x205003.length : Int) then (semigroupref07_Count.l2 k x1 x5 x6 x7 x38 x37 x38 (rd_L1 x205003 x38) ((rd_L1 x205003 x38).length : Int) 0 x205000 x205001 x205002 x205003) else (none)) else (none)) else (semigroupref07_Count.l0 k x1 x7 (wrap64 (x6 + 1)) x205000 x205001 x205002 x205003)
def semigroupref07_Count.l2 : Nat → Int → List Int → Int → List Int → Int → Int → Int → List Int → Int → Int → Int → Int → List Bool → List (List Int) → Option (Int)
  | 0, _, _, _, _, _, _, _, _, _, _, _, _, _, _ => none
  | k + 1, x1, x5, x6, x7, x8, x37, x38, x45, x46, x47, x205000, x205001, x205002, x205003 => if x47 < x46 then (if 0 ≤ x47 then (if x47 < (x45.length : Int) then (if 0 ≤ (rd x45 x47) then (if (rd x45 x47) < (x7.length : Int) then (if 0 ≤ x8 then (if x8 < (x5.length : Int) then (semigroupref07_Count.l2 k x1 x5 x6 (x7.set ((rd x45 x47) : Int).toNat (Int.tmod (wrap64 ((rd x7 (rd x45 x47)) + (rd x5 x8))) 2305843009213693951)) x8 x37 x38 x45 x46 (wrap64 (x47 + 1)) x205000 x205001 x205002 x205003) else (none)) else (none)) else (none)) else (none)) else (none)) else (none)) else (semigroupref07_Count.l1 k x1 x5 x6 x7 x37 (wrap64 (x38 + 1)) x205000 x205001 x205002 x205003)
def semigroupref07_Count.l3 : Nat → List Int → Int → Int → Int → Int → Int → List Bool → List (List Int) → Option (Int)
  | 0, _, _, _, _, _, _, _, _ => none
  | k + 1, x5, x11, x68, x69, x205000, x205001, x205002, x205003 => if x69 < x68 then (if 0 ≤ x69 then (if x69 < (x205002.length : Int) then (if rdOf false x205002 x69 = true then (if x69 < (x5.length : Int) then (semigroupref07_Count.l3 k x5 (Int.tmod (wrap64 (x11 + (rd x5 x69))) 2305843009213693951) x68 (wrap64 (x69 + 1)) x205000 x205001 x205002 x205003) else (none)) else (semigroupref07_Count.l3 k x5 x11 x68 (wrap64 (x69 + 1)) x205000 x205001 x205002 x205003)) else (none)) else (none)) else (some x11)
end
def semigroupref07_Count.f (k : Nat) (a0_0 : Int) (a0_1 : Int) (l0_2 : List Bool) (l0_3 : List (List Int)) (a1 : Int) : Option (Int) := if a1 < 0 then (semigroupref07_Count.j0 k a1 true a0_0 a0_1 l0_2 l0_3) else (semigroupref07_Count.j0 k a1 (decide (a1 > 10000)) a0_0 a0_1 l0_2 l0_3)
theorem semigroupref07_Count.mono_l : ∀ k, (∀ y0 y1 y2 y3 y4 y5, LeO (semigroupref07_Count.j0 k y0 y1 y2 y3 y4 y5) (semigroupref07_Count.j0 (k + 1) y0 y1 y2 y3 y4 y5)) ∧ (∀ y0 y1 y2 y3 y4 y5 y6, LeO (semigroupref07_Count.l0 k y0 y1 y2 y3 y4 y5 y6) (semigroupref07_Count.l0 (k + 1) y0 y1 y2 y3 y4 y5 y6)) ∧ (∀ y0 y1 y2 y3 y4 y5 y6 y7 y8 y9, LeO (semigroupref07_Count.l1 k y0 y1 y2 y3 y4 y5 y6 y7 y8 y9) (semigroupref07_Count.l1 (k + 1) y0 y1 y2 y3 y4 y5 y6 y7 y8 y9)) ∧ (∀ y0 y1 y2 y3 y4 y5 y6 y7 y8 y9 y10 y11 y12 y13, LeO (semigroupref07_Count.l2 k y0 y1 y2 y3 y4 y5 y6 y7 y8 y9 y10 y11 y12 y13) (semigroupref07_Count.l2 (k + 1) y0 y1 y2 y3 y4 y5 y6 y7 y8 y9 y10 y11 y12 y13)) ∧ (∀ y0 y1 y2 y3 y4 y5 y6 y7, LeO (semigroupref07_Count.l3 k y0 y1 y2 y3 y4 y5 y6 y7) (semigroupref07_Count.l3 (k + 1) y0 y1 y2 y3 y4 y5 y6 y7))
  | 0 => ⟨fun _ _ _ _ _ _ r h => by simp [semigroupref07_Count.j0] at h, fun _ _ _ _ _ _ _ r h => by simp [semigroupref07_Count.l0] at h, fun _ _ _ _ _ _ _ _ _ _ r h => by simp [semigroupref07_Count.l1] at h, fun _ _ _ _ _ _ _ _ _ _ _ _ _ _ r h => by simp [semigroupref07_Count.l2] at h, fun _ _ _ _ _ _ _ _ r h => by simp [semigroupref07_Count.l3] at h⟩
  | k + 1 => by
    obtain ⟨ih0, ih1, ih2, ih3, ih4⟩ := semigroupref07_Count.mono_l k
    refine ⟨?_, ?_, ?_, ?_, ?_⟩
    (focus
    intro y0 y1 y2 y3 y4 y5
    unfold semigroupref07_Count.j0
    repeat' first
    | (with_reducible exact ih0 _ _ _ _ _ _)
    | (with_reducible exact ih1 _ _ _ _ _ _ _)
    | (with_reducible exact ih2 _ _ _ _ _ _ _ _ _ _)
    | (with_reducible exact ih3 _ _ _ _ _ _ _ _ _ _ _ _ _ _)
    | (with_reducible exact ih4 _ _ _ _ _ _ _ _)
    | (with_reducible exact LeO.refl _)
    | (with_reducible exact LeO.none _)
    | (with_reducible refine LeO.ite ?_ ?_)
    | (with_reducible refine LeO.bind ?_ (fun _ => ?_))
    | exact ih0 _ _ _ _ _ _
    | exact ih1 _ _ _ _ _ _ _
    | exact ih2 _ _ _ _ _ _ _ _ _ _
    | exact ih3 _ _ _ _ _ _ _ _ _ _ _ _ _ _
    | exact ih4 _ _ _ _ _ _ _ _
    | exact LeO.none _
    | refine LeO.ite ?_ ?_
    | refine LeO.bind ?_ (fun _ => ?_)
    )
    (focus
    intro y0 y1 y2 y3 y4 y5 y6
    unfold semigroupref07_Count.l0
    repeat' first
    | (with_reducible exact ih0 _ _ _ _ _ _)
    | (with_reducible exact ih1 _ _ _ _ _ _ _)
    | (with_reducible exact ih2 _ _ _ _ _ _ _ _ _ _)
    | (with_reducible exact ih3 _ _ _ _ _ _ _ _ _ _ _ _ _ _)
    | (with_reducible exact ih4 _ _ _ _ _ _ _ _)
    | (with_reducible exact LeO.refl _)
    | (with_reducible exact LeO.none _)
    | (with_reducible refine LeO.ite ?_ ?_)
    | (with_reducible refine LeO.bind ?_ (fun _ => ?_))
    | exact ih0 _ _ _ _ _ _
    | exact ih1 _ _ _ _ _ _ _
    | exact ih2 _ _ _ _ _ _ _ _ _ _
    | exact ih3 _ _ _ _ _ _ _ _ _ _ _ _ _ _
    | exact ih4 _ _ _ _ _ _ _ _
    | exact LeO.none _
    | refine LeO.ite ?_ ?_
    | refine LeO.bind ?_ (fun _ => ?_)
    )
    (focus
    intro y0 y1 y2 y3 y4 y5 y6 y7 y8 y9
    unfold semigroupref07_Count.l1
    repeat' first
    | (with_reducible exact ih0 _ _ _ _ _ _)
    | (with_reducible exact ih1 _ _ _ _ _ _ _)
    | (with_reducible exact ih2 _ _ _ _ _ _ _ _ _ _)
    | (with_reducible exact ih3 _ _ _ _ _ _ _ _ _ _ _ _ _ _)
    | (with_reducible exact ih4 _ _ _ _ _ _ _ _)
    | (with_reducible exact LeO.refl _)
    | (with_reducible exact LeO.none _)
    | (with_reducible refine LeO.ite ?_ ?_)
    | (with_reducible refine LeO.bind ?_ (fun _ => ?_))
    | exact ih0 _ _ _ _ _ _
    | exact ih1 _ _ _ _ _ _ _
    | exact ih2 _ _ _ _ _ _ _ _ _ _
    | exact ih3 _ _ _ _ _ _ _ _ _ _ _ _ _ _
    | exact ih4 _ _ _ _ _ _ _ _
    | exact LeO.none _
    | refine LeO.ite ?_ ?_
    | refine LeO.bind ?_ (fun _ => ?_)
    )
    (focus
    intro y0 y1 y2 y3 y4 y5 y6 y7 y8 y9 y10 y11 y12 y13
    unfold semigroupref07_Count.l2
    repeat' first
    | (with_reducible exact ih0 _ _ _ _ _ _)
    | (with_reducible exact ih1 _ _ _ _ _ _ _)
    | (with_reducible exact ih2 _ _ _ _ _ _ _ _ _ _)
    | (with_reducible exact ih3 _ _ _ _ _ _ _ _ _ _ _ _ _ _)
    | (with_reducible exact ih4 _ _ _ _ _ _ _ _)
    | (with_reducible exact LeO.refl _)
    | (with_reducible exact LeO.none _)
    | (with_reducible refine LeO.ite ?_ ?_)
    | (with_reducible refine LeO.bind ?_ (fun _ => ?_))
    | exact ih0 _ _ _ _ _ _
    | exact ih1 _ _ _ _ _ _ _
    | exact ih2 _ _ _ _ _ _ _ _ _ _
    | exact ih3 _ _ _ _ _ _ _ _ _ _ _ _ _ _
    | exact ih4 _ _ _ _ _ _ _ _
    | exact LeO.none _
    | refine LeO.ite ?_ ?_
    | refine LeO.bind ?_ (fun _ => ?_)
    )
    (focus
    intro y0 y1 y2 y3 y4 y5 y6 y7
    unfold semigroupref07_Count.l3
    repeat' first
    | (with_reducible exact ih0 _ _ _ _ _ _)
    | (with_reducible exact ih1 _ _ _ _ _ _ _)
    | (with_reducible exact ih2 _ _ _ _ _ _ _ _ _ _)
    | (with_reducible exact ih3 _ _ _ _ _ _ _ _ _ _ _ _ _ _)
    | (with_reducible exact ih4 _ _ _ _ _ _ _ _)
    | (with_reducible exact LeO.refl _)
    | (with_reducible exact LeO.none _)
    | (with_reducible refine LeO.ite ?_ ?_)
    | (with_reducible refine LeO.bind ?_ (fun _ => ?_))
    | exact ih0 _ _ _ _ _ _
    | exact ih1 _ _ _ _ _ _ _
    | exact ih2 _ _ _ _ _ _ _ _ _ _
    | exact ih3 _ _ _ _ _ _ _ _ _ _ _ _ _ _
    | exact ih4 _ _ _ _ _ _ _ _
    | exact LeO.none _
    | refine LeO.ite ?_ ?_
    | refine LeO.bind ?_ (fun _ => ?_)
    )
theorem semigroupref07_Count.mono : ∀ a0 a1 a2 a3 a4 k, LeO (semigroupref07_Count.f k a0 a1 a2 a3 a4) (semigroupref07_Count.f (k + 1) a0 a1 a2 a3 a4) := by
  intro a0 a1 a2 a3 a4 k
  obtain ⟨ih0, ih1, ih2, ih3, ih4⟩ := semigroupref07_Count.mono_l k
  unfold semigroupref07_Count.f
  repeat' first
      | (with_reducible exact ih0 _ _ _ _ _ _)
      | (with_reducible exact ih1 _ _ _ _ _ _ _)
      | (with_reducible exact ih2 _ _ _ _ _ _ _ _ _ _)
      | (with_reducible exact ih3 _ _ _ _ _ _ _ _ _ _ _ _ _ _)
      | (with_reducible exact ih4 _ _ _ _ _ _ _ _)
      | (with_reducible exact LeO.refl _)
      | (with_reducible exact LeO.none _)
      | (with_reducible refine LeO.ite ?_ ?_)
      | (with_reducible refine LeO.bind ?_ (fun _ => ?_))
      | exact ih0 _ _ _ _ _ _
      | exact ih1 _ _ _ _ _ _ _
      | exact ih2 _ _ _ _ _ _ _ _ _ _
      | exact ih3 _ _ _ _ _ _ _ _ _ _ _ _ _ _
      | exact ih4 _ _ _ _ _ _ _ _
      | exact LeO.none _
      | refine LeO.ite ?_ ?_
      | refine LeO.bind ?_ (fun _ => ?_)
def semigroupref07_Count.T15 : Bool × List (List Nat × List Nat) := (true, [([], []), ([], []), ([], []), ([], []), ([2, 3], [2, 3]), ([4], [4]), ([], []), ([], []), ([6, 7], [6, 7]), ([8], [8]), ([5, 9], [5, 9]), ([10], [10]), ([0, 1, 0, 1, 2, 3, 4, 5, 6, 7, 8, 9, 10, 11], [0, 1]), ([12, 11, 0, 1, 2, 3, 4, 5, 6, 7, 8, 9, 10, 11], [11, 12])])
def semigroupref07_Count.B15 : List Nat := [0, 0, 0, 0, 12, 28, 0, 0, 192, 448, 1020, 2044, 4095, 8191]
theorem semigroupref07_Count.tab15 : rtab .any (opsOf Try.f22 15) = semigroupref07_Count.T15 := by kernel_rfl
theorem semigroupref07_Count.bits15 : waitsOk semigroupref07_Count.T15.2 semigroupref07_Count.B15 = true := by kernel_rfl
set_option maxHeartbeats 8000000 in
set_option maxRecDepth 100000 in
theorem semigroupref07_Count.calls (k : Nat) (a0_0 : Int) (a0_1 : Int) (A0_2 : Option Addr) (c0_2 : Nat) (l0_2 : List Bool) (A0_3 : Option Addr) (c0_3 : Nat) (l0_3 : List (List Int)) (a1 : Int) (r : Int) (w : World) (hr0_2 : Kd.C Kd.bool w A0_2 l0_2.length l0_2) (hc0_2 : l0_2.length ≤ c0_2) (hr0_3 : Kd.C (Kd.slice 3 (Kd.int .i64)) w A0_3 l0_3.length l0_3) (hc0_3 : l0_3.length ≤ c0_3) (h : semigroupref07_Count.f k a0_0 a0_1 l0_2 l0_3 a1 = some r) :
    Calls Try.prog 22 #[.agg #[.int .i64 a0_0, .int .i64 a0_1, .slice A0_2 l0_2.length c0_2, .slice A0_3 l0_3.length c0_3], .int .i64 a1] w fun e w' => e = .returned (.int .i64 r) ∧ Below w.heap.size w w' := by
  have hu25 := Try.underlying25
  have HR0_2 := Aside0.mk hr0_2
  have HC0_2 := Aside0.mk hc0_2
  clear hr0_2 hc0_2
  have HR0_3 := Aside0.mk hr0_3
  have HC0_3 := Aside0.mk hc0_3
  clear hr0_3 hc0_3
  have HB := Aside0.mk (Below.refl w.heap.size w)
  have H : (if a1 < 0 then (semigroupref07_Count.j0 k a1 true a0_0 a0_1 l0_2 l0_3) else (semigroupref07_Count.j0 k a1 (decide (a1 > 10000)) a0_0 a0_1 l0_2 l0_3)) = some r := h
  clear h
  have HC3 := Aside0.mk H
  clear H
  go_enter Try.func22, Try.ntmps22
  go_upto_region 1 with (first | ((with_reducible refine gate_dst (N := 2) rfl ?_); refine box_event ?hg (N := 2) ?hd (cs := #[.int .i64 a0_0, .int .i64 a0_1, .slice A0_2 l0_2.length c0_2, .slice A0_3 l0_3.length c0_3]) (t := 25) ?hr ?_; (case hd => rfl); (case hg => rfl); (case hr => first | (go_simp; done) | (go_simp; rfl)); intro gb204 hg w4 hbox hb; have n0_ := Aside0.mk (below_step (by repeat (first | (with_reducible first | exact HB.out | apply below_alloc | apply pw_below_drewN | apply below_drew1) | exact HB.out)) hb); have n1_ := Aside0.mk (hbox); have n2_ := Aside0.mk ((by rw [hg]; exact (below_size (by repeat (first | (with_reducible first | exact HB.out | apply below_alloc | apply pw_below_drewN | apply below_drew1) | exact HB.out))) : w.heap.size ≤ gb204)); have n3_ := Aside0.mk ((by rw [hg]; exact (below_size (by repeat (first | (with_reducible first | exact HB.out | apply below_alloc | apply pw_below_drewN | apply below_drew1) | exact HB.out))) : w.heap.size ≤ gb204)); clear HB; have HB := n0_; have BK204 := n1_; have GW204 := n2_; have GE204 := n3_; clear n0_ n1_ n2_ n3_; clear hb hbox hg))
  (try simp only [Act.put, List.setIfInBounds_toArray, List.set_cons_zero, List.set_cons_succ])
  go_cut [18] (fun v18 wc => ∃ (kq : Nat) (x18_2 : Bool), v18 = .bool x18_2 ∧ Aside0 (semigroupref07_Count.j0 kq a1 x18_2 a0_0 a0_1 l0_2 l0_3 = some r) ∧ Aside0 (kq ≤ k) ∧ Aside0 (wc.heap[gb204]? = some (.cells #[.int .i64 a0_0, .int .i64 a0_1, (.slice A0_2 l0_2.length c0_2), (.slice A0_3 l0_3.length c0_3)] 25 (0, 0))) ∧ Aside0 (Below w.heap.size w wc))
  case first =>
    have H := HC3.out
    clear HC3
    by_cases c5 : a1 < 0
    (focus
    rw [if_pos c5] at H
    have c5b0 : decide (a1 < 0) = true := decide_eq_true c5
    clear c5
    (first | rw [c5b0] | (simp only [i64_w, i32_w]; rw [c5b0]) | skip)
    have H' := Aside0.mk H
    clear H
    go_wp2
    go_meet
    case rel => exact ⟨_, (true), (by first | rfl | (simp; done) | (simp [*]; done)), H', ⟨by first | omega | exact Nat.le_refl _⟩, ⟨by (with_reducible repeat (first | refine blk_drewN ?_ _ | refine blk_drew ?_ | refine blk_alloc ?_ _)); exact BK204.out⟩, ⟨by repeat (first | (with_reducible first | exact HB.out | apply below_alloc | apply pw_below_drewN | apply below_drew1 | refine below_set ?_ GE204.out) | exact HB.out)⟩⟩
    )
    (focus
    rw [if_neg c5] at H
    have c5b0 : decide (a1 < 0) = false := decide_eq_false c5
    clear c5
    (first | rw [c5b0] | (simp only [i64_w, i32_w]; rw [c5b0]) | skip)
    have H' := Aside0.mk H
    clear H
    go_wp2
    go_meet
    case rel => exact ⟨_, (decide (a1 > 10000)), (by first | rfl | (simp; done) | (simp [*]; done)), H', ⟨by first | omega | exact Nat.le_refl _⟩, ⟨by (with_reducible repeat (first | refine blk_drewN ?_ _ | refine blk_drew ?_ | refine blk_alloc ?_ _)); exact BK204.out⟩, ⟨by repeat (first | (with_reducible first | exact HB.out | apply below_alloc | apply pw_below_drewN | apply below_drew1 | refine below_set ?_ GE204.out) | exact HB.out)⟩⟩
    )
  case rest =>
    clear HC3
    try clear c2
    try clear p2
    try clear c5
    try clear c5b0
    obtain ⟨kq, x18_2, rfl, HA, HJ2, BK204, HB⟩ := hcut
    cases kq with
    | zero => exact absurd HA.out (by simp [semigroupref07_Count.j0])
    | succ kj2 =>
      have H := HA.out
      clear HA
      simp only [semigroupref07_Count.j0] at H
      by_cases c6 : x18_2 = true
      (focus
      subst c6
      have H1 : (some 0) = some r := by rw [if_pos rfl] at H; exact H
      clear H
      have H := H1
      clear H1
      obtain rfl := Option.some.inj H
      go_wp2
      go_ret
      exact ⟨by first | rfl | (simp [errW_none, errW_some] <;> rfl) | (simp [*, errW_none, errW_some] <;> rfl), by repeat (first | (with_reducible first | exact HB.out | apply below_alloc | apply pw_below_drewN | apply below_drew1 | refine below_set ?_ GE204.out) | exact HB.out)⟩
      )
      (focus
      replace c6 := Bool.eq_false_iff.mpr c6
      subst c6
      have H1 : (if 0 ≤ (l0_2.length : Int) then (if ((l0_2.length : Int) : Int).toNat ≤ 35184372088832 then ((some (List.replicate ((l0_2.length : Int) : Int).toNat 0 : List Int)).bind fun y205 => (if 0 ≤ a0_1 then (if a0_1 < (y205.length : Int) then (semigroupref07_Count.l0 kj2 a1 (y205.set (a0_1 : Int).toNat 1) 0 a0_0 a0_1 l0_2 l0_3) else (none)) else (none))) else (none)) else (none)) = some r := by rw [if_neg (show ¬ (false = true) by decide)] at H; exact H
      clear H
      have H := H1
      clear H1
      by_cases c7 : 0 ≤ (l0_2.length : Int)
      (focus
      rw [if_pos c7] at H
      have c7b0 := eq_true c7
      have c7b1 : decide (0 ≤ (l0_2.length : Int)) = true := decide_eq_true c7
      clear c7
      by_cases c8 : ((l0_2.length : Int) : Int).toNat ≤ 35184372088832
      (focus
      rw [if_pos c8] at H
      have c8b0 := eq_true c8
      have c8b1 : decide (((l0_2.length : Int) : Int).toNat ≤ 35184372088832) = true := decide_eq_true c8
      clear c8
      obtain ⟨y205, hy205⟩ : ∃ y_ : List Int, y_ = (List.replicate ((l0_2.length : Int) : Int).toNat 0) := ⟨_, rfl⟩
      replace H : (if 0 ≤ a0_1 then (if a0_1 < (y205.length : Int) then (semigroupref07_Count.l0 kj2 a1 (y205.set (a0_1 : Int).toNat 1) 0 a0_0 a0_1 l0_2 l0_3) else (none)) else (none)) = some r := by first | (rw [hy205]; with_reducible exact H) | (have H2_ := (Option.bind_some _ _).symm.trans H; rw [hy205]; with_reducible exact H2_) | (have H2_ := (Option.bind_some _ _).symm.trans H; with_reducible exact H2_) | with_reducible exact H | (rw [hy205]; exact H) | exact H
      have Ny205 := Aside0.mk hy205
      clear hy205
      by_cases c9 : 0 ≤ a0_1
      (focus
      rw [if_pos c9] at H
      have c9b0 : decide (0 ≤ a0_1) = true := decide_eq_true c9
      clear c9
      by_cases c10 : a0_1 < (y205.length : Int)
      (focus
      rw [if_pos c10] at H
      have c10b0 : decide (a0_1 < (y205.length : Int)) = true := decide_eq_true c10
      clear c10
      obtain ⟨y208, hy208⟩ : ∃ y_ : List Int, y_ = (y205.set (a0_1 : Int).toNat 1) := ⟨_, rfl⟩
      replace H : (semigroupref07_Count.l0 kj2 a1 y208 0 a0_0 a0_1 l0_2 l0_3) = some r := by first | (rw [hy208]; with_reducible exact H) | (have H2_ := (Option.bind_some _ _).symm.trans H; rw [hy208]; with_reducible exact H2_) | (have H2_ := (Option.bind_some _ _).symm.trans H; with_reducible exact H2_) | with_reducible exact H | (rw [hy208]; exact H) | exact H
      have Ny208 := Aside0.mk hy208
      clear hy208
      have H' := Aside0.mk H
      clear H
      have hcz12_0 : wc.cell? ⟨gb204, 0, none⟩ = some (.int .i64 a0_0) := (blk_cell BK204.out 0).trans rfl
      have hcz12_1 : wc.cell? ⟨gb204, 1, none⟩ = some (.int .i64 a0_1) := (blk_cell BK204.out 1).trans rfl
      have hcz12_2 : wc.cell? ⟨gb204, 2, none⟩ = some (.slice A0_2 l0_2.length c0_2) := (blk_cell BK204.out 2).trans rfl
      have hcz12_3 : wc.cell? ⟨gb204, 3, none⟩ = some (.slice A0_3 l0_3.length c0_3) := (blk_cell BK204.out 3).trans rfl
      have hfz12_0 := blk_frozen BK204.out 0
      have hfz12_1 := blk_frozen BK204.out 1
      have hfz12_2 := blk_frozen BK204.out 2
      have hfz12_3 := blk_frozen BK204.out 3
      go_wp2_with (first | ((with_reducible refine gate_dst (N := 22) rfl ?_); refine Kd.R_make (Kd.int .i64) _ 3 rfl (N := 22) rfl 38 _ _ rfl (l0_2.length : Int) rfl rfl Try.underlying38 (.int .i64 0) 8 info3 rfl (by decide) (by omega) 0 (ok := fun _ => True) (okp := fun _ => True) rfl (fun _ hk => hk) trivial (of_decide_eq_true (by first | (with_reducible assumption) | assumption)) (Nat.le_trans (Nat.mul_le_mul_right _ (of_decide_eq_true (by first | (with_reducible assumption) | assumption) : (l0_2.length : Int).toNat ≤ 35184372088832)) (by omega)) (Below.refl _ _) (Nat.le_refl _) ?_; intro v206 w13 ho14 hb hg_ hnew_; clear hg_ hnew_; (first | rw [← Ny205.out] at ho14 | (simp only [Int.reduceToNat] at ho14; rw [← Ny205.out] at ho14)); have n0_ := Aside0.mk (Kd.R_lower ho14 (below_size (by repeat (first | (with_reducible first | exact HB.out | apply below_alloc | apply pw_below_drewN | apply below_drew1 | refine below_set ?_ GE204.out) | exact HB.out)))); have n1_ := Aside0.mk (blk_below (g := gb204) (o := .cells #[.int .i64 a0_0, .int .i64 a0_1, .slice A0_2 l0_2.length c0_2, .slice A0_3 l0_3.length c0_3] 25 (0, 0)) (by (with_reducible repeat (first | refine blk_drewN ?_ _ | refine blk_drew ?_ | refine blk_alloc ?_ _)); exact BK204.out) hb); have n2_ := Aside0.mk (below_step (by repeat (first | (with_reducible first | exact HB.out | apply below_alloc | apply pw_below_drewN | apply below_drew1 | refine below_set ?_ GE204.out) | exact HB.out)) hb); clear BK204; clear HB; have HO207 := n0_; have BK204 := n1_; have HB := n2_; clear n0_ n1_ n2_; clear hb ho14; have hcz15_0 : w13.cell? ⟨gb204, 0, none⟩ = some (.int .i64 a0_0) := (blk_cell BK204.out 0).trans rfl; have hcz15_1 : w13.cell? ⟨gb204, 1, none⟩ = some (.int .i64 a0_1) := (blk_cell BK204.out 1).trans rfl; have hcz15_2 : w13.cell? ⟨gb204, 2, none⟩ = some (.slice A0_2 l0_2.length c0_2) := (blk_cell BK204.out 2).trans rfl; have hcz15_3 : w13.cell? ⟨gb204, 3, none⟩ = some (.slice A0_3 l0_3.length c0_3) := (blk_cell BK204.out 3).trans rfl; have hfz15_0 := blk_frozen BK204.out 0; have hfz15_1 := blk_frozen BK204.out 1; have hfz15_2 := blk_frozen BK204.out 2; have hfz15_3 := blk_frozen BK204.out 3; have p11 : 0 ≤ (a0_1 : Int) := of_decide_eq_true (by first | (with_reducible assumption) | assumption); have q11 : (a0_1 : Int) < ((y205.length : Int) : Int) := of_decide_eq_true (by first | (with_reducible assumption) | assumption); obtain ⟨go11, co11, eo11, gb11, gl11, cl11, HG11⟩ := Kd.R_form HO207.out (by first | omega | (have e_ := (Kd.R_reads' HO207.out).1; omega)); (first | cases eo11 | (injection eo11 with ea_ en_ ec_; (first | subst ea_ | (injection ea_ with ea_; subst ea_)); subst ec_; clear en_)); have GB11 := Aside0.mk gb11; have GG11 := Aside0.mk HG11; clear gb11 gl11 HG11; obtain ⟨hx11_0, hf11_0⟩ := Kd.R_celln 0 HO207.out (a0_1 : Int) p11 q11; replace p11 := eq_true p11; replace q11 := eq_true q11; obtain ⟨hy16_, hz16_⟩ := Kd.R_celln 0 HO207.out (a0_1 : Int) (of_decide_eq_true (by first | (with_reducible assumption) | assumption)) (of_decide_eq_true (by first | (with_reducible assumption) | assumption)); have HP16 := Kd.R_putg HO207.out (a0_1 : Int) 1) | ((with_reducible refine gate_store (t := 3) (p := 26) rfl ?_); refine store_event (t := 3) (p := 26) (v := ?vo_w17) (w1 := (w13.setCell ⟨go11, (a0_1 : Int).toNat, none⟩ (.int .i64 1))) ?hg ?ho ?hn ?hr ?_; (case ho => rfl); (case hg => rfl); (case hn => rfl); (case hr => first | (go_simp; done) | (go_simp; rfl)); intro w17 hw; have hg : w13.grownBy w17 (some go11) := (by rw [hw]; exact HP16.2); have hp_ : Kd.R (Kd.int .i64) 3 w17 w.heap.size (fun _ => True) (.slice (some ⟨go11, 0, none⟩) y205.length co11) y208 := (by rw [hw, Ny208.out]; exact HP16.1); clear HP16; have n0_ := Aside0.mk (blk_grown (g := gb204) (o := .cells #[.int .i64 a0_0, .int .i64 a0_1, .slice A0_2 l0_2.length c0_2, .slice A0_3 l0_3.length c0_3] 25 (0, 0)) (by (with_reducible repeat (first | refine blk_drewN ?_ _ | refine blk_drew ?_ | refine blk_alloc ?_ _)); exact BK204.out) hg (Kd.R_ne HO207.out BK204.out (by decide))); have n1_ := Aside0.mk (hp_); have n2_ := Aside0.mk ((by rw [hw]; exact below_set (HB.out) GB11.out : Below w.heap.size w w17)); clear BK204; clear HO207; clear HB; have BK204 := n0_; have HO207 := n1_; have HB := n2_; clear n0_ n1_ n2_; clear hg hw hp_))
      go_loopg [5, 6] kj2 (fun kq v5 v6 w' => ∃ (x5_2 : List Int) (x6_2 : Int), v6 = .int .i64 x6_2 ∧ Aside0 (semigroupref07_Count.l0 kq a1 x5_2 x6_2 a0_0 a0_1 l0_2 l0_3 = some r) ∧ Aside0 (kq ≤ kj2) ∧ Aside0 (Kd.R (Kd.int .i64) 3 w' w.heap.size (fun _ => True) v5 x5_2) ∧ Aside0 (w'.heap[gb204]? = some (.cells #[.int .i64 a0_0, .int .i64 a0_1, (.slice A0_2 l0_2.length c0_2), (.slice A0_3 l0_3.length c0_3)] 25 (0, 0))) ∧ Aside0 (Below w.heap.size w w'))
      case atStart => exact ⟨(y208), (0), (by first | rfl | (simp; done) | (simp [*]; done)), H', ⟨Nat.le_refl _⟩, ⟨by (with_reducible repeat (first | apply Kd.R_alloc | apply Kd.R_drewN | apply Kd.R_drew)); exact HO207.out⟩, ⟨by (with_reducible repeat (first | refine blk_drewN ?_ _ | refine blk_drew ?_ | refine blk_alloc ?_ _)); exact BK204.out⟩, ⟨by repeat (first | (with_reducible first | exact HB.out | apply below_alloc | apply pw_below_drewN | apply below_drew1 | refine below_set ?_ GE204.out) | exact HB.out)⟩⟩
      case round =>
        clear H'
        try clear c1
        try clear p1
        try clear q1
        try clear hx1
        try clear c2
        try clear p2
        try clear c5
        try clear c5b0
        try clear c6
        try clear c7
        try clear c7b0
        try clear c7b1
        try clear c8
        try clear c8b0
        try clear c8b1
        try clear c9
        try clear c9b0
        try clear c10
        try clear c10b0
        try clear p11
        try clear q11
        try clear hx11
        try clear hf11
        try clear hcz12_0
        try clear hcz12_1
        try clear hcz12_2
        try clear hcz12_3
        try clear hcz15_0
        try clear hcz15_1
        try clear hcz15_2
        try clear hcz15_3
        try clear hfz12_0
        try clear hfz12_1
        try clear hfz12_2
        try clear hfz12_3
        try clear hfz15_0
        try clear hfz15_1
        try clear hfz15_2
        try clear hfz15_3
        try clear hx11_0
        try clear p11
        try clear p2
        try clear q11
        obtain ⟨x5_2, x6_2, rfl, HA, HK2, HO_5, BK204, HB⟩ := hrel
        cases gk with
        | zero => exact absurd HA.out (by simp [semigroupref07_Count.l0])
        | succ k2 =>
          have H := HA.out
          clear HA
          simp only [semigroupref07_Count.l0] at H
          by_cases c18 : x6_2 < a1
          (focus
          rw [if_pos c18] at H
          have c18b0 : decide (x6_2 < a1) = true := decide_eq_true c18
          clear c18
          by_cases c19 : 0 ≤ (l0_2.length : Int)
          (focus
          rw [if_pos c19] at H
          have c19b0 := eq_true c19
          have c19b1 : decide (0 ≤ (l0_2.length : Int)) = true := decide_eq_true c19
          clear c19
          by_cases c20 : ((l0_2.length : Int) : Int).toNat ≤ 35184372088832
          (focus
          rw [if_pos c20] at H
          have c20b0 := eq_true c20
          have c20b1 : decide (((l0_2.length : Int) : Int).toNat ≤ 35184372088832) = true := decide_eq_true c20
          clear c20
          obtain ⟨y209, hy209⟩ : ∃ y_ : List Int, y_ = (List.replicate ((l0_2.length : Int) : Int).toNat 0) := ⟨_, rfl⟩
          replace H : (semigroupref07_Count.l1 k2 a1 x5_2 x6_2 y209 (x5_2.length : Int) 0 a0_0 a0_1 l0_2 l0_3) = some r := by first | (rw [hy209]; with_reducible exact H) | (have H2_ := (Option.bind_some _ _).symm.trans H; rw [hy209]; with_reducible exact H2_) | (have H2_ := (Option.bind_some _ _).symm.trans H; with_reducible exact H2_) | with_reducible exact H | (rw [hy209]; exact H) | exact H
          have Ny209 := Aside0.mk hy209
          clear hy209
          have H' := Aside0.mk H
          clear H
          have hcz21_0 : wr.cell? ⟨gb204, 0, none⟩ = some (.int .i64 a0_0) := (blk_cell BK204.out 0).trans rfl
          have hcz21_1 : wr.cell? ⟨gb204, 1, none⟩ = some (.int .i64 a0_1) := (blk_cell BK204.out 1).trans rfl
          have hcz21_2 : wr.cell? ⟨gb204, 2, none⟩ = some (.slice A0_2 l0_2.length c0_2) := (blk_cell BK204.out 2).trans rfl
          have hcz21_3 : wr.cell? ⟨gb204, 3, none⟩ = some (.slice A0_3 l0_3.length c0_3) := (blk_cell BK204.out 3).trans rfl
          have hfz21_0 := blk_frozen BK204.out 0
          have hfz21_1 := blk_frozen BK204.out 1
          have hfz21_2 := blk_frozen BK204.out 2
          have hfz21_3 := blk_frozen BK204.out 3
          go_wp2_with (first | ((with_reducible refine gate_dst (N := 35) rfl ?_); refine Kd.R_make (Kd.int .i64) _ 3 rfl (N := 35) rfl 38 _ _ rfl (l0_2.length : Int) rfl rfl Try.underlying38 (.int .i64 0) 8 info3 rfl (by decide) (by omega) 0 (ok := fun _ => True) (okp := fun _ => True) rfl (fun _ hk => hk) trivial (of_decide_eq_true (by first | (with_reducible assumption) | assumption)) (Nat.le_trans (Nat.mul_le_mul_right _ (of_decide_eq_true (by first | (with_reducible assumption) | assumption) : (l0_2.length : Int).toNat ≤ 35184372088832)) (by omega)) (Below.refl _ _) (Nat.le_refl _) ?_; intro v210 w22 ho23 hb hg_ hnew_; clear hg_ hnew_; (first | rw [← Ny209.out] at ho23 | (simp only [Int.reduceToNat] at ho23; rw [← Ny209.out] at ho23)); have n0_ := Aside0.mk (Kd.R_elder' (by (with_reducible repeat (first | apply Kd.R_alloc | apply Kd.R_drewN | apply Kd.R_drew)); exact HO_5.out) (Kd.R_base ho23) hb); have n1_ := Aside0.mk (Kd.R_lower (Kd.R_new' ho23 (Kd.R_lt (by (with_reducible repeat (first | apply Kd.R_alloc | apply Kd.R_drewN | apply Kd.R_drew)); exact HO_5.out))) (below_size (by repeat (first | (with_reducible first | exact HB.out | apply below_alloc | apply pw_below_drewN | apply below_drew1 | refine below_set ?_ GE204.out) | exact HB.out)))); have n2_ := Aside0.mk (blk_below (g := gb204) (o := .cells #[.int .i64 a0_0, .int .i64 a0_1, .slice A0_2 l0_2.length c0_2, .slice A0_3 l0_3.length c0_3] 25 (0, 0)) (by (with_reducible repeat (first | refine blk_drewN ?_ _ | refine blk_drew ?_ | refine blk_alloc ?_ _)); exact BK204.out) hb); have n3_ := Aside0.mk (below_step (by repeat (first | (with_reducible first | exact HB.out | apply below_alloc | apply pw_below_drewN | apply below_drew1 | refine below_set ?_ GE204.out) | exact HB.out)) hb); clear HO_5; clear BK204; clear HB; have HO_5 := n0_; have HO211 := n1_; have BK204 := n2_; have HB := n3_; clear n0_ n1_ n2_ n3_; clear hb ho23; obtain ⟨Ao24, co24, eo24⟩ := Kd.R_slice HO_5.out; subst eo24))
          go_loopg [38] k2 (fun kq v38 w' => ∃ (x7_3 : List Int) (x38_3 : Int), v38 = .int .i64 x38_3 ∧ Aside0 (semigroupref07_Count.l1 kq a1 x5_2 x6_2 x7_3 (x5_2.length : Int) x38_3 a0_0 a0_1 l0_2 l0_3 = some r) ∧ Aside0 (kq ≤ k2) ∧ Aside0 (Kd.R (Kd.int .i64) 3 w' w.heap.size (fun k_ => some k_ ≠ (v210 : Value).ownBlock) (.slice Ao24 x5_2.length co24) x5_2) ∧ Aside0 (Kd.R (Kd.int .i64) 3 w' w.heap.size (fun k_ => some k_ ≠ ((.slice Ao24 x5_2.length co24) : Value).ownBlock) v210 x7_3) ∧ Aside0 (w'.heap[gb204]? = some (.cells #[.int .i64 a0_0, .int .i64 a0_1, (.slice A0_2 l0_2.length c0_2), (.slice A0_3 l0_3.length c0_3)] 25 (0, 0))) ∧ Aside0 (Below w.heap.size w w'))
          case atStart => exact ⟨(y209), (0), (by first | rfl | (simp; done) | (simp [*]; done)), H', ⟨Nat.le_refl _⟩, ⟨by (with_reducible repeat (first | apply Kd.R_alloc | apply Kd.R_drewN | apply Kd.R_drew)); exact Kd.R_mono HO_5.out (fun _ hk => hk.2)⟩, ⟨by (with_reducible repeat (first | apply Kd.R_alloc | apply Kd.R_drewN | apply Kd.R_drew)); exact Kd.R_mono HO211.out (fun _ hk => hk.2)⟩, ⟨by (with_reducible repeat (first | refine blk_drewN ?_ _ | refine blk_drew ?_ | refine blk_alloc ?_ _)); exact BK204.out⟩, ⟨by repeat (first | (with_reducible first | exact HB.out | apply below_alloc | apply pw_below_drewN | apply below_drew1 | refine below_set ?_ GE204.out) | exact HB.out)⟩⟩
          case round =>
            clear H'
            try clear c1
            try clear p1
            try clear q1
            try clear hx1
            try clear c2
            try clear p2
            try clear c5
            try clear c5b0
            try clear c6
            try clear c7
            try clear c7b0
            try clear c7b1
            try clear c8
            try clear c8b0
            try clear c8b1
            try clear c9
            try clear c9b0
            try clear c10
            try clear c10b0
            try clear p11
            try clear q11
            try clear hx11
            try clear hf11
            try clear c18
            try clear c18b0
            try clear c19
            try clear c19b0
            try clear c19b1
            try clear c20
            try clear c20b0
            try clear c20b1
            try clear c22
            try clear hcz12_0
            try clear hcz12_1
            try clear hcz12_2
            try clear hcz12_3
            try clear hcz15_0
            try clear hcz15_1
            try clear hcz15_2
            try clear hcz15_3
            try clear hcz21_0
            try clear hcz21_1
            try clear hcz21_2
            try clear hcz21_3
            try clear hfz12_0
            try clear hfz12_1
            try clear hfz12_2
            try clear hfz12_3
            try clear hfz15_0
            try clear hfz15_1
            try clear hfz15_2
            try clear hfz15_3
            try clear hfz21_0
            try clear hfz21_1
            try clear hfz21_2
            try clear hfz21_3
            try clear hx11_0
            try clear p1
            try clear p11
            try clear p2
            try clear q1
            try clear q11
            obtain ⟨x7_3, x38_3, rfl, HA, HK3, HO_5, HO_7, BK204, HB⟩ := hrel
            cases gk with
            | zero => exact absurd HA.out (by simp [semigroupref07_Count.l1])
            | succ k3 =>
              have H := HA.out
              clear HA
              simp only [semigroupref07_Count.l1] at H
              by_cases c25 : x38_3 < (x5_2.length : Int)
              (focus
              rw [if_pos c25] at H
              have c25b0 : decide (x38_3 < (x5_2.length : Int)) = true := decide_eq_true c25
              clear c25
              by_cases c26 : 0 ≤ x38_3
              (focus
              rw [if_pos c26] at H
              have c26b0 : decide (0 ≤ x38_3) = true := decide_eq_true c26
              clear c26
              by_cases c27 : x38_3 < (l0_3.length : Int)
              (focus
              rw [if_pos c27] at H
              have c27b0 : decide (x38_3 < (l0_3.length : Int)) = true := decide_eq_true c27
              clear c27
              have H' := Aside0.mk H
              clear H
              have hcz28_0 : wr.cell? ⟨gb204, 0, none⟩ = some (.int .i64 a0_0) := (blk_cell BK204.out 0).trans rfl
              have hcz28_1 : wr.cell? ⟨gb204, 1, none⟩ = some (.int .i64 a0_1) := (blk_cell BK204.out 1).trans rfl
              have hcz28_2 : wr.cell? ⟨gb204, 2, none⟩ = some (.slice A0_2 l0_2.length c0_2) := (blk_cell BK204.out 2).trans rfl
              have hcz28_3 : wr.cell? ⟨gb204, 3, none⟩ = some (.slice A0_3 l0_3.length c0_3) := (blk_cell BK204.out 3).trans rfl
              have hfz28_0 := blk_frozen BK204.out 0
              have hfz28_1 := blk_frozen BK204.out 1
              have hfz28_2 := blk_frozen BK204.out 2
              have hfz28_3 := blk_frozen BK204.out 3
              have p212 : 0 ≤ (x38_3 : Int) := of_decide_eq_true (by first | (with_reducible assumption) | assumption)
              have q212 : x38_3 < (l0_3.length : Int) := of_decide_eq_true (by first | (with_reducible assumption) | assumption)
              obtain ⟨ad212, A212_0, c212_0, e212, hx212_0, hl212_0, hi212_0⟩ := at_L1 HR0_3.out x38_3 p212 q212
              cases e212
              (try replace hx212_0 := (HB.out.cell (World.block_lt_of_cell? w _ hx212_0)).trans hx212_0)
              have HR212_0 := Aside0.mk hi212_0
              have HC212_0 := Aside0.mk hl212_0
              clear hi212_0 hl212_0
              replace p212 := eq_true p212
              replace q212 := eq_true q212
              go_wp2
              go_loopg [47] k3 (fun kq v47 w' => ∃ (x7_4 : List Int) (x47_4 : Int), v47 = .int .i64 x47_4 ∧ Aside0 (semigroupref07_Count.l2 kq a1 x5_2 x6_2 x7_4 x38_3 (x5_2.length : Int) x38_3 (rd_L1 l0_3 x38_3) ((rd_L1 l0_3 x38_3).length : Int) x47_4 a0_0 a0_1 l0_2 l0_3 = some r) ∧ Aside0 (kq ≤ k3) ∧ Aside0 (Kd.R (Kd.int .i64) 3 w' w.heap.size (fun k_ => some k_ ≠ (v210 : Value).ownBlock) (.slice Ao24 x5_2.length co24) x5_2) ∧ Aside0 (Kd.R (Kd.int .i64) 3 w' w.heap.size (fun k_ => some k_ ≠ ((.slice Ao24 x5_2.length co24) : Value).ownBlock) v210 x7_4) ∧ Aside0 (w'.heap[gb204]? = some (.cells #[.int .i64 a0_0, .int .i64 a0_1, (.slice A0_2 l0_2.length c0_2), (.slice (some ad212) l0_3.length c0_3)] 25 (0, 0))) ∧ Aside0 (Below w.heap.size w w'))
              case atStart => exact ⟨(x7_3), (0), (by first | rfl | (simp; done) | (simp [*]; done)), H', ⟨Nat.le_refl _⟩, ⟨by (with_reducible repeat (first | apply Kd.R_alloc | apply Kd.R_drewN | apply Kd.R_drew)); exact HO_5.out⟩, ⟨by (with_reducible repeat (first | apply Kd.R_alloc | apply Kd.R_drewN | apply Kd.R_drew)); exact HO_7.out⟩, ⟨by (with_reducible repeat (first | refine blk_drewN ?_ _ | refine blk_drew ?_ | refine blk_alloc ?_ _)); exact BK204.out⟩, ⟨by repeat (first | (with_reducible first | exact HB.out | apply below_alloc | apply pw_below_drewN | apply below_drew1 | refine below_set ?_ GE204.out) | exact HB.out)⟩⟩
              case round =>
                clear H'
                try clear c1
                try clear p1
                try clear q1
                try clear hx1
                try clear c2
                try clear p2
                try clear q2
                try clear hx2
                try clear c5
                try clear c5b0
                try clear c6
                try clear c7
                try clear c7b0
                try clear c7b1
                try clear c8
                try clear c8b0
                try clear c8b1
                try clear c9
                try clear c9b0
                try clear c10
                try clear c10b0
                try clear p11
                try clear q11
                try clear hx11
                try clear hf11
                try clear c18
                try clear c18b0
                try clear c19
                try clear c19b0
                try clear c19b1
                try clear c20
                try clear c20b0
                try clear c20b1
                try clear c21
                try clear p21
                try clear q21
                try clear hx21
                try clear c22
                try clear c25
                try clear c25b0
                try clear c26
                try clear c26b0
                try clear c27
                try clear c27b0
                try clear hcz12_0
                try clear hcz12_1
                try clear hcz12_2
                try clear hcz12_3
                try clear hcz15_0
                try clear hcz15_1
                try clear hcz15_2
                try clear hcz15_3
                try clear hcz21_0
                try clear hcz21_1
                try clear hcz21_2
                try clear hcz21_3
                try clear hcz28_0
                try clear hcz28_1
                try clear hcz28_2
                try clear hcz28_3
                try clear hfz12_0
                try clear hfz12_1
                try clear hfz12_2
                try clear hfz12_3
                try clear hfz15_0
                try clear hfz15_1
                try clear hfz15_2
                try clear hfz15_3
                try clear hfz21_0
                try clear hfz21_1
                try clear hfz21_2
                try clear hfz21_3
                try clear hfz28_0
                try clear hfz28_1
                try clear hfz28_2
                try clear hfz28_3
                try clear hx11_0
                try clear hx212_0
                try clear p1
                try clear p11
                try clear p2
                try clear p212
                try clear q1
                try clear q11
                try clear q212
                obtain ⟨x7_4, x47_4, rfl, HA, HK4, HO_5, HO_7, BK204, HB⟩ := hrel
                cases gk with
                | zero => exact absurd HA.out (by simp [semigroupref07_Count.l2])
                | succ k4 =>
                  have H := HA.out
                  clear HA
                  simp only [semigroupref07_Count.l2] at H
                  by_cases c29 : x47_4 < ((rd_L1 l0_3 x38_3).length : Int)
                  (focus
                  rw [if_pos c29] at H
                  have c29b0 : decide (x47_4 < ((rd_L1 l0_3 x38_3).length : Int)) = true := decide_eq_true c29
                  clear c29
                  by_cases c30 : 0 ≤ x47_4
                  (focus
                  rw [if_pos c30] at H
                  have c30b0 : decide (0 ≤ x47_4) = true := decide_eq_true c30
                  clear c30
                  by_cases c31 : x47_4 < ((rd_L1 l0_3 x38_3).length : Int)
                  (focus
                  rw [if_pos c31] at H
                  have c31b0 : decide (x47_4 < ((rd_L1 l0_3 x38_3).length : Int)) = true := decide_eq_true c31
                  clear c31
                  by_cases c32 : 0 ≤ (rd (rd_L1 l0_3 x38_3) x47_4)
                  (focus
                  rw [if_pos c32] at H
                  have c32b0 : decide (0 ≤ (rd (rd_L1 l0_3 x38_3) x47_4)) = true := decide_eq_true c32
                  clear c32
                  by_cases c33 : (rd (rd_L1 l0_3 x38_3) x47_4) < (x7_4.length : Int)
                  (focus
                  rw [if_pos c33] at H
                  have c33b0 : decide ((rd (rd_L1 l0_3 x38_3) x47_4) < (x7_4.length : Int)) = true := decide_eq_true c33
                  clear c33
                  by_cases c34 : 0 ≤ x38_3
                  (focus
                  rw [if_pos c34] at H
                  have c34b0 : decide (0 ≤ x38_3) = true := decide_eq_true c34
                  clear c34
                  by_cases c35 : x38_3 < (x5_2.length : Int)
                  (focus
                  rw [if_pos c35] at H
                  have c35b0 : decide (x38_3 < (x5_2.length : Int)) = true := decide_eq_true c35
                  clear c35
                  obtain ⟨y216, hy216⟩ : ∃ y_ : List Int, y_ = (x7_4.set ((rd (rd_L1 l0_3 x38_3) x47_4) : Int).toNat (Int.tmod (wrap64 ((rd x7_4 (rd (rd_L1 l0_3 x38_3) x47_4)) + (rd x5_2 x38_3))) 2305843009213693951)) := ⟨_, rfl⟩
                  replace H : (semigroupref07_Count.l2 k4 a1 x5_2 x6_2 y216 x38_3 (x5_2.length : Int) x38_3 (rd_L1 l0_3 x38_3) ((rd_L1 l0_3 x38_3).length : Int) (wrap64 (x47_4 + 1)) a0_0 a0_1 l0_2 l0_3) = some r := by first | (rw [hy216]; with_reducible exact H) | (have H2_ := (Option.bind_some _ _).symm.trans H; rw [hy216]; with_reducible exact H2_) | (have H2_ := (Option.bind_some _ _).symm.trans H; with_reducible exact H2_) | with_reducible exact H | (rw [hy216]; exact H) | exact H
                  have Ny216 := Aside0.mk hy216
                  clear hy216
                  have H' := Aside0.mk H
                  clear H
                  have p213 : 0 ≤ (x47_4 : Int) := of_decide_eq_true (by first | (with_reducible assumption) | assumption)
                  have q213 : x47_4 < ((rd_L1 l0_3 x38_3).length : Int) := of_decide_eq_true (by first | (with_reducible assumption) | assumption)
                  obtain ⟨ad213, e213, hx213_0⟩ := Kd.at_int HR212_0.out x47_4 p213 q213
                  cases e213
                  (try replace hx213_0 := (HB.out.cell (World.block_lt_of_cell? w _ hx213_0)).trans hx213_0)
                  replace p213 := eq_true p213
                  replace q213 := eq_true q213
                  try go_wp2
                  have n0_ := Aside0.mk (Kd.R_drew HO_5.out)
                  have n1_ := Aside0.mk (Kd.R_drew HO_7.out)
                  have n2_ := Aside0.mk (blk_drew BK204.out)
                  have n3_ := Aside0.mk (below_drew1 HB.out)
                  clear HO_5
                  clear HO_7
                  clear BK204
                  clear HB
                  have HO_5 := n0_
                  have HO_7 := n1_
                  have BK204 := n2_
                  have HB := n3_
                  clear n0_ n1_ n2_ n3_
                  obtain ⟨Ao38, co38, eo38⟩ := Kd.R_slice HO_7.out
                  (first | subst eo38 | (injection eo38 with f1_ f2_ f3_; have f4_ := f1_.symm; have f5_ := f3_.symm; clear f1_ f2_ f3_; subst f4_; subst f5_))
                  have p214 : 0 ≤ ((rd (rd_L1 l0_3 x38_3) x47_4) : Int) := of_decide_eq_true (by first | (with_reducible assumption) | assumption)
                  have q214 : (rd (rd_L1 l0_3 x38_3) x47_4) < (x7_4.length : Int) := of_decide_eq_true (by first | (with_reducible assumption) | assumption)
                  obtain ⟨ad214, e214, hx214_0⟩ := Kd.at_int (Kd.R_reads' HO_7.out).2.2 (rd (rd_L1 l0_3 x38_3) x47_4) p214 q214
                  cases e214
                  replace p214 := eq_true p214
                  replace q214 := eq_true q214
                  have p215 : 0 ≤ (x38_3 : Int) := of_decide_eq_true (by first | (with_reducible assumption) | assumption)
                  have q215 : x38_3 < (x5_2.length : Int) := of_decide_eq_true (by first | (with_reducible assumption) | assumption)
                  obtain ⟨ad215, e215, hx215_0⟩ := Kd.at_int (Kd.R_reads' HO_5.out).2.2 x38_3 p215 q215
                  cases e215
                  replace p215 := eq_true p215
                  replace q215 := eq_true q215
                  have p36 : 0 ≤ ((rd (rd_L1 l0_3 x38_3) x47_4) : Int) := of_decide_eq_true (by first | (with_reducible assumption) | assumption)
                  have q36 : ((rd (rd_L1 l0_3 x38_3) x47_4) : Int) < ((x7_4.length : Int) : Int) := of_decide_eq_true (by first | (with_reducible assumption) | assumption)
                  obtain ⟨go36, co36, eo36, gb36, gl36, cl36, HG36⟩ := Kd.R_form HO_7.out (by first | omega | (have e_ := (Kd.R_reads' HO_7.out).1; omega))
                  (first | cases eo36 | (injection eo36 with ea_ en_ ec_; (first | subst ea_ | (injection ea_ with ea_; subst ea_)); subst ec_; clear en_))
                  have GB36 := Aside0.mk gb36
                  have GG36 := Aside0.mk HG36
                  clear gb36 gl36 HG36
                  (first | simp only [add_plain] at hx214_0 | skip)
                  obtain ⟨hx36_0, hf36_0⟩ := Kd.R_celln 0 HO_7.out ((rd (rd_L1 l0_3 x38_3) x47_4) : Int) p36 q36
                  replace p36 := eq_true p36
                  replace q36 := eq_true q36
                  have HP39 := Kd.R_putn HO_7.out ((rd (rd_L1 l0_3 x38_3) x47_4) : Int) (Int.tmod (wrap64 ((rd x7_4 (rd (rd_L1 l0_3 x38_3) x47_4)) + (rd x5_2 x38_3))) 2305843009213693951)
                  rw [← Ny216.out] at HP39
                  have HQ39 := Aside0.mk HP39
                  clear HP39
                  refine start_ (n := 14) (S := fun w' => w'.cell? ⟨go36, ((rd (rd_L1 l0_3 x38_3) x47_4)).toNat, none⟩ = some (.int .i64 (rd x7_4 (rd (rd_L1 l0_3 x38_3) x47_4))) ∧ w'.cell? (ad215.add (x38_3).toNat) = some (.int .i64 (rd x5_2 x38_3))) (ds := [13]) #[false, false, false, false, false, false, false, false, false, false, false, false, false, false] (by kernel_rfl) rfl rfl ⟨hx214_0, hx215_0⟩ (fun hHeld => ?_); refine with_tabW semigroupref07_Count.tab15 semigroupref07_Count.bits15 (fun HT_ HW_ => ?_)
                  generalize wr.drew = w37 at HO_5 HO_7 BK204 HB GG36 HQ39 hf36_0 hx214_0 hx215_0 hx36_0 hHeld ⊢
                  refine pure_ (i := 0) (N := some 51) (v := ?_) (a' := ?_) #[true, false, false, false, false, false, false, false, false, false, false, false, false, false] rfl rfl (any_of HT_.out (by kernel_rfl)) (fun _ _ _ h => h) (Or.inl ⟨by rfl, ?_⟩) ?_ ?_
                  rotate_left
                  (focus
                  intro w'
                  go_simp
                  with_reducible rfl
                  )
                  rotate_left
                  (focus
                  simp only [Act.put, List.setIfInBounds_toArray, List.set_cons_zero, List.set_cons_succ, i64_w, i32_w]
                  rfl
                  )
                  refine pure_ (i := 1) (N := some 52) (v := ?_) (a' := ?_) #[true, true, false, false, false, false, false, false, false, false, false, false, false, false] rfl rfl (any_of HT_.out (by kernel_rfl)) (fun _ _ _ h => h) (Or.inl ⟨by rfl, ?_⟩) ?_ ?_
                  rotate_left
                  (focus
                  intro w'
                  go_simp
                  with_reducible rfl
                  )
                  rotate_left
                  (focus
                  simp only [Act.put, List.setIfInBounds_toArray, List.set_cons_zero, List.set_cons_succ, i64_w, i32_w]
                  rfl
                  )
                  refine pure_ (i := 2) (N := some 53) (v := ?_) (a' := ?_) #[true, true, true, false, false, false, false, false, false, false, false, false, false, false] rfl rfl (any_of HT_.out (by kernel_rfl)) (fun _ _ _ h => h) (Or.inl ⟨by rfl, ?_⟩) ?_ ?_
                  rotate_left
                  (focus
                  intro w'
                  go_simp
                  with_reducible rfl
                  )
                  rotate_left
                  (focus
                  simp only [Act.put, List.setIfInBounds_toArray, List.set_cons_zero, List.set_cons_succ, i64_w, i32_w]
                  rfl
                  )
                  refine pure_ (i := 3) (N := some 54) (v := ?_) (a' := ?_) #[true, true, true, true, false, false, false, false, false, false, false, false, false, false] rfl rfl (any_of HT_.out (by kernel_rfl)) (fun _ _ _ h => h) (Or.inl ⟨by rfl, ?_⟩) ?_ ?_
                  rotate_left
                  (focus
                  intro w'
                  go_simp
                  with_reducible rfl
                  )
                  rotate_left
                  (focus
                  simp only [Act.put, List.setIfInBounds_toArray, List.set_cons_zero, List.set_cons_succ, i64_w, i32_w]
                  rfl
                  )
                  refine pure_ (i := 4) (N := some 55) (v := ?_) (a' := ?_) #[true, true, true, true, true, false, false, false, false, false, false, false, false, false] rfl rfl (any_of HT_.out (by kernel_rfl)) (fun _ _ _ h => h) (Or.inl ⟨by rfl, ?_⟩) ?_ ?_
                  rotate_left
                  (focus
                  intro w'
                  go_simp
                  with_reducible rfl
                  )
                  rotate_left
                  (focus
                  simp only [Act.put, List.setIfInBounds_toArray, List.set_cons_zero, List.set_cons_succ, i64_w, i32_w]
                  rfl
                  )
                  refine pure_ (i := 6) (N := some 57) (v := ?_) (a' := ?_) #[true, true, true, true, true, false, true, false, false, false, false, false, false, false] rfl rfl (any_of HT_.out (by kernel_rfl)) (fun _ _ _ h => h) (Or.inl ⟨by rfl, ?_⟩) ?_ ?_
                  rotate_left
                  (focus
                  intro w'
                  go_simp
                  with_reducible rfl
                  )
                  rotate_left
                  (focus
                  simp only [Act.put, List.setIfInBounds_toArray, List.set_cons_zero, List.set_cons_succ, i64_w, i32_w]
                  rfl
                  )
                  refine pure_ (i := 7) (N := some 58) (v := ?_) (a' := ?_) #[true, true, true, true, true, false, true, true, false, false, false, false, false, false] rfl rfl (any_of HT_.out (by kernel_rfl)) (fun _ _ _ h => h) (Or.inl ⟨by rfl, ?_⟩) ?_ ?_
                  rotate_left
                  (focus
                  intro w'
                  go_simp
                  with_reducible rfl
                  )
                  rotate_left
                  (focus
                  simp only [Act.put, List.setIfInBounds_toArray, List.set_cons_zero, List.set_cons_succ, i64_w, i32_w]
                  rfl
                  )
                  refine pure_ (i := 8) (N := some 59) (v := ?_) (a' := ?_) #[true, true, true, true, true, false, true, true, true, false, false, false, false, false] rfl rfl (any_of HT_.out (by kernel_rfl)) (fun _ _ _ h => h) (Or.inl ⟨by rfl, ?_⟩) ?_ ?_
                  rotate_left
                  (focus
                  intro w'
                  go_simp
                  with_reducible rfl
                  )
                  rotate_left
                  (focus
                  simp only [Act.put, List.setIfInBounds_toArray, List.set_cons_zero, List.set_cons_succ, i64_w, i32_w]
                  rfl
                  )
                  refine take_ (i := 5) (N := some 56) (v := ?_) (a' := ?_) #[true, true, true, true, true, true, true, true, true, false, false, false, false, false] rfl rfl (take_ofW HT_.out HW_.out (by kernel_rfl)) (fun _ _ _ h => h) (Or.inl ⟨by rfl, ?_⟩) hHeld ?_ ?_
                  rotate_left
                  (focus
                  rintro w' ⟨s0, s1⟩
                  go_simp
                  with_reducible rfl
                  )
                  rotate_left
                  (focus
                  simp only [Act.put, List.setIfInBounds_toArray, List.set_cons_zero, List.set_cons_succ, i64_w, i32_w]
                  rfl
                  )
                  refine take_ (i := 9) (N := some 60) (v := ?_) (a' := ?_) #[true, true, true, true, true, true, true, true, true, true, false, false, false, false] rfl rfl (take_ofW HT_.out HW_.out (by kernel_rfl)) (fun _ _ _ h => h) (Or.inl ⟨by rfl, ?_⟩) hHeld ?_ ?_
                  rotate_left
                  (focus
                  rintro w' ⟨s0, s1⟩
                  go_simp
                  with_reducible rfl
                  )
                  rotate_left
                  (focus
                  simp only [Act.put, List.setIfInBounds_toArray, List.set_cons_zero, List.set_cons_succ, i64_w, i32_w]
                  rfl
                  )
                  refine pure_ (i := 10) (N := some 61) (v := ?_) (a' := ?_) #[true, true, true, true, true, true, true, true, true, true, true, false, false, false] rfl rfl (any_of HT_.out (by kernel_rfl)) (fun _ _ _ h => h) (Or.inl ⟨by rfl, ?_⟩) ?_ ?_
                  rotate_left
                  (focus
                  intro w'
                  go_simp
                  with_reducible rfl
                  )
                  rotate_left
                  (focus
                  simp only [Act.put, List.setIfInBounds_toArray, List.set_cons_zero, List.set_cons_succ, i64_w, i32_w]
                  rfl
                  )
                  refine pure_ (i := 11) (N := some 62) (v := ?_) (a' := ?_) #[true, true, true, true, true, true, true, true, true, true, true, true, false, false] rfl rfl (any_of HT_.out (by kernel_rfl)) (fun _ _ _ h => h) (Or.inl ⟨by rfl, ?_⟩) ?_ ?_
                  rotate_left
                  (focus
                  intro w'
                  go_simp
                  with_reducible rfl
                  )
                  rotate_left
                  (focus
                  simp only [Act.put, List.setIfInBounds_toArray, List.set_cons_zero, List.set_cons_succ, i64_w, i32_w]
                  rfl
                  )
                  refine pure_ (i := 12) (N := some 63) (v := ?_) (a' := ?_) #[true, true, true, true, true, true, true, true, true, true, true, true, true, false] rfl rfl (any_of HT_.out (by kernel_rfl)) (fun _ _ _ h => h) (Or.inl ⟨by rfl, ?_⟩) ?_ ?_
                  rotate_left
                  (focus
                  intro w'
                  go_simp
                  with_reducible rfl
                  )
                  rotate_left
                  (focus
                  simp only [Act.put, List.setIfInBounds_toArray, List.set_cons_zero, List.set_cons_succ, i64_w, i32_w]
                  rfl
                  )
                  refine last_ (i := 13) (N := none) #[true, true, true, true, true, true, true, true, true, true, true, true, true, true] rfl rfl (one_of HT_.out (by kernel_rfl)) (by decide) (fun K hK => ?_)
                  refine skip_ (w1 := ?_) (by rfl) rfl ?_ ?_
                  rotate_left
                  (focus
                  go_simp
                  rfl
                  )
                  refine hK.out _ _ ?_
                  clear hK K
                  refine done_ (done_of HT_.out (by kernel_rfl)) ?_
                  try go_wp2
                  go_roundg k4
                  case measure => have := HJ2.out; have := HK2.out; have := HK3.out; have := HK4.out; omega
                  case rel => exact ⟨(y216), (wrap64 (x47_4 + 1)), (by first | rfl | (simp; done) | (simp [*]; done)), H', ⟨by have := HJ2.out; have := HK2.out; have := HK3.out; have := HK4.out; omega⟩, ⟨by (with_reducible repeat (first | apply Kd.R_alloc | apply Kd.R_drewN | apply Kd.R_drew)); exact Kd.R_mono (Kd.R_far (p := ⟨go36, ((rd (rd_L1 l0_3 x38_3) x47_4) : Int).toNat, none⟩) (Kd.R_mono HO_5.out (fun k_ hk => (⟨hk, fun e_ => hk (by rw [e_]; rfl)⟩ : _ ∧ k_ ≠ go36))) (fun _ hk => hk.2) (.int .i64 (Int.tmod (wrap64 ((rd x7_4 (rd (rd_L1 l0_3 x38_3) x47_4)) + (rd x5_2 x38_3))) 2305843009213693951))) (fun _ hk => hk.1)⟩, ⟨by (with_reducible repeat (first | apply Kd.R_alloc | apply Kd.R_drewN | apply Kd.R_drew)); exact HQ39.out⟩, ⟨by (with_reducible repeat (first | refine blk_drewN ?_ _ | refine blk_drew ?_ | refine blk_alloc ?_ _)); refine blk_far ?_ (by have h_ := Kd.R_ne HO_7.out BK204.out (by decide); intro e_; exact h_ (by rw [e_]; rfl)) _; (with_reducible repeat (first | refine blk_drewN ?_ _ | refine blk_drew ?_ | refine blk_alloc ?_ _)); exact BK204.out⟩, ⟨by repeat (first | (with_reducible first | exact HB.out | apply below_alloc | apply pw_below_drewN | apply below_drew1 | refine below_set ?_ GB36.out | refine below_set ?_ GE204.out) | exact HB.out)⟩⟩
                  )
                  (focus
                  rw [if_neg c35] at H
                  exact absurd H (by simp)
                  )
                  )
                  (focus
                  rw [if_neg c34] at H
                  exact absurd H (by simp)
                  )
                  )
                  (focus
                  rw [if_neg c33] at H
                  exact absurd H (by simp)
                  )
                  )
                  (focus
                  rw [if_neg c32] at H
                  exact absurd H (by simp)
                  )
                  )
                  (focus
                  rw [if_neg c31] at H
                  exact absurd H (by simp)
                  )
                  )
                  (focus
                  rw [if_neg c30] at H
                  exact absurd H (by simp)
                  )
                  )
                  (focus
                  rw [if_neg c29] at H
                  have c29b0 : decide (x47_4 < ((rd_L1 l0_3 x38_3).length : Int)) = false := decide_eq_false c29
                  clear c29
                  have H' := Aside0.mk H
                  clear H
                  go_wp2
                  go_roundg k4
                  case measure => have := HJ2.out; have := HK2.out; have := HK3.out; have := HK4.out; omega
                  case rel => exact ⟨(x7_4), (wrap64 (x38_3 + 1)), (by first | rfl | (simp; done) | (simp [*]; done)), H', ⟨by have := HJ2.out; have := HK2.out; have := HK3.out; have := HK4.out; omega⟩, ⟨by (with_reducible repeat (first | apply Kd.R_alloc | apply Kd.R_drewN | apply Kd.R_drew)); exact HO_5.out⟩, ⟨by (with_reducible repeat (first | apply Kd.R_alloc | apply Kd.R_drewN | apply Kd.R_drew)); exact HO_7.out⟩, ⟨by (with_reducible repeat (first | refine blk_drewN ?_ _ | refine blk_drew ?_ | refine blk_alloc ?_ _)); exact BK204.out⟩, ⟨by repeat (first | (with_reducible first | exact HB.out | apply below_alloc | apply pw_below_drewN | apply below_drew1 | refine below_set ?_ GE204.out) | exact HB.out)⟩⟩
                  )
              )
              (focus
              rw [if_neg c27] at H
              exact absurd H (by simp)
              )
              )
              (focus
              rw [if_neg c26] at H
              exact absurd H (by simp)
              )
              )
              (focus
              rw [if_neg c25] at H
              have c25b0 : decide (x38_3 < (x5_2.length : Int)) = false := decide_eq_false c25
              clear c25
              have H' := Aside0.mk H
              clear H
              go_wp2
              go_roundg k3
              case measure => have := HJ2.out; have := HK2.out; have := HK3.out; omega
              case rel => exact ⟨(x7_3), (wrap64 (x6_2 + 1)), (by first | rfl | (simp; done) | (simp [*]; done)), H', ⟨by have := HJ2.out; have := HK2.out; have := HK3.out; omega⟩, ⟨by (with_reducible repeat (first | apply Kd.R_alloc | apply Kd.R_drewN | apply Kd.R_drew)); exact Kd.R_mono HO_7.out (fun _ hk => trivial)⟩, ⟨by (with_reducible repeat (first | refine blk_drewN ?_ _ | refine blk_drew ?_ | refine blk_alloc ?_ _)); exact BK204.out⟩, ⟨by repeat (first | (with_reducible first | exact HB.out | apply below_alloc | apply pw_below_drewN | apply below_drew1 | refine below_set ?_ GE204.out) | exact HB.out)⟩⟩
              )
          )
          (focus
          rw [if_neg c20] at H
          exact absurd H (by simp)
          )
          )
          (focus
          rw [if_neg c19] at H
          exact absurd H (by simp)
          )
          )
          (focus
          rw [if_neg c18] at H
          have c18b0 : decide (x6_2 < a1) = false := decide_eq_false c18
          clear c18
          have H' := Aside0.mk H
          clear H
          obtain ⟨Ao40, co40, eo40⟩ := Kd.R_slice HO_5.out
          subst eo40
          go_wp2
          go_loopg [11, 69] k2 (fun kq v11 v69 w' => ∃ (x11_3 : Int) (x69_3 : Int), v11 = .int .i64 x11_3 ∧ v69 = .int .i64 x69_3 ∧ Aside0 (semigroupref07_Count.l3 kq x5_2 x11_3 (x5_2.length : Int) x69_3 a0_0 a0_1 l0_2 l0_3 = some r) ∧ Aside0 (kq ≤ k2) ∧ Aside0 (Kd.R (Kd.int .i64) 3 w' w.heap.size (fun _ => True) (.slice Ao40 x5_2.length co40) x5_2) ∧ Aside0 (w'.heap[gb204]? = some (.cells #[.int .i64 a0_0, .int .i64 a0_1, (.slice A0_2 l0_2.length c0_2), (.slice A0_3 l0_3.length c0_3)] 25 (0, 0))) ∧ Aside0 (Below w.heap.size w w'))
          case atStart => exact ⟨(0), (0), (by first | rfl | (simp; done) | (simp [*]; done)), (by first | rfl | (simp; done) | (simp [*]; done)), H', ⟨Nat.le_refl _⟩, ⟨by (with_reducible repeat (first | apply Kd.R_alloc | apply Kd.R_drewN | apply Kd.R_drew)); exact HO_5.out⟩, ⟨by (with_reducible repeat (first | refine blk_drewN ?_ _ | refine blk_drew ?_ | refine blk_alloc ?_ _)); exact BK204.out⟩, ⟨by repeat (first | (with_reducible first | exact HB.out | apply below_alloc | apply pw_below_drewN | apply below_drew1 | refine below_set ?_ GE204.out) | exact HB.out)⟩⟩
          case round =>
            clear H'
            try clear c1
            try clear p1
            try clear q1
            try clear hx1
            try clear c2
            try clear p2
            try clear q2
            try clear hx2
            try clear c3
            try clear p3
            try clear q3
            try clear hx3
            try clear hf3
            try clear c5
            try clear c5b0
            try clear c6
            try clear p6
            try clear c7
            try clear c7b0
            try clear c7b1
            try clear c8
            try clear c8b0
            try clear c8b1
            try clear c9
            try clear c9b0
            try clear c10
            try clear c10b0
            try clear p11
            try clear q11
            try clear hx11
            try clear hf11
            try clear c18
            try clear c18b0
            try clear c19
            try clear c19b0
            try clear c19b1
            try clear c20
            try clear c20b0
            try clear c20b1
            try clear c21
            try clear p21
            try clear q21
            try clear hx21
            try clear c22
            try clear c25
            try clear c25b0
            try clear c26
            try clear c26b0
            try clear c27
            try clear c27b0
            try clear c29
            try clear c29b0
            try clear c30
            try clear c30b0
            try clear c31
            try clear c31b0
            try clear c32
            try clear c32b0
            try clear c33
            try clear c33b0
            try clear c34
            try clear c34b0
            try clear c35
            try clear c35b0
            try clear p36
            try clear q36
            try clear hx36
            try clear hf36
            try clear hcz12_0
            try clear hcz12_1
            try clear hcz12_2
            try clear hcz12_3
            try clear hcz15_0
            try clear hcz15_1
            try clear hcz15_2
            try clear hcz15_3
            try clear hcz21_0
            try clear hcz21_1
            try clear hcz21_2
            try clear hcz21_3
            try clear hcz28_0
            try clear hcz28_1
            try clear hcz28_2
            try clear hcz28_3
            try clear hfz12_0
            try clear hfz12_1
            try clear hfz12_2
            try clear hfz12_3
            try clear hfz15_0
            try clear hfz15_1
            try clear hfz15_2
            try clear hfz15_3
            try clear hfz21_0
            try clear hfz21_1
            try clear hfz21_2
            try clear hfz21_3
            try clear hfz28_0
            try clear hfz28_1
            try clear hfz28_2
            try clear hfz28_3
            try clear hx11_0
            try clear hx212_0
            try clear hx213_0
            try clear hx214_0
            try clear hx215_0
            try clear hx36_0
            try clear p1
            try clear p11
            try clear p2
            try clear p21
            try clear p212
            try clear p213
            try clear p214
            try clear p215
            try clear p36
            try clear q1
            try clear q11
            try clear q2
            try clear q21
            try clear q212
            try clear q213
            try clear q214
            try clear q215
            try clear q36
            obtain ⟨x11_3, x69_3, rfl, rfl, HA, HK3, HO_5, BK204, HB⟩ := hrel
            cases gk with
            | zero => exact absurd HA.out (by simp [semigroupref07_Count.l3])
            | succ k3 =>
              have H := HA.out
              clear HA
              simp only [semigroupref07_Count.l3] at H
              by_cases c41 : x69_3 < (x5_2.length : Int)
              (focus
              rw [if_pos c41] at H
              have c41b0 : decide (x69_3 < (x5_2.length : Int)) = true := decide_eq_true c41
              clear c41
              by_cases c42 : 0 ≤ x69_3
              (focus
              rw [if_pos c42] at H
              have c42b0 : decide (0 ≤ x69_3) = true := decide_eq_true c42
              clear c42
              by_cases c43 : x69_3 < (l0_2.length : Int)
              (focus
              rw [if_pos c43] at H
              have c43b0 : decide (x69_3 < (l0_2.length : Int)) = true := decide_eq_true c43
              clear c43
              obtain ⟨bq44, hbq44⟩ : ∃ b_ : Bool, b_ = (rdOf false l0_2 x69_3) := ⟨_, rfl⟩
              replace H : (if bq44 = true then (if x69_3 < (x5_2.length : Int) then (semigroupref07_Count.l3 k3 x5_2 (Int.tmod (wrap64 (x11_3 + (rd x5_2 x69_3))) 2305843009213693951) (x5_2.length : Int) (wrap64 (x69_3 + 1)) a0_0 a0_1 l0_2 l0_3) else (none)) else (semigroupref07_Count.l3 k3 x5_2 x11_3 (x5_2.length : Int) (wrap64 (x69_3 + 1)) a0_0 a0_1 l0_2 l0_3)) = some r := by rw [← hbq44] at H; exact H
              have Nbq44 := Aside0.mk hbq44
              clear hbq44
              by_cases c45 : bq44 = true
              (focus
              subst c45
              have H1 : (if x69_3 < (x5_2.length : Int) then (semigroupref07_Count.l3 k3 x5_2 (Int.tmod (wrap64 (x11_3 + (rd x5_2 x69_3))) 2305843009213693951) (x5_2.length : Int) (wrap64 (x69_3 + 1)) a0_0 a0_1 l0_2 l0_3) else (none)) = some r := by rw [if_pos rfl] at H; exact H
              clear H
              have H := H1
              clear H1
              by_cases c46 : x69_3 < (x5_2.length : Int)
              (focus
              rw [if_pos c46] at H
              have c46b0 : decide (x69_3 < (x5_2.length : Int)) = true := decide_eq_true c46
              clear c46
              have H' := Aside0.mk H
              clear H
              have hcz47_0 : wr.cell? ⟨gb204, 0, none⟩ = some (.int .i64 a0_0) := (blk_cell BK204.out 0).trans rfl
              have hcz47_1 : wr.cell? ⟨gb204, 1, none⟩ = some (.int .i64 a0_1) := (blk_cell BK204.out 1).trans rfl
              have hcz47_2 : wr.cell? ⟨gb204, 2, none⟩ = some (.slice A0_2 l0_2.length c0_2) := (blk_cell BK204.out 2).trans rfl
              have hcz47_3 : wr.cell? ⟨gb204, 3, none⟩ = some (.slice A0_3 l0_3.length c0_3) := (blk_cell BK204.out 3).trans rfl
              have hfz47_0 := blk_frozen BK204.out 0
              have hfz47_1 := blk_frozen BK204.out 1
              have hfz47_2 := blk_frozen BK204.out 2
              have hfz47_3 := blk_frozen BK204.out 3
              have p217 : 0 ≤ (x69_3 : Int) := of_decide_eq_true (by first | (with_reducible assumption) | assumption)
              have q217 : x69_3 < (l0_2.length : Int) := of_decide_eq_true (by first | (with_reducible assumption) | assumption)
              obtain ⟨ad217, e217, hx217_0⟩ := Kd.at_bool HR0_2.out x69_3 p217 q217
              (try rw [← Nbq44.out] at hx217_0)
              cases e217
              (try replace hx217_0 := (HB.out.cell (World.block_lt_of_cell? w _ hx217_0)).trans hx217_0)
              replace p217 := eq_true p217
              replace q217 := eq_true q217
              have p218 : 0 ≤ (x69_3 : Int) := of_decide_eq_true (by first | (with_reducible assumption) | assumption)
              have q218 : x69_3 < (x5_2.length : Int) := of_decide_eq_true (by first | (with_reducible assumption) | assumption)
              obtain ⟨ad218, e218, hx218_0⟩ := Kd.at_int (Kd.R_reads' HO_5.out).2.2 x69_3 p218 q218
              cases e218
              replace p218 := eq_true p218
              replace q218 := eq_true q218
              go_wp2
              go_roundg k3
              case measure => have := HJ2.out; have := HK2.out; have := HK3.out; omega
              case rel => exact ⟨(Int.tmod (wrap64 (x11_3 + (rd x5_2 x69_3))) 2305843009213693951), (wrap64 (x69_3 + 1)), (by first | rfl | (simp; done) | (simp [*]; done)), (by first | rfl | (simp; done) | (simp [*]; done)), H', ⟨by have := HJ2.out; have := HK2.out; have := HK3.out; omega⟩, ⟨by (with_reducible repeat (first | apply Kd.R_alloc | apply Kd.R_drewN | apply Kd.R_drew)); exact HO_5.out⟩, ⟨by (with_reducible repeat (first | refine blk_drewN ?_ _ | refine blk_drew ?_ | refine blk_alloc ?_ _)); exact BK204.out⟩, ⟨by repeat (first | (with_reducible first | exact HB.out | apply below_alloc | apply pw_below_drewN | apply below_drew1 | refine below_set ?_ GE204.out) | exact HB.out)⟩⟩
              )
              (focus
              rw [if_neg c46] at H
              exact absurd H (by simp)
              )
              )
              (focus
              replace c45 := Bool.eq_false_iff.mpr c45
              subst c45
              have H1 : (semigroupref07_Count.l3 k3 x5_2 x11_3 (x5_2.length : Int) (wrap64 (x69_3 + 1)) a0_0 a0_1 l0_2 l0_3) = some r := by rw [if_neg (show ¬ (false = true) by decide)] at H; exact H
              clear H
              have H := H1
              clear H1
              have H' := Aside0.mk H
              clear H
              have hcz48_0 : wr.cell? ⟨gb204, 0, none⟩ = some (.int .i64 a0_0) := (blk_cell BK204.out 0).trans rfl
              have hcz48_1 : wr.cell? ⟨gb204, 1, none⟩ = some (.int .i64 a0_1) := (blk_cell BK204.out 1).trans rfl
              have hcz48_2 : wr.cell? ⟨gb204, 2, none⟩ = some (.slice A0_2 l0_2.length c0_2) := (blk_cell BK204.out 2).trans rfl
              have hcz48_3 : wr.cell? ⟨gb204, 3, none⟩ = some (.slice A0_3 l0_3.length c0_3) := (blk_cell BK204.out 3).trans rfl
              have hfz48_0 := blk_frozen BK204.out 0
              have hfz48_1 := blk_frozen BK204.out 1
              have hfz48_2 := blk_frozen BK204.out 2
              have hfz48_3 := blk_frozen BK204.out 3
              have p217 : 0 ≤ (x69_3 : Int) := of_decide_eq_true (by first | (with_reducible assumption) | assumption)
              have q217 : x69_3 < (l0_2.length : Int) := of_decide_eq_true (by first | (with_reducible assumption) | assumption)
              obtain ⟨ad217, e217, hx217_0⟩ := Kd.at_bool HR0_2.out x69_3 p217 q217
              (try rw [← Nbq44.out] at hx217_0)
              cases e217
              (try replace hx217_0 := (HB.out.cell (World.block_lt_of_cell? w _ hx217_0)).trans hx217_0)
              replace p217 := eq_true p217
              replace q217 := eq_true q217
              go_wp2
              go_roundg k3
              case measure => have := HJ2.out; have := HK2.out; have := HK3.out; omega
              case rel => exact ⟨(x11_3), (wrap64 (x69_3 + 1)), (by first | rfl | (simp; done) | (simp [*]; done)), (by first | rfl | (simp; done) | (simp [*]; done)), H', ⟨by have := HJ2.out; have := HK2.out; have := HK3.out; omega⟩, ⟨by (with_reducible repeat (first | apply Kd.R_alloc | apply Kd.R_drewN | apply Kd.R_drew)); exact HO_5.out⟩, ⟨by (with_reducible repeat (first | refine blk_drewN ?_ _ | refine blk_drew ?_ | refine blk_alloc ?_ _)); exact BK204.out⟩, ⟨by repeat (first | (with_reducible first | exact HB.out | apply below_alloc | apply pw_below_drewN | apply below_drew1 | refine below_set ?_ GE204.out) | exact HB.out)⟩⟩
              )
              )
              (focus
              rw [if_neg c43] at H
              exact absurd H (by simp)
              )
              )
              (focus
              rw [if_neg c42] at H
              exact absurd H (by simp)
              )
              )
              (focus
              rw [if_neg c41] at H
              have c41b0 : decide (x69_3 < (x5_2.length : Int)) = false := decide_eq_false c41
              clear c41
              obtain rfl := Option.some.inj H
              go_wp2
              go_ret
              exact ⟨by first | rfl | (simp [errW_none, errW_some] <;> rfl) | (simp [*, errW_none, errW_some] <;> rfl), by repeat (first | (with_reducible first | exact HB.out | apply below_alloc | apply pw_below_drewN | apply below_drew1 | refine below_set ?_ GE204.out) | exact HB.out)⟩
              )
          )
      )
      (focus
      rw [if_neg c10] at H
      exact absurd H (by simp)
      )
      )
      (focus
      rw [if_neg c9] at H
      exact absurd H (by simp)
      )
      )
      (focus
      rw [if_neg c8] at H
      exact absurd H (by simp)
      )
      )
      (focus
      rw [if_neg c7] at H
      exact absurd H (by simp)

      )
      )
end Go.Proofs.Ytpjbmgoagehjkaa.PDfaCounts
