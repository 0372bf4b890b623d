import Derived.Test.YtpjbmgoagehjkaaZDfaTrimsx0
import Derived.Test.YtpjbmgoagehjkaaZDfaTrimsx9
namespace Go.Proofs.Ytpjbmgoagehjkaa.PDfaTrims
open Go.RowKit Go.Proofs.YtpjbmgoagehjkaaH Go.Proofs.YtpjbmgoagehjkaaW.PrintWords Go.Proofs.YtpjbmgoagehjkaaW.PrintLast Go.Proofs.YtpjbmgoagehjkaaW.PrintMore
attribute [local go_sem] max2_int min2_int max_two min_two max_three min_three max_four min_four   -- for this text's walks alone
set_option linter.unusedVariables false
set_option linter.unusedSimpArgs false
/-! ### semigroupref07_Trim: function 29 -/
mutual
def semigroupref07_Trim.l0 : Nat → List Int → List Int → Int → Int → Int → Int → List Bool → List (List Int) → Option (Int × Int × List Bool × (List (List Int)) × List Int)
 | 0, _, _, _, _, _, _, _, _ => none
 | k + 1, x4, x6, x26, x27, x292000, x292001, x292002, x292003 => if x27 < x26 then (if 0 ≤ x27 then (if x27 < (x6.length : Int) then (semigroupref07_Trim.l0 k x4 (x6.set (x27 : Int).toNat (-1)) x26 (wrap64 (x27 + 1)) x292000 x292001 x292002 x292003) else (none)) else (none)) else (semigroupref07_Trim.l1 k x4 x6 x4 (x4.length : Int) 0 x292000 x292001 x292002 x292003)
def semigroupref07_Trim.l1 : Nat → List Int → List Int → List Int → Int → Int → Int → Int → List Bool → List (List Int) → Option (Int × Int × List Bool × (List (List Int)) × List Int)
 | 0, _, _, _, _, _, _, _, _, _ => none
 | k + 1, x4, x6, x34, x35, x36, x292000, x292001, x292002, x292003 => if x36 < x35 then (if 0 ≤ x36 then (if x36 < (x34.length : Int) then (if 0 ≤ (rd x34 x36) then (if (rd x34 x36) < (x6.length : Int) then (semigroupref07_Trim.l1 k x4 (x6.set ((rd x34 x36) : Int).toNat x36) x34 x35 (wrap64 (x36 + 1)) x292000 x292001 x292002 x292003) else (none)) else (none)) else (none)) else (none)) else (semigroupref07_Trim.l2 k x6 x4 (x4.length : Int) 0 x292000 x292001 x292002 x292003 x292000 0 ([] : List Bool) ([] : List (List Int)))
def semigroupref07_Trim.l2 : Nat → List Int → List Int → Int → Int → Int → Int → List Bool → List (List Int) → Int → Int → List Bool → List (List Int) → Option (Int × Int × List Bool × (List (List Int)) × List Int)
 | 0, _, _, _, _, _, _, _, _, _, _, _, _ => none
 | k + 1, x6, x49, x50, x51, x292000, x292001, x292002, x292003, x306000, x306001, x306002, x306003 => if x51 < x50 then (if 0 ≤ x51 then (if x51 < (x49.length : Int) then (if 0 ≤ (rd x49 x51) then (if (rd x49 x51) < (x292003.length : Int) then (semigroupref07_Trim.l3 k x6 (rd x49 x51) ([] : List Int) x49 x50 x51 (rd_L1 x292003 (rd x49 x51)) ((rd_L1 x292003 (rd x49 x51)).length : Int) 0 x292000 x292001 x292002 x292003 x306000 x306001 x306002 x306003) else (none)) else (none)) else (none)) else (none)) else (some (x306000, x306001, x306002, x306003, x6))
def semigroupref07_Trim.l3 : Nat → List Int → Int → List Int → List Int → Int → Int → List Int → Int → Int → Int → Int → List Bool → List (List Int) → Int → Int → List Bool → List (List Int) → Option (Int × Int × List Bool × (List (List Int)) × List Int)
 | 0, _, _, _, _, _, _, _, _, _, _, _, _, _, _, _, _, _ => none
 | k + 1, x6, x12, x13, x49, x50, x51, x59, x60, x61, x292000, x292001, x292002, x292003, x306000, x306001, x306002, x306003 => if x61 < x60 then (if 0 ≤ x61 then (if x61 < (x59.length : Int) then (if 0 ≤ (rd x59 x61) then (if (rd x59 x61) < (x6.length : Int) then ((some (([rd x6 (rd x59 x61)] : List Int) : List Int)).bind fun y310 => (if x13.length + y310.length < 17592186044416 then (semigroupref07_Trim.l3 k x6 x12 (x13 ++ y310) x49 x50 x51 x59 x60 (wrap64 (x61 + 1)) x292000 x292001 x292002 x292003 x306000 x306001 x306002 x306003) else (none))) else (none)) else (none)) else (none)) else (none)) else ((some (([x13] : List (List Int)) : List (List Int))).bind fun y316 => (if x306003.length + y316.length < 5864062014805 then (if 0 ≤ x12 then (if x12 < (x292002.length : Int) then ((some (([rdOf false x292002 x12] : List Bool) : List Bool)).bind fun y323 => (if x306002.length + y323.length < 140737488355328 then (semigroupref07_Trim.l2 k x6 x49 x50 (wrap64 (x51 + 1)) x292000 x292001 x292002 x292003 x306000 x306001 (x306002 ++ y323) (x306003 ++ y316)) else (none))) else (none)) else (none)) else (none)))
end
def semigroupref07_Trim.f (k : Nat) (a0_0 : Int) (a0_1 : Int) (l0_2 : List Bool) (l0_3 : List (List Int)) : Option (Int × Int × List Bool × (List (List Int)) × List Int) := (semigroupref07_Access.f k a0_0 a0_1 l0_2 l0_3).bind fun bt293 => (if 0 ≤ (l0_2.length : Int) then (if ((l0_2.length : Int) : Int).toNat ≤ 35184372088832 then ((some (List.replicate ((l0_2.length : Int) : Int).toNat 0 : List Int)).bind fun y299 => (semigroupref07_Trim.l0 k bt293.1 y299 (y299.length : Int) 0 a0_0 a0_1 l0_2 l0_3)) else (none)) else (none))
theorem semigroupref07_Trim.mono_l : ∀ k, (∀ y0 y1 y2 y3 y4 y5 y6 y7, LeO (semigroupref07_Trim.l0 k y0 y1 y2 y3 y4 y5 y6 y7) (semigroupref07_Trim.l0 (k + 1) y0 y1 y2 y3 y4 y5 y6 y7)) ∧ (∀ y0 y1 y2 y3 y4 y5 y6 y7 y8, LeO (semigroupref07_Trim.l1 k y0 y1 y2 y3 y4 y5 y6 y7 y8) (semigroupref07_Trim.l1 (k + 1) y0 y1 y2 y3 y4 y5 y6 y7 y8)) ∧ (∀ y0 y1 y2 y3 y4 y5 y6 y7 y8 y9 y10 y11, LeO (semigroupref07_Trim.l2 k y0 y1 y2 y3 y4 y5 y6 y7 y8 y9 y10 y11) (semigroupref07_Trim.l2 (k + 1) y0 y1 y2 y3 y4 y5 y6 y7 y8 y9 y10 y11)) ∧ (∀ y0 y1 y2 y3 y4 y5 y6 y7 y8 y9 y10 y11 y12 y13 y14 y15 y16, LeO (semigroupref07_Trim.l3 k y0 y1 y2 y3 y4 y5 y6 y7 y8 y9 y10 y11 y12 y13 y14 y15 y16) (semigroupref07_Trim.l3 (k + 1) y0 y1 y2 y3 y4 y5 y6 y7 y8 y9 y10 y11 y12 y13 y14 y15 y16))
 | 0 => ⟨fun _ _ _ _ _ _ _ _ r h => by simp [semigroupref07_Trim.l0] at h, fun _ _ _ _ _ _ _ _ _ r h => by simp [semigroupref07_Trim.l1] at h, fun _ _ _ _ _ _ _ _ _ _ _ _ r h => by simp [semigroupref07_Trim.l2] at h, fun _ _ _ _ _ _ _ _ _ _ _ _ _ _ _ _ _ r h => by simp [semigroupref07_Trim.l3] at h⟩
 | k + 1 => by
  obtain ⟨ih0, ih1, ih2, ih3⟩ := semigroupref07_Trim.mono_l k
  refine ⟨?_, ?_, ?_, ?_⟩
  (focus
  intro y0 y1 y2 y3 y4 y5 y6 y7
  unfold semigroupref07_Trim.l0
  repeat' first
  | (with_reducible exact ih0 _ _ _ _ _ _ _ _)
  | (with_reducible exact ih1 _ _ _ _ _ _ _ _ _)
  | (with_reducible exact ih2 _ _ _ _ _ _ _ _ _ _ _ _)
  | (with_reducible exact ih3 _ _ _ _ _ _ _ _ _ _ _ _ _ _ _ _ _)
  | (with_reducible exact semigroupref07_Access.mono _ _ _ _ _)
  | (with_reducible exact LeO.refl _)
  | (with_reducible exact LeO.none _)
  | (with_reducible refine LeO.ite ?_ ?_)
  | (with_reducible refine LeO.bind ?_ (fun _ => ?_))
  | exact ih0 _ _ _ _ _ _ _ _
  | exact ih1 _ _ _ _ _ _ _ _ _
  | exact ih2 _ _ _ _ _ _ _ _ _ _ _ _
  | exact ih3 _ _ _ _ _ _ _ _ _ _ _ _ _ _ _ _ _
  | exact semigroupref07_Access.mono _ _ _ _ _
  | exact LeO.none _
  | refine LeO.ite ?_ ?_
  | refine LeO.bind ?_ (fun _ => ?_)
  )
  (focus
  intro y0 y1 y2 y3 y4 y5 y6 y7 y8
  unfold semigroupref07_Trim.l1
  repeat' first
  | (with_reducible exact ih0 _ _ _ _ _ _ _ _)
  | (with_reducible exact ih1 _ _ _ _ _ _ _ _ _)
  | (with_reducible exact ih2 _ _ _ _ _ _ _ _ _ _ _ _)
  | (with_reducible exact ih3 _ _ _ _ _ _ _ _ _ _ _ _ _ _ _ _ _)
  | (with_reducible exact semigroupref07_Access.mono _ _ _ _ _)
  | (with_reducible exact LeO.refl _)
  | (with_reducible exact LeO.none _)
  | (with_reducible refine LeO.ite ?_ ?_)
  | (with_reducible refine LeO.bind ?_ (fun _ => ?_))
  | exact ih0 _ _ _ _ _ _ _ _
  | exact ih1 _ _ _ _ _ _ _ _ _
  | exact ih2 _ _ _ _ _ _ _ _ _ _ _ _
  | exact ih3 _ _ _ _ _ _ _ _ _ _ _ _ _ _ _ _ _
  | exact semigroupref07_Access.mono _ _ _ _ _
  | exact LeO.none _
  | refine LeO.ite ?_ ?_
  | refine LeO.bind ?_ (fun _ => ?_)
  )
  (focus
  intro y0 y1 y2 y3 y4 y5 y6 y7 y8 y9 y10 y11
  unfold semigroupref07_Trim.l2
  repeat' first
  | (with_reducible exact ih0 _ _ _ _ _ _ _ _)
  | (with_reducible exact ih1 _ _ _ _ _ _ _ _ _)
  | (with_reducible exact ih2 _ _ _ _ _ _ _ _ _ _ _ _)
  | (with_reducible exact ih3 _ _ _ _ _ _ _ _ _ _ _ _ _ _ _ _ _)
  | (with_reducible exact semigroupref07_Access.mono _ _ _ _ _)
  | (with_reducible exact LeO.refl _)
  | (with_reducible exact LeO.none _)
  | (with_reducible refine LeO.ite ?_ ?_)
  | (with_reducible refine LeO.bind ?_ (fun _ => ?_))
  | exact ih0 _ _ _ _ _ _ _ _
  | exact ih1 _ _ _ _ _ _ _ _ _
  | exact ih2 _ _ _ _ _ _ _ _ _ _ _ _
  | exact ih3 _ _ _ _ _ _ _ _ _ _ _ _ _ _ _ _ _
  | exact semigroupref07_Access.mono _ _ _ _ _
  | exact LeO.none _
  | refine LeO.ite ?_ ?_
  | refine LeO.bind ?_ (fun _ => ?_)
  )
  (focus
  intro y0 y1 y2 y3 y4 y5 y6 y7 y8 y9 y10 y11 y12 y13 y14 y15 y16
  unfold semigroupref07_Trim.l3
  repeat' first
  | (with_reducible exact ih0 _ _ _ _ _ _ _ _)
  | (with_reducible exact ih1 _ _ _ _ _ _ _ _ _)
  | (with_reducible exact ih2 _ _ _ _ _ _ _ _ _ _ _ _)
  | (with_reducible exact ih3 _ _ _ _ _ _ _ _ _ _ _ _ _ _ _ _ _)
  | (with_reducible exact semigroupref07_Access.mono _ _ _ _ _)
  | (with_reducible exact LeO.refl _)
  | (with_reducible exact LeO.none _)
  | (with_reducible refine LeO.ite ?_ ?_)
  | (with_reducible refine LeO.bind ?_ (fun _ => ?_))
  | exact ih0 _ _ _ _ _ _ _ _
  | exact ih1 _ _ _ _ _ _ _ _ _
  | exact ih2 _ _ _ _ _ _ _ _ _ _ _ _
  | exact ih3 _ _ _ _ _ _ _ _ _ _ _ _ _ _ _ _ _
  | exact semigroupref07_Access.mono _ _ _ _ _
  | exact LeO.none _
  | refine LeO.ite ?_ ?_
  | refine LeO.bind ?_ (fun _ => ?_)
  )
theorem semigroupref07_Trim.mono : ∀ a0 a1 a2 a3 k, LeO (semigroupref07_Trim.f k a0 a1 a2 a3) (semigroupref07_Trim.f (k + 1) a0 a1 a2 a3) := by
 intro a0 a1 a2 a3 k
 obtain ⟨ih0, ih1, ih2, ih3⟩ := semigroupref07_Trim.mono_l k
 unfold semigroupref07_Trim.f
 repeat' first
  | (with_reducible exact ih0 _ _ _ _ _ _ _ _)
  | (with_reducible exact ih1 _ _ _ _ _ _ _ _ _)
  | (with_reducible exact ih2 _ _ _ _ _ _ _ _ _ _ _ _)
  | (with_reducible exact ih3 _ _ _ _ _ _ _ _ _ _ _ _ _ _ _ _ _)
  | (with_reducible exact semigroupref07_Access.mono _ _ _ _ _)
  | (with_reducible exact LeO.refl _)
  | (with_reducible exact LeO.none _)
  | (with_reducible refine LeO.ite ?_ ?_)
  | (with_reducible refine LeO.bind ?_ (fun _ => ?_))
  | exact ih0 _ _ _ _ _ _ _ _
  | exact ih1 _ _ _ _ _ _ _ _ _
  | exact ih2 _ _ _ _ _ _ _ _ _ _ _ _
  | exact ih3 _ _ _ _ _ _ _ _ _ _ _ _ _ _ _ _ _
  | exact semigroupref07_Access.mono _ _ _ _ _
  | exact LeO.none _
  | refine LeO.ite ?_ ?_
  | refine LeO.bind ?_ (fun _ => ?_)
def semigroupref07_Trim.T23 : Bool × List (List Nat × List Nat) := (true, [([], []), ([0], [0]), ([], []), ([2], [2]), ([1, 3], [1, 3]), ([], []), ([5], [5]), ([], []), ([7], [7]), ([], []), ([8, 9], [8, 9]), ([10], [10]), ([11], [11]), ([6, 12, 4], [6, 12]), ([0, 1, 2, 3, 4, 5, 6], []), ([14, 4, 13, 0, 1, 2, 3, 4, 5, 6], [4, 14]), ([0, 1, 2, 3, 4, 5, 6, 7, 8, 9, 10, 11, 12, 13, 14, 15], []), ([16, 13, 15, 0, 1, 2, 3, 4, 5, 6, 7, 8, 9, 10, 11, 12, 13, 14, 15], [13, 16])])
def semigroupref07_Trim.B23 : List Nat := [0, 1, 0, 4, 15, 0, 32, 0, 128, 0, 896, 1920, 3968, 8191, 127, 32767, 65535, 131071]
theorem semigroupref07_Trim.tab23 : rtab .any (opsOf Try.f29 23) = semigroupref07_Trim.T23 := by kernel_rfl
theorem semigroupref07_Trim.bits23 : waitsOk semigroupref07_Trim.T23.2 semigroupref07_Trim.B23 = true := by kernel_rfl
set_option maxHeartbeats 8000000 in
set_option maxRecDepth 100000 in
theorem semigroupref07_Trim.calls (k : Nat) (a0_0 : Int) (a0_1 : Int) (A0_2 : Option Addr) (c0_2 : Nat) (l0_2 : List Bool) (A0_3 : Option Addr) (c0_3 : Nat) (l0_3 : List (List Int)) (r1 : Int) (r2 : Int) (r3 : List Bool) (r4 : List (List Int)) (r5 : List Int) (w : World) (hr0_2 : Kd.C Kd.bool w A0_2 l0_2.length l0_2) (hc0_2 : l0_2.length ≤ c0_2) (hr0_3 : Kd.C (Kd.slice 3 (Kd.int .i64)) w A0_3 l0_3.length l0_3) (hc0_3 : l0_3.length ≤ c0_3) (h : semigroupref07_Trim.f k a0_0 a0_1 l0_2 l0_3 = some (r1, r2, r3, r4, r5)) :
 Calls Try.prog 29 #[.agg #[.int .i64 a0_0, .int .i64 a0_1, .slice A0_2 l0_2.length c0_2, .slice A0_3 l0_3.length c0_3]] w fun e w' => ∃ v2_ v3_ v4_ : Value, e = .returned (.tuple #[.agg #[.int .i64 r1, .int .i64 r2, v2_, v3_], v4_]) ∧ Kd.R Kd.bool 4 w' w.heap.size (fun k_ => (w.heap.size ≤ k_)) v2_ r3 ∧ Kd.N (Kd.slice 3 (Kd.int .i64)) 38 w' w.heap.size (fun k_ => (w.heap.size ≤ k_) ∧ some k_ ≠ (v2_ : Value).ownBlock ∧ some k_ ≠ (v4_ : Value).ownBlock) v3_ r4 ∧ Kd.R (Kd.int .i64) 3 w' w.heap.size (fun k_ => (w.heap.size ≤ k_)) v4_ r5 ∧ Below w.heap.size w w' := by
 have hu25 := Try.underlying25
 have HR0_2 := Aside0.mk hr0_2
 have HC0_2 := Aside0.mk hc0_2
 clear hr0_2 hc0_2
 have HR0_3 := Aside0.mk hr0_3
 have HC0_3 := Aside0.mk hc0_3
 clear hr0_3 hc0_3
 have HB := Aside0.mk (Below.refl w.heap.size w)
 have H : ((semigroupref07_Access.f k a0_0 a0_1 l0_2 l0_3).bind fun bt293 => (if 0 ≤ (l0_2.length : Int) then (if ((l0_2.length : Int) : Int).toNat ≤ 35184372088832 then ((some (List.replicate ((l0_2.length : Int) : Int).toNat 0 : List Int)).bind fun y299 => (semigroupref07_Trim.l0 k bt293.1 y299 (y299.length : Int) 0 a0_0 a0_1 l0_2 l0_3)) else (none)) else (none))) = some (r1, r2, r3, r4, r5) := h
 clear h
 replace H := Option.bind_eq_some_iff.mp H
 obtain ⟨⟨t293, t296⟩, A20, H⟩ := H
 replace H : (if 0 ≤ (l0_2.length : Int) then (if ((l0_2.length : Int) : Int).toNat ≤ 35184372088832 then ((some (List.replicate ((l0_2.length : Int) : Int).toNat 0 : List Int)).bind fun y299 => (semigroupref07_Trim.l0 k t293 y299 (y299.length : Int) 0 a0_0 a0_1 l0_2 l0_3)) else (none)) else (none)) = some (r1, r2, r3, r4, r5) := H
 have A2 := Aside0.mk A20
 clear A20
 by_cases c3 : 0 ≤ (l0_2.length : Int)
 (focus
 rw [if_pos c3] at H
 have c3b0 := eq_true c3
 have c3b1 : decide (0 ≤ (l0_2.length : Int)) = true := decide_eq_true c3
 clear c3
 by_cases c4 : ((l0_2.length : Int) : Int).toNat ≤ 35184372088832
 (focus
 rw [if_pos c4] at H
 have c4b0 := eq_true c4
 have c4b1 : decide (((l0_2.length : Int) : Int).toNat ≤ 35184372088832) = true := decide_eq_true c4
 clear c4
 obtain ⟨y299, hy299⟩ : ∃ y_ : List Int, y_ = (List.replicate ((l0_2.length : Int) : Int).toNat 0) := ⟨_, rfl⟩
 replace H : (semigroupref07_Trim.l0 k t293 y299 (y299.length : Int) 0 a0_0 a0_1 l0_2 l0_3) = some (r1, r2, r3, r4, r5) := by first | (rw [hy299]; with_reducible exact H) | (have H2_ := (Option.bind_some _ _).symm.trans H; rw [hy299]; with_reducible exact H2_) | (have H2_ := (Option.bind_some _ _).symm.trans H; with_reducible exact H2_) | with_reducible exact H | (rw [hy299]; exact H) | exact H
 have Ny299 := Aside0.mk hy299
 clear hy299
 have H' := Aside0.mk H
 clear H
 go_enter Try.func29, Try.ntmps29
 go_wp2_with (first | ((with_reducible refine gate_dst (N := 1) rfl ?_); refine box_event ?hg (N := 1) ?hd (cs := #[.int .i64 a0_0, .int .i64 a0_1, .slice A0_2 l0_2.length c0_2, .slice A0_3 l0_3.length c0_3]) (t := 25) ?hr ?_; (case hd => rfl); (case hg => rfl); (case hr => first | (go_simp; done) | (go_simp; rfl)); intro gb291 hg w5 hbox hb; have n0_ := Aside0.mk (below_step (by repeat (first | (with_reducible first | exact HB.out | apply below_alloc | apply pw_below_drewN | apply below_drew1) | exact HB.out)) hb); have n1_ := Aside0.mk (hbox); have n2_ := Aside0.mk ((by rw [hg]; exact (below_size (by repeat (first | (with_reducible first | exact HB.out | apply below_alloc | apply pw_below_drewN | apply below_drew1) | exact HB.out))) : w.heap.size ≤ gb291)); have n3_ := Aside0.mk ((by rw [hg]; exact (below_size (by repeat (first | (with_reducible first | exact HB.out | apply below_alloc | apply pw_below_drewN | apply below_drew1) | exact HB.out))) : w.heap.size ≤ gb291)); clear HB; have HB := n0_; have BK291 := n1_; have GW291 := n2_; have GE291 := n3_; clear n0_ n1_ n2_ n3_; clear hb hbox hg) | ((with_reducible refine gate_dst (N := 2) rfl ?_); refine box_event ?hg (N := 2) ?hd (cs := #[.int .i64 0, .int .i64 0, .slice none 0 0, .slice none 0 0]) (t := 25) ?hr ?_; (case hd => rfl); (case hg => rfl); (case hr => first | (go_simp; done) | (go_simp; rfl)); intro gb292 hg w6 hbox hb; have n0_ := Aside0.mk (blk_below (g := gb291) (o := .cells #[.int .i64 a0_0, .int .i64 a0_1, .slice A0_2 l0_2.length c0_2, .slice A0_3 l0_3.length c0_3] 25 (0, 0)) (uB BK291.out) hb); have n1_ := Aside0.mk (below_step (by repeat (first | (with_reducible first | exact HB.out | apply below_alloc | apply pw_below_drewN | apply below_drew1 | refine below_set ?_ GE291.out) | exact HB.out)) hb); have n2_ := Aside0.mk (hbox); have n3_ := Aside0.mk ((by rw [hg]; exact (below_size (by repeat (first | (with_reducible first | exact HB.out | apply below_alloc | apply pw_below_drewN | apply below_drew1 | refine below_set ?_ GE291.out) | exact HB.out))) : w.heap.size ≤ gb292)); have n4_ := Aside0.mk ((by rw [hg]; exact (below_size (by repeat (first | (with_reducible first | exact HB.out | apply below_alloc | apply pw_below_drewN | apply below_drew1 | refine below_set ?_ GE291.out) | exact HB.out))) : w.heap.size ≤ gb292)); have n5_ := Aside0.mk ((by rw [hg]; exact Nat.ne_of_lt (blk_lt (g := gb291) (o := .cells #[.int .i64 a0_0, .int .i64 a0_1, .slice A0_2 l0_2.length c0_2, .slice A0_3 l0_3.length c0_3] 25 (0, 0)) (uB BK291.out)) : gb291 ≠ gb292)); have n6_ := Aside0.mk ((by rw [hg]; exact Nat.ne_of_gt (blk_lt (g := gb291) (o := .cells #[.int .i64 a0_0, .int .i64 a0_1, .slice A0_2 l0_2.length c0_2, .slice A0_3 l0_3.length c0_3] 25 (0, 0)) (uB BK291.out)) : gb292 ≠ gb291)); clear BK291; clear HB; have BK291 := n0_; have HB := n1_; have BK292 := n2_; have GW292 := n3_; have GE292 := n4_; have NB291_292 := n5_; have NB292_291 := n6_; clear n0_ n1_ n2_ n3_ n4_ n5_ n6_; clear hb hbox hg; have hnb7 := NB291_292.out; have hnc7 := NB292_291.out; have hcz8_0 : w6.cell? ⟨gb291, 0, none⟩ = some (.int .i64 a0_0) := (blk_cell BK291.out 0).trans rfl; have hcz8_1 : w6.cell? ⟨gb291, 1, none⟩ = some (.int .i64 a0_1) := (blk_cell BK291.out 1).trans rfl; have hcz8_2 : w6.cell? ⟨gb291, 2, none⟩ = some (.slice A0_2 l0_2.length c0_2) := (blk_cell BK291.out 2).trans rfl; have hcz8_3 : w6.cell? ⟨gb291, 3, none⟩ = some (.slice A0_3 l0_3.length c0_3) := (blk_cell BK291.out 3).trans rfl; have hfz8_0 := blk_frozen BK291.out 0; have hfz8_1 := blk_frozen BK291.out 1; have hfz8_2 := blk_frozen BK291.out 2; have hfz8_3 := blk_frozen BK291.out 3) | ((with_reducible refine gate_callee (f := 49) rfl ?_); refine goesL_ (some 18) rfl rfl Try.func49 (by kernel_rfl) rfl #[.agg #[.int .i64 a0_0, .int .i64 a0_1, .slice A0_2 l0_2.length c0_2, .slice A0_3 l0_3.length c0_3]] rfl (by (try simp only [List.map_toArray, List.map_cons, List.map_nil]); first | done | rfl | (simp only [List.length_drop, List.length_take]; rfl)) ?_; (with_reducible refine (semigroupref07_Access.calls k a0_0 a0_1 _ _ l0_2 _ _ l0_3 t293 t296 _ ?side1 ?side2 ?side3 ?side4 A2.out).mono ?_); (case side1 => repeat (first | exact (Kd.C_below HR0_2.out HB.out) | (with_reducible refine Kd.C_alloc ?_ _) | (with_reducible refine Kd.C_drewN ?_ _) | (with_reducible refine Kd.C_drew ?_))); (case side2 => exact HC0_2.out); (case side3 => repeat (first | exact (Kd.C_below HR0_3.out HB.out) | (with_reducible refine Kd.C_alloc ?_ _) | (with_reducible refine Kd.C_drewN ?_ _) | (with_reducible refine Kd.C_drew ?_))); (case side4 => exact HC0_3.out); rintro e w9 ⟨v294, v297, rfl, ho0, ho1, hb⟩; refine ⟨_, rfl, ?_⟩; have n0_ := Aside0.mk (Kd.R_lower (Kd.R_newM (M := fun k_ => (w.heap.size ≤ k_)) ho0 (below_size (by repeat (first | (with_reducible first | exact HB.out | apply below_alloc | apply pw_below_drewN | apply below_drew1 | refine below_set ?_ GE291.out | refine below_set ?_ GE292.out) | exact HB.out))) (fun k_ h_ => h_)) (below_size (by repeat (first | (with_reducible first | exact HB.out | apply below_alloc | apply pw_below_drewN | apply below_drew1 | refine below_set ?_ GE291.out | refine below_set ?_ GE292.out) | exact HB.out)))); have n1_ := Aside0.mk (Kd.R_lower (Kd.R_newM (M := fun k_ => (w.heap.size ≤ k_)) ho1 (below_size (by repeat (first | (with_reducible first | exact HB.out | apply below_alloc | apply pw_below_drewN | apply below_drew1 | refine below_set ?_ GE291.out | refine below_set ?_ GE292.out) | exact HB.out))) (fun k_ h_ => h_)) (below_size (by repeat (first | (with_reducible first | exact HB.out | apply below_alloc | apply pw_below_drewN | apply below_drew1 | refine below_set ?_ GE291.out | refine below_set ?_ GE292.out) | exact HB.out)))); have n2_ := Aside0.mk (blk_below (g := gb291) (o := .cells #[.int .i64 a0_0, .int .i64 a0_1, .slice A0_2 l0_2.length c0_2, .slice A0_3 l0_3.length c0_3] 25 (0, 0)) (uB BK291.out) hb); have n3_ := Aside0.mk (blk_below (g := gb292) (o := .cells #[.int .i64 0, .int .i64 0, .slice none 0 0, .slice none 0 0] 25 (0, 0)) (uB BK292.out) hb); have n4_ := Aside0.mk (below_step (by repeat (first | (with_reducible first | exact HB.out | apply below_alloc | apply pw_below_drewN | apply below_drew1 | refine below_set ?_ GE291.out | refine below_set ?_ GE292.out) | exact HB.out)) hb); clear BK291; clear BK292; clear HB; have HO295 := n0_; have HO298 := n1_; have BK291 := n2_; have BK292 := n3_; have HB := n4_; clear n0_ n1_ n2_ n3_ n4_; (try clear hb); (try clear hb2); (try clear hk); (try clear hi); (try clear ho0); (try clear ho1); have hcz10_0 : w9.cell? ⟨gb291, 0, none⟩ = some (.int .i64 a0_0) := (blk_cell BK291.out 0).trans rfl; have hcz10_1 : w9.cell? ⟨gb291, 1, none⟩ = some (.int .i64 a0_1) := (blk_cell BK291.out 1).trans rfl; have hcz10_2 : w9.cell? ⟨gb291, 2, none⟩ = some (.slice A0_2 l0_2.length c0_2) := (blk_cell BK291.out 2).trans rfl; have hcz10_3 : w9.cell? ⟨gb291, 3, none⟩ = some (.slice A0_3 l0_3.length c0_3) := (blk_cell BK291.out 3).trans rfl; have hfz10_0 := blk_frozen BK291.out 0; have hfz10_1 := blk_frozen BK291.out 1; have hfz10_2 := blk_frozen BK291.out 2; have hfz10_3 := blk_frozen BK291.out 3) | ((with_reducible refine gate_dst (N := 24) rfl ?_); refine Kd.R_make (Kd.int .i64) _ 3 rfl (N := 24) rfl 38 _ _ rfl (l0_2.length : Int) rfl rfl Try.underlying38 (.int .i64 0) 8 info3 rfl (by decide) (by omega) 0 (ok := fun _ => True) (okp := fun _ => True) rfl (fun _ hk => hk) trivial (of_decide_eq_true (by first | (with_reducible assumption) | assumption)) (Nat.le_trans (Nat.mul_le_mul_right _ (of_decide_eq_true (by first | (with_reducible assumption) | assumption) : (l0_2.length : Int).toNat ≤ 35184372088832)) (by omega)) (Below.refl _ _) (Nat.le_refl _) ?_; intro v300 w11 ho12 hb hg_ hnew_; clear hg_ hnew_; (first | rw [← Ny299.out] at ho12 | (simp only [Int.reduceToNat] at ho12; rw [← Ny299.out] at ho12)); have n0_ := Aside0.mk (Kd.R_elder' (uR HO295.out) (Kd.R_base ho12) hb); have n1_ := Aside0.mk (Kd.R_below (uR HO298.out) hb); have n2_ := Aside0.mk (Kd.R_lower (Kd.R_new' (Kd.R_newM (M := fun k_ => (w.heap.size ≤ k_)) ho12 (below_size (by repeat (first | (with_reducible first | exact HB.out | apply below_alloc | apply pw_below_drewN | apply below_drew1 | refine below_set ?_ GE291.out | refine below_set ?_ GE292.out) | exact HB.out))) (fun k_ h_ => h_)) (Kd.R_lt (uR HO295.out))) (below_size (by repeat (first | (with_reducible first | exact HB.out | apply below_alloc | apply pw_below_drewN | apply below_drew1 | refine below_set ?_ GE291.out | refine below_set ?_ GE292.out) | exact HB.out)))); have n3_ := Aside0.mk (blk_below (g := gb291) (o := .cells #[.int .i64 a0_0, .int .i64 a0_1, .slice A0_2 l0_2.length c0_2, .slice A0_3 l0_3.length c0_3] 25 (0, 0)) (uB BK291.out) hb); have n4_ := Aside0.mk (blk_below (g := gb292) (o := .cells #[.int .i64 0, .int .i64 0, .slice none 0 0, .slice none 0 0] 25 (0, 0)) (uB BK292.out) hb); have n5_ := Aside0.mk (below_step (by repeat (first | (with_reducible first | exact HB.out | apply below_alloc | apply pw_below_drewN | apply below_drew1 | refine below_set ?_ GE291.out | refine below_set ?_ GE292.out) | exact HB.out)) hb); clear HO295; clear HO298; clear BK291; clear BK292; clear HB; have HO295 := n0_; have HO298 := n1_; have HO301 := n2_; have BK291 := n3_; have BK292 := n4_; have HB := n5_; clear n0_ n1_ n2_ n3_ n4_ n5_; clear hb ho12; obtain ⟨Ao13, co13, eo13⟩ := Kd.R_slice HO301.out; subst eo13))
 go_loopg [27] k (fun kq v27 w' => ∃ (x6_1 : List Int) (x27_1 : Int), v27 = .int .i64 x27_1 ∧ Aside0 (semigroupref07_Trim.l0 kq t293 x6_1 (y299.length : Int) x27_1 a0_0 a0_1 l0_2 l0_3 = some (r1, r2, r3, r4, r5)) ∧ Aside0 (kq ≤ k) ∧ Aside0 (Kd.R (Kd.int .i64) 3 w' w.heap.size (fun k_ => (w.heap.size ≤ k_) ∧ some k_ ≠ ((.slice Ao13 y299.length co13) : Value).ownBlock) v294 t293) ∧ Aside0 (Kd.R (Kd.int .i64) 3 w' w.heap.size (fun k_ => (w.heap.size ≤ k_) ∧ some k_ ≠ (v294 : Value).ownBlock) (.slice Ao13 y299.length co13) x6_1) ∧ Aside0 (w'.heap[gb291]? = some (.cells #[.int .i64 a0_0, .int .i64 a0_1, (.slice A0_2 l0_2.length c0_2), (.slice A0_3 l0_3.length c0_3)] 25 (0, 0))) ∧ Aside0 (w'.heap[gb292]? = some (.cells #[.int .i64 0, .int .i64 0, (.slice none 0 0), (.slice none 0 0)] 25 (0, 0))) ∧ Aside0 (Below w.heap.size w w'))
 case atStart => exact ⟨(y299), (0), (by first | rfl | (simp; done) | (simp [*]; done)), H', ⟨Nat.le_refl _⟩, ⟨by (with_reducible repeat (first | apply Kd.R_alloc | apply Kd.R_drewN | apply Kd.R_drew)); exact Kd.R_mono HO295.out (fun _ hk => ⟨hk.1.1, hk.2⟩)⟩, ⟨by (with_reducible repeat (first | apply Kd.R_alloc | apply Kd.R_drewN | apply Kd.R_drew)); exact Kd.R_mono HO301.out (fun _ hk => ⟨hk.1.1, hk.2⟩)⟩, ⟨by (with_reducible repeat (first | refine blk_drewN ?_ _ | refine blk_drew ?_ | refine blk_alloc ?_ _)); exact BK291.out⟩, ⟨by (with_reducible repeat (first | refine blk_drewN ?_ _ | refine blk_drew ?_ | refine blk_alloc ?_ _)); exact BK292.out⟩, ⟨by repeat (first | (with_reducible first | exact HB.out | apply below_alloc | apply pw_below_drewN | apply below_drew1 | refine below_set ?_ GE291.out | refine below_set ?_ GE292.out) | exact HB.out)⟩⟩
 case round =>
  clear H'
  try clear c2
  try clear p2
  try clear c3
  try clear c3b0
  try clear c3b1
  try clear c4
  try clear c4b0
  try clear c4b1
  try clear c7
  try clear hcz10_0
  try clear hcz10_1
  try clear hcz10_2
  try clear hcz10_3
  try clear hcz8_0
  try clear hcz8_1
  try clear hcz8_2
  try clear hcz8_3
  try clear hfz10_0
  try clear hfz10_1
  try clear hfz10_2
  try clear hfz10_3
  try clear hfz8_0
  try clear hfz8_1
  try clear hfz8_2
  try clear hfz8_3
  obtain ⟨x6_1, x27_1, rfl, HA, HK1, HO_4, HO_6, BK291, BK292, HB⟩ := hrel
  have hl6_1 := (Kd.R_reads' HO_6.out).1
  rw [hl6_1] at HO_6
  (try simp only [hl6_1])
  (try simp only [hl6_1] at BK291)
  (try simp only [hl6_1] at BK292)
  (try simp only [hl6_1] at HO_4)
  cases gk with
  | zero => exact absurd HA.out (by simp [semigroupref07_Trim.l0])
  | succ k1 =>
   have H := HA.out
   clear HA
   simp only [semigroupref07_Trim.l0] at H
   by_cases c14 : x27_1 < (y299.length : Int)
   (focus
   rw [if_pos c14] at H
   have c14b0 : decide (x27_1 < (y299.length : Int)) = true := decide_eq_true c14
   (try (have c14b0_hl6_1 := c14b0; simp only [hl6_1] at c14b0_hl6_1))
   clear c14
   by_cases c15 : 0 ≤ x27_1
   (focus
   rw [if_pos c15] at H
   have c15b0 : decide (0 ≤ x27_1) = true := decide_eq_true c15
   clear c15
   by_cases c16 : x27_1 < (x6_1.length : Int)
   (focus
   rw [if_pos c16] at H
   have c16b0 : decide (x27_1 < (x6_1.length : Int)) = true := decide_eq_true c16
   (try (have c16b0_hl6_1 := c16b0; simp only [hl6_1] at c16b0_hl6_1))
   clear c16
   obtain ⟨y302, hy302⟩ : ∃ y_ : List Int, y_ = (x6_1.set (x27_1 : Int).toNat (-1)) := ⟨_, rfl⟩
   replace H : (semigroupref07_Trim.l0 k1 t293 y302 (y299.length : Int) (wrap64 (x27_1 + 1)) a0_0 a0_1 l0_2 l0_3) = some (r1, r2, r3, r4, r5) := by first | (rw [hy302]; with_reducible exact H) | (have H2_ := (Option.bind_some _ _).symm.trans H; rw [hy302]; with_reducible exact H2_) | (have H2_ := (Option.bind_some _ _).symm.trans H; with_reducible exact H2_) | with_reducible exact H | (rw [hy302]; exact H) | exact H
   have Ny302 := Aside0.mk hy302
   clear hy302
   have H' := Aside0.mk H
   clear H
   have p17 : 0 ≤ (x27_1 : Int) := of_decide_eq_true (by first | (with_reducible assumption) | assumption)
   have q17 : (x27_1 : Int) < ((x6_1.length : Int) : Int) := of_decide_eq_true (by first | (with_reducible assumption) | assumption)
   obtain ⟨go17, co17, eo17, gb17, gl17, cl17, HG17⟩ := Kd.R_form HO_6.out (by first | omega | (have e_ := (Kd.R_reads' HO_6.out).1; omega))
   (first | cases eo17 | (injection eo17 with ea_ en_ ec_; (first | subst ea_ | (injection ea_ with ea_; subst ea_)); subst ec_; clear en_))
   have GB17 := Aside0.mk gb17
   have GG17 := Aside0.mk HG17
   clear gb17 gl17 HG17
   obtain ⟨hx17_0, hf17_0⟩ := Kd.R_celln 0 HO_6.out (x27_1 : Int) p17 q17
   replace p17 := eq_true p17
   replace q17 := eq_true q17
   have HP18 := Kd.R_putg HO_6.out (x27_1 : Int) (-1)
   go_wp2_with (first | ((with_reducible refine gate_store (t := 3) (p := 32) rfl ?_); refine store_event (t := 3) (p := 32) (v := ?vo_w19) (w1 := (wr.setCell ⟨go17, (x27_1 : Int).toNat, none⟩ (.int .i64 (-1)))) ?hg ?ho ?hn ?hr ?_; (case ho => rfl); (case hg => rfl); (case hn => rfl); (case hr => first | (go_simp; done) | (go_simp; rfl)); intro w19 hw; have hg : wr.grownBy w19 (some go17) := (by rw [hw]; exact HP18.2); have hp_ : Kd.R (Kd.int .i64) 3 w19 w.heap.size (fun k_ => (w.heap.size ≤ k_) ∧ some k_ ≠ (v294 : Value).ownBlock) (.slice (some ⟨go17, 0, none⟩) x6_1.length co13) y302 := (by rw [hw, Ny302.out]; exact HP18.1); clear HP18; have n0_ := Aside0.mk (Kd.R_after (v := (.slice (some ⟨go17, 0, none⟩) x6_1.length co13)) (v1 := (.slice (some ⟨go17, 0, none⟩) x6_1.length co13)) (ok := (fun k_ => (w.heap.size ≤ k_))) (uR HO_4.out) hg (.inl rfl)); have n1_ := Aside0.mk (hp_); have n2_ := Aside0.mk (blk_grown (g := gb291) (o := .cells #[.int .i64 a0_0, .int .i64 a0_1, .slice A0_2 l0_2.length c0_2, .slice A0_3 l0_3.length c0_3] 25 (0, 0)) (uB BK291.out) hg (Kd.R_ne HO_6.out BK291.out (by decide))); have n3_ := Aside0.mk (blk_grown (g := gb292) (o := .cells #[.int .i64 0, .int .i64 0, .slice none 0 0, .slice none 0 0] 25 (0, 0)) (uB BK292.out) hg (Kd.R_ne HO_6.out BK292.out (by decide))); have n4_ := Aside0.mk ((by rw [hw]; exact below_set (HB.out) GB17.out : Below w.heap.size w w19)); clear HO_4; clear HO_6; clear BK291; clear BK292; clear HB; have HO_4 := n0_; have HO_6 := n1_; have BK291 := n2_; have BK292 := n3_; have HB := n4_; clear n0_ n1_ n2_ n3_ n4_; clear hg hw hp_))
   (try simp only [← hl6_1])
   go_roundg k1
   case measure => have := HK1.out; omega
   case rel => exact ⟨(y302), (wrap64 (x27_1 + 1)), (by first | rfl | (simp; done) | (simp [*]; done)), H', ⟨by have := HK1.out; omega⟩, ⟨by (try simp only [hl6_1]); (with_reducible repeat (first | apply Kd.R_alloc | apply Kd.R_drewN | apply Kd.R_drew)); exact HO_4.out⟩, ⟨by (try simp only [hl6_1]); (with_reducible repeat (first | apply Kd.R_alloc | apply Kd.R_drewN | apply Kd.R_drew)); exact HO_6.out⟩, ⟨by (try simp only [hl6_1]); (with_reducible repeat (first | refine blk_drewN ?_ _ | refine blk_drew ?_ | refine blk_alloc ?_ _)); exact BK291.out⟩, ⟨by (try simp only [hl6_1]); (with_reducible repeat (first | refine blk_drewN ?_ _ | refine blk_drew ?_ | refine blk_alloc ?_ _)); exact BK292.out⟩, ⟨by repeat (first | (with_reducible first | exact HB.out | apply below_alloc | apply pw_below_drewN | apply below_drew1 | refine below_set ?_ GE291.out | refine below_set ?_ GE292.out) | exact HB.out)⟩⟩
   )
   (focus
   rw [if_neg c16] at H
   exact absurd H (by simp)
   )
   )
   (focus
   rw [if_neg c15] at H
   exact absurd H (by simp)
   )
   )
   (focus
   rw [if_neg c14] at H
   have c14b0 : decide (x27_1 < (y299.length : Int)) = false := decide_eq_false c14
   (try (have c14b0_hl6_1 := c14b0; simp only [hl6_1] at c14b0_hl6_1))
   clear c14
   have H' := Aside0.mk H
   clear H
   obtain ⟨Ao20, co20, eo20⟩ := Kd.R_slice HO_4.out
   subst eo20
   go_wp2
   go_loopg [36] k1 (fun kq v36 w' => ∃ (x6_2 : List Int) (x36_2 : Int), v36 = .int .i64 x36_2 ∧ Aside0 (semigroupref07_Trim.l1 kq t293 x6_2 t293 (t293.length : Int) x36_2 a0_0 a0_1 l0_2 l0_3 = some (r1, r2, r3, r4, r5)) ∧ Aside0 (kq ≤ k1) ∧ Aside0 (Kd.R (Kd.int .i64) 3 w' w.heap.size (fun k_ => (w.heap.size ≤ k_) ∧ some k_ ≠ ((.slice Ao13 x6_1.length co13) : Value).ownBlock) (.slice Ao20 t293.length co20) t293) ∧ Aside0 (Kd.R (Kd.int .i64) 3 w' w.heap.size (fun k_ => (w.heap.size ≤ k_) ∧ some k_ ≠ ((.slice Ao20 t293.length co20) : Value).ownBlock ∧ some k_ ≠ ((.slice Ao20 t293.length co20) : Value).ownBlock) (.slice Ao13 x6_1.length co13) x6_2) ∧ Aside0 (Kd.R (Kd.int .i64) 3 w' w.heap.size (fun k_ => (w.heap.size ≤ k_) ∧ some k_ ≠ ((.slice Ao13 x6_1.length co13) : Value).ownBlock) (.slice Ao20 t293.length co20) t293) ∧ Aside0 (w'.heap[gb291]? = some (.cells #[.int .i64 a0_0, .int .i64 a0_1, (.slice A0_2 l0_2.length c0_2), (.slice A0_3 l0_3.length c0_3)] 25 (0, 0))) ∧ Aside0 (w'.heap[gb292]? = some (.cells #[.int .i64 0, .int .i64 0, (.slice none 0 0), (.slice none 0 0)] 25 (0, 0))) ∧ Aside0 (Below w.heap.size w w'))
   case atStart => exact ⟨(x6_1), (0), (by first | rfl | (simp; done) | (simp [*]; done)), H', ⟨Nat.le_refl _⟩, ⟨by (try simp only [hl6_1]); (with_reducible repeat (first | apply Kd.R_alloc | apply Kd.R_drewN | apply Kd.R_drew)); exact HO_4.out⟩, ⟨by (try simp only [hl6_1]); (with_reducible repeat (first | apply Kd.R_alloc | apply Kd.R_drewN | apply Kd.R_drew)); exact Kd.R_mono HO_6.out (fun _ hk => ⟨hk.1, ⟨hk.2, hk.2⟩⟩)⟩, ⟨by (try simp only [hl6_1]); (with_reducible repeat (first | apply Kd.R_alloc | apply Kd.R_drewN | apply Kd.R_drew)); exact HO_4.out⟩, ⟨by (try simp only [hl6_1]); (with_reducible repeat (first | refine blk_drewN ?_ _ | refine blk_drew ?_ | refine blk_alloc ?_ _)); exact BK291.out⟩, ⟨by (try simp only [hl6_1]); (with_reducible repeat (first | refine blk_drewN ?_ _ | refine blk_drew ?_ | refine blk_alloc ?_ _)); exact BK292.out⟩, ⟨by repeat (first | (with_reducible first | exact HB.out | apply below_alloc | apply pw_below_drewN | apply below_drew1 | refine below_set ?_ GE291.out | refine below_set ?_ GE292.out) | exact HB.out)⟩⟩
   case round =>
    clear H'
    try clear c1
    try clear p1
    try clear q1
    try clear hx1
    try clear hf1
    try clear c2
    try clear p2
    try clear c3
    try clear c3b0
    try clear c3b1
    try clear c4
    try clear c4b0
    try clear c4b1
    try clear p6
    try clear c7
    try clear c14
    try clear c14b0
    try clear c15
    try clear c15b0
    try clear c16
    try clear c16b0
    try clear p17
    try clear q17
    try clear hx17
    try clear hf17
    try clear hcz10_0
    try clear hcz10_1
    try clear hcz10_2
    try clear hcz10_3
    try clear hcz8_0
    try clear hcz8_1
    try clear hcz8_2
    try clear hcz8_3
    try clear hfz10_0
    try clear hfz10_1
    try clear hfz10_2
    try clear hfz10_3
    try clear hfz8_0
    try clear hfz8_1
    try clear hfz8_2
    try clear hfz8_3
    try clear hx17_0
    try clear p17
    try clear p2
    try clear q17
    obtain ⟨x6_2, x36_2, rfl, HA, HK2, HO_4, HO_6, HO_34, BK291, BK292, HB⟩ := hrel
    have hl6_2 := (Kd.R_reads' HO_6.out).1
    rw [hl6_2] at HO_6
    (try simp only [hl6_2])
    (try simp only [hl6_2] at BK291)
    (try simp only [hl6_2] at BK292)
    (try simp only [hl6_2] at HO_4)
    (try simp only [hl6_2] at HO_34)
    cases gk with
    | zero => exact absurd HA.out (by simp [semigroupref07_Trim.l1])
    | succ k2 =>
     have H := HA.out
     clear HA
     simp only [semigroupref07_Trim.l1] at H
     by_cases c21 : x36_2 < (t293.length : Int)
     (focus
     rw [if_pos c21] at H
     have c21b0 : decide (x36_2 < (t293.length : Int)) = true := decide_eq_true c21
     (try (have c21b0_hl6_1 := c21b0; simp only [hl6_1] at c21b0_hl6_1))
     (try (have c21b0_hl6_2 := c21b0; simp only [hl6_2] at c21b0_hl6_2))
     clear c21
     by_cases c22 : 0 ≤ x36_2
     (focus
     rw [if_pos c22] at H
     have c22b0 : decide (0 ≤ x36_2) = true := decide_eq_true c22
     clear c22
     by_cases c23 : x36_2 < (t293.length : Int)
     (focus
     rw [if_pos c23] at H
     have c23b0 : decide (x36_2 < (t293.length : Int)) = true := decide_eq_true c23
     (try (have c23b0_hl6_1 := c23b0; simp only [hl6_1] at c23b0_hl6_1))
     (try (have c23b0_hl6_2 := c23b0; simp only [hl6_2] at c23b0_hl6_2))
     clear c23
     by_cases c24 : 0 ≤ (rd t293 x36_2)
     (focus
     rw [if_pos c24] at H
     have c24b0 : decide (0 ≤ (rd t293 x36_2)) = true := decide_eq_true c24
     clear c24
     by_cases c25 : (rd t293 x36_2) < (x6_2.length : Int)
     (focus
     rw [if_pos c25] at H
     have c25b0 : decide ((rd t293 x36_2) < (x6_2.length : Int)) = true := decide_eq_true c25
     (try (have c25b0_hl6_1 := c25b0; simp only [hl6_1] at c25b0_hl6_1))
     (try (have c25b0_hl6_2 := c25b0; simp only [hl6_2] at c25b0_hl6_2))
     clear c25
     obtain ⟨y304, hy304⟩ : ∃ y_ : List Int, y_ = (x6_2.set ((rd t293 x36_2) : Int).toNat x36_2) := ⟨_, rfl⟩
     replace H : (semigroupref07_Trim.l1 k2 t293 y304 t293 (t293.length : Int) (wrap64 (x36_2 + 1)) a0_0 a0_1 l0_2 l0_3) = some (r1, r2, r3, r4, r5) := by first | (rw [hy304]; with_reducible exact H) | (have H2_ := (Option.bind_some _ _).symm.trans H; rw [hy304]; with_reducible exact H2_) | (have H2_ := (Option.bind_some _ _).symm.trans H; with_reducible exact H2_) | with_reducible exact H | (rw [hy304]; exact H) | exact H
     have Ny304 := Aside0.mk hy304
     clear hy304
     have H' := Aside0.mk H
     clear H
     have p303 : 0 ≤ (x36_2 : Int) := of_decide_eq_true (by first | (with_reducible assumption) | assumption)
     have q303 : x36_2 < (t293.length : Int) := of_decide_eq_true (by first | (with_reducible assumption) | assumption)
     obtain ⟨ad303, e303, hx303_0⟩ := Kd.at_int (Kd.R_reads' HO_34.out).2.2 x36_2 p303 q303
     cases e303
     replace p303 := eq_true p303
     replace q303 := eq_true q303
     have p26 : 0 ≤ ((rd t293 x36_2) : Int) := of_decide_eq_true (by first | (with_reducible assumption) | assumption)
     have q26 : ((rd t293 x36_2) : Int) < ((x6_2.length : Int) : Int) := of_decide_eq_true (by first | (with_reducible assumption) | assumption)
     obtain ⟨go26, co26, eo26, gb26, gl26, cl26, HG26⟩ := Kd.R_form HO_6.out (by first | omega | (have e_ := (Kd.R_reads' HO_6.out).1; omega))
     (first | cases eo26 | (injection eo26 with ea_ en_ ec_; (first | subst ea_ | (injection ea_ with ea_; subst ea_)); subst ec_; clear en_))
     have GB26 := Aside0.mk gb26
     have GG26 := Aside0.mk HG26
     clear gb26 gl26 HG26
     obtain ⟨hx26_0, hf26_0⟩ := Kd.R_celln 0 HO_6.out ((rd t293 x36_2) : Int) p26 q26
     replace p26 := eq_true p26
     replace q26 := eq_true q26
     have HP27 := Kd.R_putg HO_6.out ((rd t293 x36_2) : Int) x36_2
     go_wp2_with (first | ((with_reducible refine gate_store (t := 3) (p := 44) rfl ?_); refine store_event (t := 3) (p := 44) (v := ?vo_w28) (w1 := (wr.setCell ⟨go26, ((rd t293 x36_2) : Int).toNat, none⟩ (.int .i64 x36_2))) ?hg ?ho ?hn ?hr ?_; (case ho => rfl); (case hg => rfl); (case hn => rfl); (case hr => first | (go_simp; done) | (go_simp; rfl)); intro w28 hw; have hg : wr.grownBy w28 (some go26) := (by rw [hw]; exact HP27.2); have hp_ : Kd.R (Kd.int .i64) 3 w28 w.heap.size (fun k_ => (w.heap.size ≤ k_) ∧ some k_ ≠ (.slice (some ad303) t293.length co20 : Value).ownBlock ∧ some k_ ≠ (.slice (some ad303) t293.length co20 : Value).ownBlock) (.slice (some ⟨go26, 0, none⟩) x6_2.length co13) y304 := (by rw [hw, Ny304.out]; exact HP27.1); clear HP27; have n0_ := Aside0.mk (Kd.R_after (v := (.slice (some ⟨go26, 0, none⟩) x6_2.length co13)) (v1 := (.slice (some ⟨go26, 0, none⟩) x6_2.length co13)) (ok := (fun k_ => (w.heap.size ≤ k_))) (uR HO_4.out) hg (.inl rfl)); have n1_ := Aside0.mk (hp_); have n2_ := Aside0.mk (Kd.R_after (v := (.slice (some ⟨go26, 0, none⟩) x6_2.length co13)) (v1 := (.slice (some ⟨go26, 0, none⟩) x6_2.length co13)) (ok := (fun k_ => (w.heap.size ≤ k_))) (uR HO_34.out) hg (.inl rfl)); have n3_ := Aside0.mk (blk_grown (g := gb291) (o := .cells #[.int .i64 a0_0, .int .i64 a0_1, .slice A0_2 l0_2.length c0_2, .slice A0_3 l0_3.length c0_3] 25 (0, 0)) (uB BK291.out) hg (Kd.R_ne HO_6.out BK291.out (by decide))); have n4_ := Aside0.mk (blk_grown (g := gb292) (o := .cells #[.int .i64 0, .int .i64 0, .slice none 0 0, .slice none 0 0] 25 (0, 0)) (uB BK292.out) hg (Kd.R_ne HO_6.out BK292.out (by decide))); have n5_ := Aside0.mk ((by rw [hw]; exact below_set (HB.out) GB26.out : Below w.heap.size w w28)); clear HO_4; clear HO_6; clear HO_34; clear BK291; clear BK292; clear HB; have HO_4 := n0_; have HO_6 := n1_; have HO_34 := n2_; have BK291 := n3_; have BK292 := n4_; have HB := n5_; clear n0_ n1_ n2_ n3_ n4_ n5_; clear hg hw hp_))
     (try simp only [← hl6_2])
     go_roundg k2
     case measure => have := HK1.out; have := HK2.out; omega
     case rel => exact ⟨(y304), (wrap64 (x36_2 + 1)), (by first | rfl | (simp; done) | (simp [*]; done)), H', ⟨by have := HK1.out; have := HK2.out; omega⟩, ⟨by (try simp only [hl6_1]); (try simp only [hl6_2]); (with_reducible repeat (first | apply Kd.R_alloc | apply Kd.R_drewN | apply Kd.R_drew)); exact HO_4.out⟩, ⟨by (try simp only [hl6_1]); (try simp only [hl6_2]); (with_reducible repeat (first | apply Kd.R_alloc | apply Kd.R_drewN | apply Kd.R_drew)); exact HO_6.out⟩, ⟨by (try simp only [hl6_1]); (try simp only [hl6_2]); (with_reducible repeat (first | apply Kd.R_alloc | apply Kd.R_drewN | apply Kd.R_drew)); exact HO_34.out⟩, ⟨by (try simp only [hl6_1]); (try simp only [hl6_2]); (with_reducible repeat (first | refine blk_drewN ?_ _ | refine blk_drew ?_ | refine blk_alloc ?_ _)); exact BK291.out⟩, ⟨by (try simp only [hl6_1]); (try simp only [hl6_2]); (with_reducible repeat (first | refine blk_drewN ?_ _ | refine blk_drew ?_ | refine blk_alloc ?_ _)); exact BK292.out⟩, ⟨by repeat (first | (with_reducible first | exact HB.out | apply below_alloc | apply pw_below_drewN | apply below_drew1 | refine below_set ?_ GE291.out | refine below_set ?_ GE292.out) | exact HB.out)⟩⟩
     )
     (focus
     rw [if_neg c25] at H
     exact absurd H (by simp)
     )
     )
     (focus
     rw [if_neg c24] at H
     exact absurd H (by simp)
     )
     )
     (focus
     rw [if_neg c23] at H
     exact absurd H (by simp)
     )
     )
     (focus
     rw [if_neg c22] at H
     exact absurd H (by simp)
     )
     )
     (focus
     rw [if_neg c21] at H
     have c21b0 : decide (x36_2 < (t293.length : Int)) = false := decide_eq_false c21
     (try (have c21b0_hl6_1 := c21b0; simp only [hl6_1] at c21b0_hl6_1))
     (try (have c21b0_hl6_2 := c21b0; simp only [hl6_2] at c21b0_hl6_2))
     clear c21
     have H' := Aside0.mk H
     clear H
     have hnb29 := NB291_292.out
     have hnc29 := NB292_291.out
     have hcz30_0 : wr.cell? ⟨gb291, 0, none⟩ = some (.int .i64 a0_0) := (blk_cell BK291.out 0).trans rfl
     have hcz30_1 : wr.cell? ⟨gb291, 1, none⟩ = some (.int .i64 a0_1) := (blk_cell BK291.out 1).trans rfl
     have hcz30_2 : wr.cell? ⟨gb291, 2, none⟩ = some (.slice A0_2 l0_2.length c0_2) := (blk_cell BK291.out 2).trans rfl
     have hcz30_3 : wr.cell? ⟨gb291, 3, none⟩ = some (.slice A0_3 l0_3.length c0_3) := (blk_cell BK291.out 3).trans rfl
     have hfz30_0 := blk_frozen BK291.out 0
     have hfz30_1 := blk_frozen BK291.out 1
     have hfz30_2 := blk_frozen BK291.out 2
     have hfz30_3 := blk_frozen BK291.out 3
     go_wp2_with (first | ((with_reducible refine gate_dst (N := 10) rfl ?_); refine box_event ?hg (N := 10) ?hd (cs := #[.int .i64 0, .int .i64 0, .slice none 0 0, .slice none 0 0]) (t := 25) ?hr ?_; (case hd => rfl); (case hg => rfl); (case hr => first | (go_simp; done) | (go_simp; rfl)); intro gb305 hg w31 hbox hb; have n0_ := Aside0.mk (Kd.R_below (uR HO_4.out) hb); have n1_ := Aside0.mk (Kd.R_below (uR HO_6.out) hb); have n2_ := Aside0.mk (Kd.R_below (uR HO_34.out) hb); have n3_ := Aside0.mk (blk_below (g := gb291) (o := .cells #[.int .i64 a0_0, .int .i64 a0_1, .slice A0_2 l0_2.length c0_2, .slice A0_3 l0_3.length c0_3] 25 (0, 0)) (uB BK291.out) hb); have n4_ := Aside0.mk (blk_below (g := gb292) (o := .cells #[.int .i64 0, .int .i64 0, .slice none 0 0, .slice none 0 0] 25 (0, 0)) (uB BK292.out) hb); have n5_ := Aside0.mk (below_step (by repeat (first | (with_reducible first | exact HB.out | apply below_alloc | apply pw_below_drewN | apply below_drew1 | refine below_set ?_ GE291.out | refine below_set ?_ GE292.out) | exact HB.out)) hb); have n6_ := Aside0.mk (hbox); have n7_ := Aside0.mk ((by rw [hg]; exact (below_size (by repeat (first | (with_reducible first | exact HB.out | apply below_alloc | apply pw_below_drewN | apply below_drew1 | refine below_set ?_ GE291.out | refine below_set ?_ GE292.out) | exact HB.out))) : w.heap.size ≤ gb305)); have n8_ := Aside0.mk ((by rw [hg]; exact (below_size (by repeat (first | (with_reducible first | exact HB.out | apply below_alloc | apply pw_below_drewN | apply below_drew1 | refine below_set ?_ GE291.out | refine below_set ?_ GE292.out) | exact HB.out))) : w.heap.size ≤ gb305)); have n9_ := Aside0.mk ((by rw [hg]; exact Nat.ne_of_lt (blk_lt (g := gb291) (o := .cells #[.int .i64 a0_0, .int .i64 a0_1, .slice A0_2 l0_2.length c0_2, .slice A0_3 l0_3.length c0_3] 25 (0, 0)) (uB BK291.out)) : gb291 ≠ gb305)); have n10_ := Aside0.mk ((by rw [hg]; exact Nat.ne_of_gt (blk_lt (g := gb291) (o := .cells #[.int .i64 a0_0, .int .i64 a0_1, .slice A0_2 l0_2.length c0_2, .slice A0_3 l0_3.length c0_3] 25 (0, 0)) (uB BK291.out)) : gb305 ≠ gb291)); have n11_ := Aside0.mk ((by rw [hg]; exact Nat.ne_of_lt (blk_lt (g := gb292) (o := .cells #[.int .i64 0, .int .i64 0, .slice none 0 0, .slice none 0 0] 25 (0, 0)) (uB BK292.out)) : gb292 ≠ gb305)); have n12_ := Aside0.mk ((by rw [hg]; exact Nat.ne_of_gt (blk_lt (g := gb292) (o := .cells #[.int .i64 0, .int .i64 0, .slice none 0 0, .slice none 0 0] 25 (0, 0)) (uB BK292.out)) : gb305 ≠ gb292)); clear HO_4; clear HO_6; clear HO_34; clear BK291; clear BK292; clear HB; have HO_4 := n0_; have HO_6 := n1_; have HO_34 := n2_; have BK291 := n3_; have BK292 := n4_; have HB := n5_; have BK305 := n6_; have GW305 := n7_; have GE305 := n8_; have NB291_305 := n9_; have NB305_291 := n10_; have NB292_305 := n11_; have NB305_292 := n12_; clear n0_ n1_ n2_ n3_ n4_ n5_ n6_ n7_ n8_ n9_ n10_ n11_ n12_; clear hb hbox hg; have hnb32 := NB305_291.out; have hnc32 := NB291_305.out; have hnb33 := NB305_292.out; have hnc33 := NB292_305.out; have hcz34_0 : w31.cell? ⟨gb305, 0, none⟩ = some (.int .i64 0) := (blk_cell BK305.out 0).trans rfl; have hcz34_1 : w31.cell? ⟨gb305, 1, none⟩ = some (.int .i64 0) := (blk_cell BK305.out 1).trans rfl; have hcz34_2 : w31.cell? ⟨gb305, 2, none⟩ = some (.slice none 0 0) := (blk_cell BK305.out 2).trans rfl; have hcz34_3 : w31.cell? ⟨gb305, 3, none⟩ = some (.slice none 0 0) := (blk_cell BK305.out 3).trans rfl; have hfz34_0 := blk_frozen BK305.out 0; have hfz34_1 := blk_frozen BK305.out 1; have hfz34_2 := blk_frozen BK305.out 2; have hfz34_3 := blk_frozen BK305.out 3))
     go_loopg [51] k2 (fun kq v51 w' => ∃ (x51_3 : Int) (x306002_3 : List Bool) (x306003_3 : List (List Int)) (u306002 : Value) (u306003 : Value), v51 = .int .i64 x51_3 ∧ Aside0 (semigroupref07_Trim.l2 kq x6_2 t293 (t293.length : Int) x51_3 a0_0 a0_1 l0_2 l0_3 a0_0 0 x306002_3 x306003_3 = some (r1, r2, r3, r4, r5)) ∧ Aside0 (kq ≤ k2) ∧ Aside0 (Kd.R (Kd.int .i64) 3 w' w.heap.size (fun k_ => (w.heap.size ≤ k_) ∧ some k_ ≠ ((.slice Ao20 t293.length co20) : Value).ownBlock) (.slice Ao13 x6_2.length co13) x6_2) ∧ Aside0 (Kd.R (Kd.int .i64) 3 w' w.heap.size (fun k_ => (w.heap.size ≤ k_) ∧ some k_ ≠ ((.slice Ao13 x6_2.length co13) : Value).ownBlock) (.slice Ao20 t293.length co20) t293) ∧ Aside0 (Kd.R Kd.bool 4 w' w.heap.size (fun k_ => (w.heap.size ≤ k_)) u306002 x306002_3) ∧ Aside0 (Kd.N (Kd.slice 3 (Kd.int .i64)) 38 w' w.heap.size (fun k_ => (w.heap.size ≤ k_) ∧ some k_ ≠ ((.slice Ao13 x6_2.length co13) : Value).ownBlock ∧ some k_ ≠ ((.slice Ao20 t293.length co20) : Value).ownBlock ∧ some k_ ≠ (u306002 : Value).ownBlock ∧ k_ ≠ gb291 ∧ k_ ≠ gb292 ∧ k_ ≠ gb305) u306003 x306003_3) ∧ Aside0 (w'.heap[gb291]? = some (.cells #[.int .i64 a0_0, .int .i64 a0_1, (.slice A0_2 l0_2.length c0_2), (.slice A0_3 l0_3.length c0_3)] 25 (0, 0))) ∧ Aside0 (w'.heap[gb292]? = some (.cells #[.int .i64 0, .int .i64 0, (.slice none 0 0), (.slice none 0 0)] 25 (0, 0))) ∧ Aside0 (w'.heap[gb305]? = some (.cells #[.int .i64 a0_0, .int .i64 0, u306002, u306003] 25 (0, 0))) ∧ Aside0 (Below w.heap.size w w'))
     case atStart => exact ⟨(0), (([] : List Bool)), (([] : List (List Int))), (.slice none 0 0), (.slice none 0 0), (by first | rfl | (simp; done) | (simp [*]; done)), H', ⟨Nat.le_refl _⟩, ⟨by (try simp only [hl6_1]); (try simp only [hl6_2]); (with_reducible repeat (first | apply Kd.R_alloc | apply Kd.R_drewN | apply Kd.R_drew)); exact Kd.R_mono (Kd.R_far (p := ⟨gb305, 3, none⟩) (Kd.R_far (p := ⟨gb305, 2, none⟩) (Kd.R_far (p := ⟨gb305, 1, none⟩) (Kd.R_far (p := ⟨gb305, 0, none⟩) (Kd.R_types HO_6.out BK305.out (by decide)) (fun _ hk => hk.2) (.int .i64 a0_0)) (fun _ hk => hk.2) (.int .i64 0)) (fun _ hk => hk.2) (.slice none 0 0)) (fun _ hk => hk.2) (.slice none 0 0)) (fun _ hk => ⟨hk.1.1, hk.1.2.1⟩)⟩, ⟨by (try simp only [hl6_1]); (try simp only [hl6_2]); (with_reducible repeat (first | apply Kd.R_alloc | apply Kd.R_drewN | apply Kd.R_drew)); exact Kd.R_mono (Kd.R_far (p := ⟨gb305, 3, none⟩) (Kd.R_far (p := ⟨gb305, 2, none⟩) (Kd.R_far (p := ⟨gb305, 1, none⟩) (Kd.R_far (p := ⟨gb305, 0, none⟩) (Kd.R_types HO_4.out BK305.out (by decide)) (fun _ hk => hk.2) (.int .i64 a0_0)) (fun _ hk => hk.2) (.int .i64 0)) (fun _ hk => hk.2) (.slice none 0 0)) (fun _ hk => hk.2) (.slice none 0 0)) (fun _ hk => ⟨hk.1.1, hk.1.2⟩)⟩, ⟨by (try simp only [hl6_1]); (try simp only [hl6_2]); first | exact Kd.R_nil _ _ _ _ _ | exact Kd.N_nil _ _ _ _ _ | exact Kd.V_nil _ _ _ _ _ | exact Kd.Q_nil _ _ _ _ _ | exact Kd.S_nil _ _ _ _ _⟩, ⟨by (try simp only [hl6_1]); (try simp only [hl6_2]); first | exact Kd.S_nil _ _ _ _ _ | exact Kd.N_nil _ _ _ _ _ | exact Kd.V_nil _ _ _ _ _ | exact Kd.Q_nil _ _ _ _ _ | exact Kd.R_nil _ _ _ _ _⟩, ⟨by (try simp only [hl6_1]); (try simp only [hl6_2]); (with_reducible repeat (first | refine blk_drewN ?_ _ | refine blk_drew ?_ | refine blk_alloc ?_ _)); refine blk_far ?_ NB291_305.out _; (with_reducible repeat (first | refine blk_drewN ?_ _ | refine blk_drew ?_ | refine blk_alloc ?_ _)); refine blk_far ?_ NB291_305.out _; (with_reducible repeat (first | refine blk_drewN ?_ _ | refine blk_drew ?_ | refine blk_alloc ?_ _)); refine blk_far ?_ NB291_305.out _; (with_reducible repeat (first | refine blk_drewN ?_ _ | refine blk_drew ?_ | refine blk_alloc ?_ _)); refine blk_far ?_ NB291_305.out _; (with_reducible repeat (first | refine blk_drewN ?_ _ | refine blk_drew ?_ | refine blk_alloc ?_ _)); exact BK291.out⟩, ⟨by (try simp only [hl6_1]); (try simp only [hl6_2]); (with_reducible repeat (first | refine blk_drewN ?_ _ | refine blk_drew ?_ | refine blk_alloc ?_ _)); refine blk_far ?_ NB292_305.out _; (with_reducible repeat (first | refine blk_drewN ?_ _ | refine blk_drew ?_ | refine blk_alloc ?_ _)); refine blk_far ?_ NB292_305.out _; (with_reducible repeat (first | refine blk_drewN ?_ _ | refine blk_drew ?_ | refine blk_alloc ?_ _)); refine blk_far ?_ NB292_305.out _; (with_reducible repeat (first | refine blk_drewN ?_ _ | refine blk_drew ?_ | refine blk_alloc ?_ _)); refine blk_far ?_ NB292_305.out _; (with_reducible repeat (first | refine blk_drewN ?_ _ | refine blk_drew ?_ | refine blk_alloc ?_ _)); exact BK292.out⟩, ⟨by (try simp only [hl6_1]); (try simp only [hl6_2]); (with_reducible repeat (first | refine blk_drewN ?_ _ | refine blk_drew ?_ | refine blk_alloc ?_ _)); refine blk_put (cs := #[.int .i64 a0_0, .int .i64 0, .slice none 0 0, .slice none 0 0]) ?_ 3 _ rfl; (with_reducible repeat (first | refine blk_drewN ?_ _ | refine blk_drew ?_ | refine blk_alloc ?_ _)); refine blk_put (cs := #[.int .i64 a0_0, .int .i64 0, .slice none 0 0, .slice none 0 0]) ?_ 2 _ rfl; (with_reducible repeat (first | refine blk_drewN ?_ _ | refine blk_drew ?_ | refine blk_alloc ?_ _)); refine blk_put (cs := #[.int .i64 a0_0, .int .i64 0, .slice none 0 0, .slice none 0 0]) ?_ 1 _ rfl; (with_reducible repeat (first | refine blk_drewN ?_ _ | refine blk_drew ?_ | refine blk_alloc ?_ _)); refine blk_put (cs := #[.int .i64 0, .int .i64 0, .slice none 0 0, .slice none 0 0]) ?_ 0 _ rfl; (with_reducible repeat (first | refine blk_drewN ?_ _ | refine blk_drew ?_ | refine blk_alloc ?_ _)); exact BK305.out⟩, ⟨by repeat (first | (with_reducible first | exact HB.out | apply below_alloc | apply pw_below_drewN | apply below_drew1 | refine below_set ?_ GE291.out | refine below_set ?_ GE292.out | refine below_set ?_ GE305.out) | exact HB.out)⟩⟩
     case round =>
      clear H'
      try clear c1
      try clear p1
      try clear q1
      try clear hx1
      try clear hf1
      try clear c2
      try clear p2
      try clear q2
      try clear hx2
      try clear hf2
      try clear c3
      try clear c3b0
      try clear c3b1
      try clear p3
      try clear q3
      try clear hx3
      try clear c4
      try clear c4b0
      try clear c4b1
      try clear p6
      try clear c7
      try clear c14
      try clear c14b0
      try clear c15
      try clear c15b0
      try clear c16
      try clear c16b0
      try clear p17
      try clear q17
      try clear hx17
      try clear hf17
      try clear c21
      try clear c21b0
      try clear c22
      try clear c22b0
      try clear c23
      try clear c23b0
      try clear c24
      try clear c24b0
      try clear c25
      try clear c25b0
      try clear p26
      try clear q26
      try clear hx26
      try clear hf26
      try clear c29
      try clear p30
      try clear q30
      try clear hx30
      try clear c32
      try clear c33
      try clear hcz10_0
      try clear hcz10_1
      try clear hcz10_2
      try clear hcz10_3
      try clear hcz30_0
      try clear hcz30_1
      try clear hcz30_2
      try clear hcz30_3
      try clear hcz34_0
      try clear hcz34_1
      try clear hcz34_2
      try clear hcz34_3
      try clear hcz8_0
      try clear hcz8_1
      try clear hcz8_2
      try clear hcz8_3
      try clear hfz10_0
      try clear hfz10_1
      try clear hfz10_2
      try clear hfz10_3
      try clear hfz30_0
      try clear hfz30_1
      try clear hfz30_2
      try clear hfz30_3
      try clear hfz34_0
      try clear hfz34_1
      try clear hfz34_2
      try clear hfz34_3
      try clear hfz8_0
      try clear hfz8_1
      try clear hfz8_2
      try clear hfz8_3
      try clear hx17_0
      try clear hx26_0
      try clear hx303_0
      try clear p1
      try clear p17
      try clear p2
      try clear p26
      try clear p303
      try clear p6
      try clear q1
      try clear q17
      try clear q26
      try clear q303
      obtain ⟨x51_3, x306002_3, x306003_3, u306002, u306003, rfl, HA, HK3, HO_6, HO_49, HO_306002, HO_306003, BK291, BK292, BK305, HB⟩ := hrel
      cases gk with
      | zero => exact absurd HA.out (by simp [semigroupref07_Trim.l2])
      | succ k3 =>
       have H := HA.out
       clear HA
       simp only [semigroupref07_Trim.l2] at H
       by_cases c35 : x51_3 < (t293.length : Int)
       (focus
       rw [if_pos c35] at H
       have c35b0 : decide (x51_3 < (t293.length : Int)) = true := decide_eq_true c35
       (try (have c35b0_hl6_1 := c35b0; simp only [hl6_1] at c35b0_hl6_1))
       (try (have c35b0_hl6_2 := c35b0; simp only [hl6_2] at c35b0_hl6_2))
       clear c35
       by_cases c36 : 0 ≤ x51_3
       (focus
       rw [if_pos c36] at H
       have c36b0 : decide (0 ≤ x51_3) = true := decide_eq_true c36
       clear c36
       by_cases c37 : x51_3 < (t293.length : Int)
       (focus
       rw [if_pos c37] at H
       have c37b0 : decide (x51_3 < (t293.length : Int)) = true := decide_eq_true c37
       (try (have c37b0_hl6_1 := c37b0; simp only [hl6_1] at c37b0_hl6_1))
       (try (have c37b0_hl6_2 := c37b0; simp only [hl6_2] at c37b0_hl6_2))
       clear c37
       by_cases c38 : 0 ≤ (rd t293 x51_3)
       (focus
       rw [if_pos c38] at H
       have c38b0 : decide (0 ≤ (rd t293 x51_3)) = true := decide_eq_true c38
       clear c38
       by_cases c39 : (rd t293 x51_3) < (l0_3.length : Int)
       (focus
       rw [if_pos c39] at H
       have c39b0 : decide ((rd t293 x51_3) < (l0_3.length : Int)) = true := decide_eq_true c39
       (try (have c39b0_hl6_1 := c39b0; simp only [hl6_1] at c39b0_hl6_1))
       (try (have c39b0_hl6_2 := c39b0; simp only [hl6_2] at c39b0_hl6_2))
       clear c39
       have H' := Aside0.mk H
       clear H
       have p306 : 0 ≤ (x51_3 : Int) := of_decide_eq_true (by first | (with_reducible assumption) | assumption)
       have q306 : x51_3 < (t293.length : Int) := of_decide_eq_true (by first | (with_reducible assumption) | assumption)
       obtain ⟨ad306, e306, hx306_0⟩ := Kd.at_int (Kd.R_reads' HO_49.out).2.2 x51_3 p306 q306
       cases e306
       replace p306 := eq_true p306
       replace q306 := eq_true q306
       have hnb40 := NB291_292.out
       have hnc40 := NB292_291.out
       have hnb41 := NB291_305.out
       have hnc41 := NB305_291.out
       have hcz42_0 : wr.cell? ⟨gb291, 0, none⟩ = some (.int .i64 a0_0) := (blk_cell BK291.out 0).trans rfl
       have hcz42_1 : wr.cell? ⟨gb291, 1, none⟩ = some (.int .i64 a0_1) := (blk_cell BK291.out 1).trans rfl
       have hcz42_2 : wr.cell? ⟨gb291, 2, none⟩ = some (.slice A0_2 l0_2.length c0_2) := (blk_cell BK291.out 2).trans rfl
       have hcz42_3 : wr.cell? ⟨gb291, 3, none⟩ = some (.slice A0_3 l0_3.length c0_3) := (blk_cell BK291.out 3).trans rfl
       have hfz42_0 := blk_frozen BK291.out 0
       have hfz42_1 := blk_frozen BK291.out 1
       have hfz42_2 := blk_frozen BK291.out 2
       have hfz42_3 := blk_frozen BK291.out 3
       have p307 : 0 ≤ ((rd t293 x51_3) : Int) := of_decide_eq_true (by first | (with_reducible assumption) | assumption)
       have q307 : (rd t293 x51_3) < (l0_3.length : Int) := of_decide_eq_true (by first | (with_reducible assumption) | assumption)
       obtain ⟨ad307, A307_0, c307_0, e307, hx307_0, hl307_0, hi307_0⟩ := at_L1 HR0_3.out (rd t293 x51_3) p307 q307
       cases e307
       (try replace hx307_0 := (HB.out.cell (World.block_lt_of_cell? w _ hx307_0)).trans hx307_0)
       have HR307_0 := Aside0.mk hi307_0
       have HC307_0 := Aside0.mk hl307_0
       clear hi307_0 hl307_0
       replace p307 := eq_true p307
       replace q307 := eq_true q307
       go_wp2
       go_loopg [13, 61] k3 (fun kq v13 v61 w' => ∃ (x13_4 : List Int) (x61_4 : Int), v61 = .int .i64 x61_4 ∧ Aside0 (semigroupref07_Trim.l3 kq x6_2 (rd t293 x51_3) x13_4 t293 (t293.length : Int) x51_3 (rd_L1 l0_3 (rd t293 x51_3)) ((rd_L1 l0_3 (rd t293 x51_3)).length : Int) x61_4 a0_0 a0_1 l0_2 l0_3 a0_0 0 x306002_3 x306003_3 = some (r1, r2, r3, r4, r5)) ∧ Aside0 (kq ≤ k3) ∧ Aside0 (Kd.R (Kd.int .i64) 3 w' w.heap.size (fun k_ => (w.heap.size ≤ k_) ∧ some k_ ≠ (v13 : Value).ownBlock ∧ some k_ ≠ ((.slice (some ad306) t293.length co20) : Value).ownBlock) (.slice Ao13 x6_2.length co13) x6_2) ∧ Aside0 (Kd.R (Kd.int .i64) 3 w' w.heap.size (fun k_ => (w.heap.size ≤ k_) ∧ some k_ ≠ ((.slice Ao13 x6_2.length co13) : Value).ownBlock ∧ some k_ ≠ ((.slice (some ad306) t293.length co20) : Value).ownBlock) v13 x13_4) ∧ Aside0 (Kd.R (Kd.int .i64) 3 w' w.heap.size (fun k_ => (w.heap.size ≤ k_) ∧ some k_ ≠ ((.slice Ao13 x6_2.length co13) : Value).ownBlock ∧ some k_ ≠ (v13 : Value).ownBlock) (.slice (some ad306) t293.length co20) t293) ∧ Aside0 (Kd.R Kd.bool 4 w' w.heap.size (fun k_ => (w.heap.size ≤ k_)) u306002 x306002_3) ∧ Aside0 (Kd.N (Kd.slice 3 (Kd.int .i64)) 38 w' w.heap.size (fun k_ => (w.heap.size ≤ k_) ∧ some k_ ≠ ((.slice Ao13 x6_2.length co13) : Value).ownBlock ∧ some k_ ≠ (v13 : Value).ownBlock ∧ some k_ ≠ ((.slice (some ad306) t293.length co20) : Value).ownBlock ∧ some k_ ≠ (u306002 : Value).ownBlock ∧ k_ ≠ gb291 ∧ k_ ≠ gb292 ∧ k_ ≠ gb305) u306003 x306003_3) ∧ Aside0 (w'.heap[gb291]? = some (.cells #[.int .i64 a0_0, .int .i64 a0_1, (.slice A0_2 l0_2.length c0_2), (.slice (some ad307) l0_3.length c0_3)] 25 (0, 0))) ∧ Aside0 (w'.heap[gb292]? = some (.cells #[.int .i64 0, .int .i64 0, (.slice none 0 0), (.slice none 0 0)] 25 (0, 0))) ∧ Aside0 (w'.heap[gb305]? = some (.cells #[.int .i64 a0_0, .int .i64 0, u306002, u306003] 25 (0, 0))) ∧ Aside0 (Below w.heap.size w w'))
       case atStart => exact ⟨(([] : List Int)), (0), (by first | rfl | (simp; done) | (simp [*]; done)), H', ⟨Nat.le_refl _⟩, ⟨by (try simp only [hl6_1]); (try simp only [hl6_2]); (with_reducible repeat (first | apply Kd.R_alloc | apply Kd.R_drewN | apply Kd.R_drew)); exact Kd.R_mono HO_6.out (fun _ hk => ⟨hk.1, ⟨(by simp [Value.ownBlock]), hk.2⟩⟩)⟩, ⟨by (try simp only [hl6_1]); (try simp only [hl6_2]); first | exact Kd.R_nil _ _ _ _ _ | exact Kd.N_nil _ _ _ _ _ | exact Kd.V_nil _ _ _ _ _ | exact Kd.Q_nil _ _ _ _ _ | exact Kd.S_nil _ _ _ _ _⟩, ⟨by (try simp only [hl6_1]); (try simp only [hl6_2]); (with_reducible repeat (first | apply Kd.R_alloc | apply Kd.R_drewN | apply Kd.R_drew)); exact Kd.R_mono HO_49.out (fun _ hk => ⟨hk.1, ⟨hk.2, (by simp [Value.ownBlock])⟩⟩)⟩, ⟨by (try simp only [hl6_1]); (try simp only [hl6_2]); (with_reducible repeat (first | apply Kd.R_alloc | apply Kd.R_drewN | apply Kd.R_drew)); exact HO_306002.out⟩, ⟨by (try simp only [hl6_1]); (try simp only [hl6_2]); (with_reducible repeat (first | apply Kd.N_alloc | apply Kd.N_drewN | apply Kd.N_drew)); exact Kd.N_mono HO_306003.out (fun _ hk => ⟨hk.1, ⟨hk.2.1, ⟨(by simp [Value.ownBlock]), ⟨hk.2.2.1, ⟨hk.2.2.2.1, ⟨hk.2.2.2.2.1, ⟨hk.2.2.2.2.2.1, hk.2.2.2.2.2.2⟩⟩⟩⟩⟩⟩⟩)⟩, ⟨by (try simp only [hl6_1]); (try simp only [hl6_2]); (with_reducible repeat (first | refine blk_drewN ?_ _ | refine blk_drew ?_ | refine blk_alloc ?_ _)); exact BK291.out⟩, ⟨by (try simp only [hl6_1]); (try simp only [hl6_2]); (with_reducible repeat (first | refine blk_drewN ?_ _ | refine blk_drew ?_ | refine blk_alloc ?_ _)); exact BK292.out⟩, ⟨by (try simp only [hl6_1]); (try simp only [hl6_2]); (with_reducible repeat (first | refine blk_drewN ?_ _ | refine blk_drew ?_ | refine blk_alloc ?_ _)); exact BK305.out⟩, ⟨by repeat (first | (with_reducible first | exact HB.out | apply below_alloc | apply pw_below_drewN | apply below_drew1 | refine below_set ?_ GE291.out | refine below_set ?_ GE292.out | refine below_set ?_ GE305.out) | exact HB.out)⟩⟩
       case round =>
        clear H'
        try clear c1
        try clear p1
        try clear q1
        try clear hx1
        try clear hf1
        try clear c2
        try clear p2
        try clear q2
        try clear hx2
        try clear hf2
        try clear c3
        try clear c3b0
        try clear c3b1
        try clear p3
        try clear q3
        try clear hx3
        try clear c4
        try clear c4b0
        try clear c4b1
        try clear p6
        try clear c7
        try clear c14
        try clear c14b0
        try clear c15
        try clear c15b0
        try clear c16
        try clear c16b0
        try clear p17
        try clear q17
        try clear hx17
        try clear hf17
        try clear c21
        try clear c21b0
        try clear c22
        try clear c22b0
        try clear c23
        try clear c23b0
        try clear c24
        try clear c24b0
        try clear c25
        try clear c25b0
        try clear p26
        try clear q26
        try clear hx26
        try clear hf26
        try clear c29
        try clear c30
        try clear p30
        try clear q30
        try clear hx30
        try clear c32
        try clear c33
        try clear c35
        try clear c35b0
        try clear c36
        try clear c36b0
        try clear c37
        try clear c37b0
        try clear c38
        try clear c38b0
        try clear c39
        try clear c39b0
        try clear c40
        try clear c41
        try clear hcz10_0
        try clear hcz10_1
        try clear hcz10_2
        try clear hcz10_3
        try clear hcz30_0
        try clear hcz30_1
        try clear hcz30_2
        try clear hcz30_3
        try clear hcz34_0
        try clear hcz34_1
        try clear hcz34_2
        try clear hcz34_3
        try clear hcz42_0
        try clear hcz42_1
        try clear hcz42_2
        try clear hcz42_3
        try clear hcz8_0
        try clear hcz8_1
        try clear hcz8_2
        try clear hcz8_3
        try clear hfz10_0
        try clear hfz10_1
        try clear hfz10_2
        try clear hfz10_3
        try clear hfz30_0
        try clear hfz30_1
        try clear hfz30_2
        try clear hfz30_3
        try clear hfz34_0
        try clear hfz34_1
        try clear hfz34_2
        try clear hfz34_3
        try clear hfz42_0
        try clear hfz42_1
        try clear hfz42_2
        try clear hfz42_3
        try clear hfz8_0
        try clear hfz8_1
        try clear hfz8_2
        try clear hfz8_3
        try clear hx17_0
        try clear hx26_0
        try clear hx303_0
        try clear hx306_0
        try clear hx307_0
        try clear p1
        try clear p17
        try clear p2
        try clear p26
        try clear p3
        try clear p30
        try clear p303
        try clear p306
        try clear p307
        try clear p6
        try clear q1
        try clear q17
        try clear q2
        try clear q26
        try clear q3
        try clear q30
        try clear q303
        try clear q306
        try clear q307
        obtain ⟨x13_4, x61_4, rfl, HA, HK4, HO_6, HO_13, HO_49, HO_306002, HO_306003, BK291, BK292, BK305, HB⟩ := hrel
        cases gk with
        | zero => exact absurd HA.out (by simp [semigroupref07_Trim.l3])
        | succ k4 =>
         have H := HA.out
         clear HA
         simp only [semigroupref07_Trim.l3] at H
         by_cases c43 : x61_4 < ((rd_L1 l0_3 (rd t293 x51_3)).length : Int)
         (focus
         rw [if_pos c43] at H
         have c43b0 : decide (x61_4 < ((rd_L1 l0_3 (rd t293 x51_3)).length : Int)) = true := decide_eq_true c43
         (try (have c43b0_hl6_1 := c43b0; simp only [hl6_1] at c43b0_hl6_1))
         (try (have c43b0_hl6_2 := c43b0; simp only [hl6_2] at c43b0_hl6_2))
         clear c43
         by_cases c44 : 0 ≤ x61_4
         (focus
         rw [if_pos c44] at H
         have c44b0 : decide (0 ≤ x61_4) = true := decide_eq_true c44
         clear c44
         by_cases c45 : x61_4 < ((rd_L1 l0_3 (rd t293 x51_3)).length : Int)
         (focus
         rw [if_pos c45] at H
         have c45b0 : decide (x61_4 < ((rd_L1 l0_3 (rd t293 x51_3)).length : Int)) = true := decide_eq_true c45
         (try (have c45b0_hl6_1 := c45b0; simp only [hl6_1] at c45b0_hl6_1))
         (try (have c45b0_hl6_2 := c45b0; simp only [hl6_2] at c45b0_hl6_2))
         clear c45
         by_cases c46 : 0 ≤ (rd (rd_L1 l0_3 (rd t293 x51_3)) x61_4)
         (focus
         rw [if_pos c46] at H
         have c46b0 : decide (0 ≤ (rd (rd_L1 l0_3 (rd t293 x51_3)) x61_4)) = true := decide_eq_true c46
         clear c46
         by_cases c47 : (rd (rd_L1 l0_3 (rd t293 x51_3)) x61_4) < (x6_2.length : Int)
         (focus
         rw [if_pos c47] at H
         have c47b0 : decide ((rd (rd_L1 l0_3 (rd t293 x51_3)) x61_4) < (x6_2.length : Int)) = true := decide_eq_true c47
         (try (have c47b0_hl6_1 := c47b0; simp only [hl6_1] at c47b0_hl6_1))
         (try (have c47b0_hl6_2 := c47b0; simp only [hl6_2] at c47b0_hl6_2))
         clear c47
         obtain ⟨y310, hy310⟩ : ∃ y_ : List Int, y_ = (([rd x6_2 (rd (rd_L1 l0_3 (rd t293 x51_3)) x61_4)] : List Int)) := ⟨_, rfl⟩
         replace H : (if x13_4.length + y310.length < 17592186044416 then (semigroupref07_Trim.l3 k4 x6_2 (rd t293 x51_3) (x13_4 ++ y310) t293 (t293.length : Int) x51_3 (rd_L1 l0_3 (rd t293 x51_3)) ((rd_L1 l0_3 (rd t293 x51_3)).length : Int) (wrap64 (x61_4 + 1)) a0_0 a0_1 l0_2 l0_3 a0_0 0 x306002_3 x306003_3) else (none)) = some (r1, r2, r3, r4, r5) := by first | (rw [hy310]; with_reducible exact H) | (have H2_ := (Option.bind_some _ _).symm.trans H; rw [hy310]; with_reducible exact H2_) | (have H2_ := (Option.bind_some _ _).symm.trans H; with_reducible exact H2_) | with_reducible exact H | (rw [hy310]; exact H) | exact H
         have Ny310 := Aside0.mk hy310
         clear hy310
         by_cases c48 : x13_4.length + y310.length < 17592186044416
         (focus
         rw [if_pos c48] at H
         have LMc48 := Aside0.mk c48
         clear c48
         obtain ⟨y313, hy313⟩ : ∃ y_ : List Int, y_ = (x13_4 ++ y310) := ⟨_, rfl⟩
         replace H : (semigroupref07_Trim.l3 k4 x6_2 (rd t293 x51_3) y313 t293 (t293.length : Int) x51_3 (rd_L1 l0_3 (rd t293 x51_3)) ((rd_L1 l0_3 (rd t293 x51_3)).length : Int) (wrap64 (x61_4 + 1)) a0_0 a0_1 l0_2 l0_3 a0_0 0 x306002_3 x306003_3) = some (r1, r2, r3, r4, r5) := by first | (rw [hy313]; with_reducible exact H) | (have H2_ := (Option.bind_some _ _).symm.trans H; rw [hy313]; with_reducible exact H2_) | (have H2_ := (Option.bind_some _ _).symm.trans H; with_reducible exact H2_) | with_reducible exact H | (rw [hy313]; exact H) | exact H
         have Ny313 := Aside0.mk hy313
         clear hy313
         have H' := Aside0.mk H
         clear H
         have p308 : 0 ≤ (x61_4 : Int) := of_decide_eq_true (by first | (with_reducible assumption) | assumption)
         have q308 : x61_4 < ((rd_L1 l0_3 (rd t293 x51_3)).length : Int) := of_decide_eq_true (by first | (with_reducible assumption) | assumption)
         obtain ⟨ad308, e308, hx308_0⟩ := Kd.at_int HR307_0.out x61_4 p308 q308
         cases e308
         (try replace hx308_0 := (HB.out.cell (World.block_lt_of_cell? w _ hx308_0)).trans hx308_0)
         replace p308 := eq_true p308
         replace q308 := eq_true q308
         have p309 : 0 ≤ ((rd (rd_L1 l0_3 (rd t293 x51_3)) x61_4) : Int) := of_decide_eq_true (by first | (with_reducible assumption) | assumption)
         have q309 : (rd (rd_L1 l0_3 (rd t293 x51_3)) x61_4) < (x6_2.length : Int) := of_decide_eq_true (by first | (with_reducible assumption) | assumption)
         obtain ⟨ad309, e309, hx309_0⟩ := Kd.at_int (Kd.R_reads' HO_6.out).2.2 (rd (rd_L1 l0_3 (rd t293 x51_3)) x61_4) p309 q309
         cases e309
         replace p309 := eq_true p309
         replace q309 := eq_true q309
         go_wp2_with (first | ((with_reducible refine gate_dst (N := 70) rfl ?_); refine Kd.R_lit (Kd.int .i64) _ 3 ?hg (N := 70) ?hd (xs := ([rd x6_2 (rd (rd_L1 l0_3 (rd t293 x51_3)) x61_4)] : List Int)) (inner := [.int .i64 (rd x6_2 (rd (rd_L1 l0_3 (rd t293 x51_3)) x61_4))]) (ok := fun _ => True) (okp := fun _ => True) ?hr ?hp (fun _ hk => hk) trivial (Below.refl _ _) (Nat.le_refl _) (by simp) ?_; (case hd => rfl); (case hg => rfl); (case hr => first | (go_simp; done) | (go_simp; rfl)); (case hp => exact (Reps.one (show Kd.M (Kd.int .i64) _ _ _ (rd x6_2 (rd (rd_L1 l0_3 (rd t293 x51_3)) x61_4)) [.int .i64 (rd x6_2 (rd (rd_L1 l0_3 (rd t293 x51_3)) x61_4))] from rfl) (Reps.none _ _))); intro v311 w49 ho50 hb hg_ hnew_; clear hg_ hnew_; (first | rw [← Ny310.out] at ho50 | (simp only [Int.reduceToNat] at ho50; rw [← Ny310.out] at ho50)); have n0_ := Aside0.mk (Kd.R_elder' (uR HO_6.out) (Kd.R_base ho50) hb); have n1_ := Aside0.mk (Kd.R_elder' (uR HO_13.out) (Kd.R_base ho50) hb); have n2_ := Aside0.mk (Kd.R_elder' (uR HO_49.out) (Kd.R_base ho50) hb); have n3_ := Aside0.mk (Kd.R_below (uR HO_306002.out) hb); have n4_ := Aside0.mk (Kd.N_elder' (by (with_reducible repeat (first | apply Kd.N_alloc | apply Kd.N_drewN | apply Kd.N_drew)); exact HO_306003.out) (Kd.R_base ho50) hb); have n5_ := Aside0.mk (Kd.R_lower (Kd.R_new' (Kd.R_new' (Kd.R_new' (Kd.R_newM (M := fun k_ => (w.heap.size ≤ k_)) ho50 (below_size (by repeat (first | (with_reducible first | exact HB.out | apply below_alloc | apply pw_below_drewN | apply below_drew1 | refine below_set ?_ GE291.out | refine below_set ?_ GE292.out | refine below_set ?_ GE305.out) | exact HB.out))) (fun k_ h_ => h_)) (Kd.R_lt (uR HO_6.out))) (Kd.R_lt (uR HO_13.out))) (Kd.R_lt (uR HO_49.out))) (below_size (by repeat (first | (with_reducible first | exact HB.out | apply below_alloc | apply pw_below_drewN | apply below_drew1 | refine below_set ?_ GE291.out | refine below_set ?_ GE292.out | refine below_set ?_ GE305.out) | exact HB.out)))); have n6_ := Aside0.mk (blk_below (g := gb291) (o := .cells #[.int .i64 a0_0, .int .i64 a0_1, .slice A0_2 l0_2.length c0_2, .slice (some ad307) l0_3.length c0_3] 25 (0, 0)) (uB BK291.out) hb); have n7_ := Aside0.mk (blk_below (g := gb292) (o := .cells #[.int .i64 0, .int .i64 0, .slice none 0 0, .slice none 0 0] 25 (0, 0)) (uB BK292.out) hb); have n8_ := Aside0.mk (blk_below (g := gb305) (o := .cells #[.int .i64 a0_0, .int .i64 0, u306002, u306003] 25 (0, 0)) (uB BK305.out) hb); have n9_ := Aside0.mk (below_step (by repeat (first | (with_reducible first | exact HB.out | apply below_alloc | apply pw_below_drewN | apply below_drew1 | refine below_set ?_ GE291.out | refine below_set ?_ GE292.out | refine below_set ?_ GE305.out) | exact HB.out)) hb); clear HO_6; clear HO_13; clear HO_49; clear HO_306002; clear HO_306003; clear BK291; clear BK292; clear BK305; clear HB; have HO_6 := n0_; have HO_13 := n1_; have HO_49 := n2_; have HO_306002 := n3_; have HO_306003 := n4_; have HO312 := n5_; have BK291 := n6_; have BK292 := n7_; have BK305 := n8_; have HB := n9_; clear n0_ n1_ n2_ n3_ n4_ n5_ n6_ n7_ n8_ n9_; clear hb ho50; obtain ⟨Ao52, co52, eo52⟩ := Kd.R_slice HO312.out; subst eo52) | ((with_reducible refine gate_builtin (b := .append) (xs := #[.tmp 65, .tmp 70]) rfl ?_); at_builtin; refine Kd.R_append_rows (Kd.int .i64) (w0 := w) w.heap.size rfl (.tmp 65) (.tmp 70) 38 3 (.int .i64 0) 8 rfl Try.underlying38 info3 rfl (by decide) (by omega) u13 x13_4 y310 _ _ _ (fun k_ => (w.heap.size ≤ k_) ∧ some k_ ≠ (.slice (some ad309) x6_2.length co13 : Value).ownBlock ∧ some k_ ≠ (.slice (some ad306) t293.length co20 : Value).ownBlock ∧ some k_ ≠ (.slice Ao52 y310.length co52 : Value).ownBlock) (fun _ => False) rfl rfl ?aO ?aR (fun _ _ h => h) (fun _ h => h.elim) ?aF ?aB ?aS ?aL ?_; (case aR => repeat (first | exact (Kd.R_reads' HO312.out).2.2 | (with_reducible refine Kd.C_alloc ?_ _) | (with_reducible refine Kd.C_drewN ?_ _) | (with_reducible refine Kd.C_drew ?_))); (case aB => exact (by repeat (first | (with_reducible first | exact HB.out | apply below_alloc | apply pw_below_drewN | apply below_drew1 | refine below_set ?_ GE291.out | refine below_set ?_ GE292.out | refine below_set ?_ GE305.out) | exact HB.out))); (case aF => exact (fun k_ hk => ⟨(Nat.le_trans (below_size (by repeat (first | (with_reducible first | exact HB.out | apply below_alloc | apply pw_below_drewN | apply below_drew1 | refine below_set ?_ GE291.out | refine below_set ?_ GE292.out | refine below_set ?_ GE305.out) | exact HB.out))) hk), Kd.fresh' (Kd.R_lt (uR HO_6.out)) k_ hk, Kd.fresh' (Kd.R_lt (uR HO_49.out)) k_ hk, Kd.fresh' (Kd.R_lt (uR HO312.out)) k_ hk⟩)); (case aO => exact (uR (Kd.R_mono HO_13.out (fun _ hk => ⟨hk.1.1, ⟨hk.1.2.1, ⟨hk.1.2.2, hk.2⟩⟩⟩)))); (case aS => exact (below_size (by repeat (first | (with_reducible first | exact HB.out | apply below_alloc | apply pw_below_drewN | apply below_drew1 | refine below_set ?_ GE291.out | refine below_set ?_ GE292.out | refine below_set ?_ GE305.out) | exact HB.out)))); (case aL => have := LMc48.out; omega); intro v314 w51 ho hb hg hat; rw [← Ny313.out] at ho; have n0_ := Aside0.mk (Kd.R_after (ok := (fun k_ => (w.heap.size ≤ k_) ∧ some k_ ≠ (.slice (some ad306) t293.length co20 : Value).ownBlock ∧ some k_ ≠ (.slice Ao52 y310.length co52 : Value).ownBlock)) (uR (Kd.R_mono HO_6.out (fun _ hk => ⟨⟨hk.1.1, ⟨hk.1.2.2, hk.2⟩⟩, hk.1.2.1⟩))) hg hat); have n1_ := Aside0.mk (Kd.R_after (ok := (fun k_ => (w.heap.size ≤ k_) ∧ some k_ ≠ (.slice (some ad309) x6_2.length co13 : Value).ownBlock ∧ some k_ ≠ (.slice Ao52 y310.length co52 : Value).ownBlock)) (uR (Kd.R_mono HO_49.out (fun _ hk => ⟨⟨hk.1.1, ⟨hk.1.2.1, hk.2⟩⟩, hk.1.2.2⟩))) hg hat); have n2_ := Aside0.mk (Kd.R_over' (uR HO_306002.out) (Kd.R_typed (uR HO_13.out)) (by decide) hg); have n3_ := Aside0.mk (Kd.N_afterv (ok := (fun k_ => (w.heap.size ≤ k_) ∧ some k_ ≠ (.slice (some ad309) x6_2.length co13 : Value).ownBlock ∧ some k_ ≠ (.slice (some ad306) t293.length co20 : Value).ownBlock ∧ some k_ ≠ (u306002 : Value).ownBlock ∧ some k_ ≠ (.slice Ao52 y310.length co52 : Value).ownBlock ∧ k_ ≠ gb291 ∧ k_ ≠ gb292 ∧ k_ ≠ gb305)) (by (with_reducible repeat (first | apply Kd.N_alloc | apply Kd.N_drewN | apply Kd.N_drew)); exact Kd.N_mono HO_306003.out (fun _ hk => ⟨⟨hk.1.1, ⟨hk.1.2.1, ⟨hk.1.2.2.2.1, ⟨hk.1.2.2.2.2.1, ⟨hk.2, ⟨hk.1.2.2.2.2.2.1, ⟨hk.1.2.2.2.2.2.2.1, hk.1.2.2.2.2.2.2.2⟩⟩⟩⟩⟩⟩⟩, hk.1.2.2.1⟩)) hg hat); have n4_ := Aside0.mk (blk_grown (g := gb291) (o := .cells #[.int .i64 a0_0, .int .i64 a0_1, .slice A0_2 l0_2.length c0_2, .slice (some ad307) l0_3.length c0_3] 25 (0, 0)) (uB BK291.out) hg (Kd.R_ne HO_13.out BK291.out (by decide))); have n5_ := Aside0.mk (blk_grown (g := gb292) (o := .cells #[.int .i64 0, .int .i64 0, .slice none 0 0, .slice none 0 0] 25 (0, 0)) (uB BK292.out) hg (Kd.R_ne HO_13.out BK292.out (by decide))); have n6_ := Aside0.mk (blk_grown (g := gb305) (o := .cells #[.int .i64 a0_0, .int .i64 0, u306002, u306003] 25 (0, 0)) (uB BK305.out) hg (Kd.R_ne HO_13.out BK305.out (by decide))); have n7_ := Aside0.mk (Kd.R_after (ok := (fun k_ => (w.heap.size ≤ k_) ∧ some k_ ≠ (.slice (some ad309) x6_2.length co13 : Value).ownBlock ∧ some k_ ≠ (.slice (some ad306) t293.length co20 : Value).ownBlock)) (uR (Kd.R_mono HO312.out (fun _ hk => ⟨⟨hk.1.1.1.1, ⟨hk.1.1.2, hk.2⟩⟩, hk.1.2⟩))) hg hat); have n8_ := Aside0.mk (hb); have n9_ := Aside0.mk (ho); clear HO_6; clear HO_49; clear HO_306002; clear HO_306003; clear BK291; clear BK292; clear BK305; clear HO312; clear HB; clear HO_13; have HO_6 := n0_; have HO_49 := n1_; have HO_306002 := n2_; have HO_306003 := n3_; have BK291 := n4_; have BK292 := n5_; have BK305 := n6_; have HO312 := n7_; have HB := n8_; have HO315 := n9_; clear n0_ n1_ n2_ n3_ n4_ n5_ n6_ n7_ n8_ n9_; clear ho hb hg hat))
         go_roundg k4
         case measure => have := HK1.out; have := HK2.out; have := HK3.out; have := HK4.out; omega
         case rel => exact ⟨(y313), (wrap64 (x61_4 + 1)), (by first | rfl | (simp; done) | (simp [*]; done)), H', ⟨by have := HK1.out; have := HK2.out; have := HK3.out; have := HK4.out; omega⟩, ⟨by (try simp only [hl6_1]); (try simp only [hl6_2]); (with_reducible repeat (first | apply Kd.R_alloc | apply Kd.R_drewN | apply Kd.R_drew)); exact Kd.R_mono HO_6.out (fun _ hk => ⟨hk.1.1, ⟨hk.2, hk.1.2.1⟩⟩)⟩, ⟨by (try simp only [hl6_1]); (try simp only [hl6_2]); (with_reducible repeat (first | apply Kd.R_alloc | apply Kd.R_drewN | apply Kd.R_drew)); exact Kd.R_mono HO315.out (fun _ hk => ⟨hk.1, ⟨hk.2.1, hk.2.2.1⟩⟩)⟩, ⟨by (try simp only [hl6_1]); (try simp only [hl6_2]); (with_reducible repeat (first | apply Kd.R_alloc | apply Kd.R_drewN | apply Kd.R_drew)); exact Kd.R_mono HO_49.out (fun _ hk => ⟨hk.1.1, ⟨hk.1.2.1, hk.2⟩⟩)⟩, ⟨by (try simp only [hl6_1]); (try simp only [hl6_2]); (with_reducible repeat (first | apply Kd.R_alloc | apply Kd.R_drewN | apply Kd.R_drew)); exact HO_306002.out⟩, ⟨by (try simp only [hl6_1]); (try simp only [hl6_2]); (with_reducible repeat (first | apply Kd.N_alloc | apply Kd.N_drewN | apply Kd.N_drew)); exact Kd.N_mono HO_306003.out (fun _ hk => ⟨hk.1.1, ⟨hk.1.2.1, ⟨hk.2, ⟨hk.1.2.2.1, ⟨hk.1.2.2.2.1, ⟨hk.1.2.2.2.2.2.1, ⟨hk.1.2.2.2.2.2.2.1, hk.1.2.2.2.2.2.2.2⟩⟩⟩⟩⟩⟩⟩)⟩, ⟨by (try simp only [hl6_1]); (try simp only [hl6_2]); (with_reducible repeat (first | refine blk_drewN ?_ _ | refine blk_drew ?_ | refine blk_alloc ?_ _)); exact BK291.out⟩, ⟨by (try simp only [hl6_1]); (try simp only [hl6_2]); (with_reducible repeat (first | refine blk_drewN ?_ _ | refine blk_drew ?_ | refine blk_alloc ?_ _)); exact BK292.out⟩, ⟨by (try simp only [hl6_1]); (try simp only [hl6_2]); (with_reducible repeat (first | refine blk_drewN ?_ _ | refine blk_drew ?_ | refine blk_alloc ?_ _)); exact BK305.out⟩, ⟨by repeat (first | (with_reducible first | exact HB.out | apply below_alloc | apply pw_below_drewN | apply below_drew1 | refine below_set ?_ GE291.out | refine below_set ?_ GE292.out | refine below_set ?_ GE305.out) | exact HB.out)⟩⟩
         )
         (focus
         rw [if_neg c48] at H
         exact absurd H (by simp)
         )
         )
         (focus
         rw [if_neg c47] at H
         exact absurd H (by simp)
         )
         )
         (focus
         rw [if_neg c46] at H
         exact absurd H (by simp)
         )
         )
         (focus
         rw [if_neg c45] at H
         exact absurd H (by simp)
         )
         )
         (focus
         rw [if_neg c44] at H
         exact absurd H (by simp)
         )
         )
         (focus
         rw [if_neg c43] at H
         have c43b0 : decide (x61_4 < ((rd_L1 l0_3 (rd t293 x51_3)).length : Int)) = false := decide_eq_false c43
         (try (have c43b0_hl6_1 := c43b0; simp only [hl6_1] at c43b0_hl6_1))
         (try (have c43b0_hl6_2 := c43b0; simp only [hl6_2] at c43b0_hl6_2))
         clear c43
         obtain ⟨y316, hy316⟩ : ∃ y_ : List (List Int), y_ = (([x13_4] : List (List Int))) := ⟨_, rfl⟩
         replace H : (if x306003_3.length + y316.length < 5864062014805 then (if 0 ≤ (rd t293 x51_3) then (if (rd t293 x51_3) < (l0_2.length : Int) then ((some (([rdOf false l0_2 (rd t293 x51_3)] : List Bool) : List Bool)).bind fun y323 => (if x306002_3.length + y323.length < 140737488355328 then (semigroupref07_Trim.l2 k4 x6_2 t293 (t293.length : Int) (wrap64 (x51_3 + 1)) a0_0 a0_1 l0_2 l0_3 a0_0 0 (x306002_3 ++ y323) (x306003_3 ++ y316)) else (none))) else (none)) else (none)) else (none)) = some (r1, r2, r3, r4, r5) := by first | (rw [hy316]; with_reducible exact H) | (have H2_ := (Option.bind_some _ _).symm.trans H; rw [hy316]; with_reducible exact H2_) | (have H2_ := (Option.bind_some _ _).symm.trans H; with_reducible exact H2_) | with_reducible exact H | (rw [hy316]; exact H) | exact H
         have Ny316 := Aside0.mk hy316
         clear hy316
         by_cases c53 : x306003_3.length + y316.length < 5864062014805
         (focus
         rw [if_pos c53] at H
         have LMc53 := Aside0.mk c53
         clear c53
         obtain ⟨y319, hy319⟩ : ∃ y_ : List (List Int), y_ = (x306003_3 ++ y316) := ⟨_, rfl⟩
         replace H : (if 0 ≤ (rd t293 x51_3) then (if (rd t293 x51_3) < (l0_2.length : Int) then ((some (([rdOf false l0_2 (rd t293 x51_3)] : List Bool) : List Bool)).bind fun y323 => (if x306002_3.length + y323.length < 140737488355328 then (semigroupref07_Trim.l2 k4 x6_2 t293 (t293.length : Int) (wrap64 (x51_3 + 1)) a0_0 a0_1 l0_2 l0_3 a0_0 0 (x306002_3 ++ y323) y319) else (none))) else (none)) else (none)) = some (r1, r2, r3, r4, r5) := by first | (rw [hy319]; with_reducible exact H) | (have H2_ := (Option.bind_some _ _).symm.trans H; rw [hy319]; with_reducible exact H2_) | (have H2_ := (Option.bind_some _ _).symm.trans H; with_reducible exact H2_) | with_reducible exact H | (rw [hy319]; exact H) | exact H
         have Ny319 := Aside0.mk hy319
         clear hy319
         by_cases c54 : 0 ≤ (rd t293 x51_3)
         (focus
         rw [if_pos c54] at H
         have c54b0 : decide (0 ≤ (rd t293 x51_3)) = true := decide_eq_true c54
         clear c54
         by_cases c55 : (rd t293 x51_3) < (l0_2.length : Int)
         (focus
         rw [if_pos c55] at H
         have c55b0 : decide ((rd t293 x51_3) < (l0_2.length : Int)) = true := decide_eq_true c55
         (try (have c55b0_hl6_1 := c55b0; simp only [hl6_1] at c55b0_hl6_1))
         (try (have c55b0_hl6_2 := c55b0; simp only [hl6_2] at c55b0_hl6_2))
         clear c55
         obtain ⟨y323, hy323⟩ : ∃ y_ : List Bool, y_ = (([rdOf false l0_2 (rd t293 x51_3)] : List Bool)) := ⟨_, rfl⟩
         replace H : (if x306002_3.length + y323.length < 140737488355328 then (semigroupref07_Trim.l2 k4 x6_2 t293 (t293.length : Int) (wrap64 (x51_3 + 1)) a0_0 a0_1 l0_2 l0_3 a0_0 0 (x306002_3 ++ y323) y319) else (none)) = some (r1, r2, r3, r4, r5) := by first | (rw [hy323]; with_reducible exact H) | (have H2_ := (Option.bind_some _ _).symm.trans H; rw [hy323]; with_reducible exact H2_) | (have H2_ := (Option.bind_some _ _).symm.trans H; with_reducible exact H2_) | with_reducible exact H | (rw [hy323]; exact H) | exact H
         have Ny323 := Aside0.mk hy323
         clear hy323
         by_cases c56 : x306002_3.length + y323.length < 140737488355328
         (focus
         rw [if_pos c56] at H
         have LMc56 := Aside0.mk c56
         clear c56
         obtain ⟨y326, hy326⟩ : ∃ y_ : List Bool, y_ = (x306002_3 ++ y323) := ⟨_, rfl⟩
         replace H : (semigroupref07_Trim.l2 k4 x6_2 t293 (t293.length : Int) (wrap64 (x51_3 + 1)) a0_0 a0_1 l0_2 l0_3 a0_0 0 y326 y319) = some (r1, r2, r3, r4, r5) := by first | (rw [hy326]; with_reducible exact H) | (have H2_ := (Option.bind_some _ _).symm.trans H; rw [hy326]; with_reducible exact H2_) | (have H2_ := (Option.bind_some _ _).symm.trans H; with_reducible exact H2_) | with_reducible exact H | (rw [hy326]; exact H) | exact H
         have Ny326 := Aside0.mk hy326
         clear hy326
         have H' := Aside0.mk H
         clear H
         obtain ⟨Ao57, co57, eo57⟩ := Kd.N_slice HO_306003.out
         subst eo57
         obtain ⟨Ao58, co58, eo58⟩ := Kd.R_slice HO_306002.out
         subst eo58
         try go_wp2
         have n0_ := Aside0.mk (Kd.R_drew HO_6.out)
         have n1_ := Aside0.mk (Kd.R_drew HO_13.out)
         have n2_ := Aside0.mk (Kd.R_drew HO_49.out)
         have n3_ := Aside0.mk (Kd.R_drew HO_306002.out)
         have n4_ := Aside0.mk (Kd.N_drew HO_306003.out)
         have n5_ := Aside0.mk (blk_drew BK291.out)
         have n6_ := Aside0.mk (blk_drew BK292.out)
         have n7_ := Aside0.mk (blk_drew BK305.out)
         have n8_ := Aside0.mk (below_drew1 HB.out)
         clear HO_6
         clear HO_13
         clear HO_49
         clear HO_306002
         clear HO_306003
         clear BK291
         clear BK292
         clear BK305
         clear HB
         have HO_6 := n0_
         have HO_13 := n1_
         have HO_49 := n2_
         have HO_306002 := n3_
         have HO_306003 := n4_
         have BK291 := n5_
         have BK292 := n6_
         have BK305 := n7_
         have HB := n8_
         clear n0_ n1_ n2_ n3_ n4_ n5_ n6_ n7_ n8_
         have p322 : 0 ≤ ((rd t293 x51_3) : Int) := of_decide_eq_true (by first | (with_reducible assumption) | assumption)
         have q322 : (rd t293 x51_3) < (l0_2.length : Int) := of_decide_eq_true (by first | (with_reducible assumption) | assumption)
         obtain ⟨ad322, e322, hx322_0⟩ := Kd.at_bool HR0_2.out (rd t293 x51_3) p322 q322
         have hw322_0 := hx322_0
         cases e322
         (try replace hx322_0 := (HB.out.cell (World.block_lt_of_cell? w _ hx322_0)).trans hx322_0)
         replace p322 := eq_true p322
         replace q322 := eq_true q322
         obtain ⟨Ao60, co60, eo60⟩ := Kd.R_slice HO_13.out
         (first | subst eo60 | (injection eo60 with f1_ f2_ f3_; have f4_ := f1_.symm; have f5_ := f3_.symm; clear f1_ f2_ f3_; subst f4_; subst f5_))
         refine start_ (n := 18) (S := fun w' => w'.cell? ⟨gb305, 0, none⟩ = some (.int .i64 a0_0) ∧ w'.cell? ⟨gb305, 1, none⟩ = some (.int .i64 0) ∧ w'.cell? ⟨gb305, 2, none⟩ = some (.slice Ao58 x306002_3.length co58) ∧ w'.cell? ⟨gb305, 3, none⟩ = some (.slice Ao57 x306003_3.length co57) ∧ w'.cell? ⟨gb291, 0, none⟩ = some (.int .i64 a0_0) ∧ w'.cell? ⟨gb291, 1, none⟩ = some (.int .i64 a0_1) ∧ w'.cell? ⟨gb291, 2, none⟩ = some (.slice (some ad322) l0_2.length c0_2) ∧ w'.cell? ⟨gb291, 3, none⟩ = some (.slice (some ad307) l0_3.length c0_3) ∧ w'.cell? (ad322.add ((rd t293 x51_3)).toNat) = some (.bool (rdOf false l0_2 (rd t293 x51_3)))) (ds := [15, 17]) #[false, false, false, false, false, false, false, false, false, false, false, false, false, false, false, false, false, false] (by kernel_rfl) rfl rfl ⟨(blk_cell BK305.out 0).trans rfl, (blk_cell BK305.out 1).trans rfl, (blk_cell BK305.out 2).trans rfl, (blk_cell BK305.out 3).trans rfl, (blk_cell BK291.out 0).trans rfl, (blk_cell BK291.out 1).trans rfl, (blk_cell BK291.out 2).trans rfl, (blk_cell BK291.out 3).trans rfl, ((HB.out.cell (World.block_lt_of_cell? w _ hw322_0)).trans hw322_0)⟩ (fun hHeld => ?_); refine with_tabW semigroupref07_Trim.tab23 semigroupref07_Trim.bits23 (fun HT_ HW_ => ?_)
         generalize wr.drew = w59 at HO_6 HO_13 HO_49 HO_306002 HO_306003 BK291 BK292 BK305 HB hx322_0 hHeld ⊢
         refine pure_ (i := 0) (N := some 73) (v := ?_) (a' := ?_) #[true, false, false, false, false, false, false, false, false, false, false, false, false, false, false, false, false, false] rfl rfl (any_of HT_.out (by kernel_rfl)) (fun _ _ _ h => h) (Or.inl ⟨by rfl, ?_⟩) ?_ ?_
         rotate_left
         (focus
         intro w'
         go_simp
         with_reducible rfl
         )
         rotate_left
         (focus
         simp only [Act.put, List.setIfInBounds_toArray, List.set_cons_zero, List.set_cons_succ, i64_w, i32_w]
         rfl
         )
         refine pure_ (i := 2) (N := some 75) (v := ?_) (a' := ?_) #[true, false, true, false, false, false, false, false, false, false, false, false, false, false, false, false, false, false] rfl rfl (any_of HT_.out (by kernel_rfl)) (fun _ _ _ h => h) (Or.inl ⟨by rfl, ?_⟩) ?_ ?_
         rotate_left
         (focus
         intro w'
         go_simp
         with_reducible rfl
         )
         rotate_left
         (focus
         simp only [Act.put, List.setIfInBounds_toArray, List.set_cons_zero, List.set_cons_succ, i64_w, i32_w]
         rfl
         )
         refine pure_ (i := 5) (N := some 78) (v := ?_) (a' := ?_) #[true, false, true, false, false, true, false, false, false, false, false, false, false, false, false, false, false, false] rfl rfl (any_of HT_.out (by kernel_rfl)) (fun _ _ _ h => h) (Or.inl ⟨by rfl, ?_⟩) ?_ ?_
         rotate_left
         (focus
         intro w'
         go_simp
         with_reducible rfl
         )
         rotate_left
         (focus
         simp only [Act.put, List.setIfInBounds_toArray, List.set_cons_zero, List.set_cons_succ, i64_w, i32_w]
         rfl
         )
         refine pure_ (i := 7) (N := some 80) (v := ?_) (a' := ?_) #[true, false, true, false, false, true, false, true, false, false, false, false, false, false, false, false, false, false] rfl rfl (any_of HT_.out (by kernel_rfl)) (fun _ _ _ h => h) (Or.inl ⟨by rfl, ?_⟩) ?_ ?_
         rotate_left
         (focus
         intro w'
         go_simp
         with_reducible rfl
         )
         rotate_left
         (focus
         simp only [Act.put, List.setIfInBounds_toArray, List.set_cons_zero, List.set_cons_succ, i64_w, i32_w]
         rfl
         )
         refine pure_ (i := 9) (N := some 82) (v := ?_) (a' := ?_) #[true, false, true, false, false, true, false, true, false, true, false, false, false, false, false, false, false, false] rfl rfl (any_of HT_.out (by kernel_rfl)) (fun _ _ _ h => h) (Or.inl ⟨by rfl, ?_⟩) ?_ ?_
         rotate_left
         (focus
         intro w'
         go_simp
         with_reducible rfl
         )
         rotate_left
         (focus
         simp only [Act.put, List.setIfInBounds_toArray, List.set_cons_zero, List.set_cons_succ, i64_w, i32_w]
         rfl
         )
         refine take_ (i := 1) (N := some 74) (v := ?_) (a' := ?_) #[true, true, true, false, false, true, false, true, false, true, false, false, false, false, false, false, false, false] rfl rfl (take_ofW HT_.out HW_.out (by kernel_rfl)) (fun _ _ _ h => h) (Or.inl ⟨by rfl, ?_⟩) hHeld ?_ ?_
         rotate_left
         (focus
         rintro w' ⟨s0, s1, s2, s3, s4, s5, s6, s7, s8⟩
         go_simp
         with_reducible rfl
         )
         rotate_left
         (focus
         simp only [Act.put, List.setIfInBounds_toArray, List.set_cons_zero, List.set_cons_succ, i64_w, i32_w]
         rfl
         )
         refine take_ (i := 6) (N := some 79) (v := ?_) (a' := ?_) #[true, true, true, false, false, true, true, true, false, true, false, false, false, false, false, false, false, false] rfl rfl (take_ofW HT_.out HW_.out (by kernel_rfl)) (fun _ _ _ h => h) (Or.inl ⟨by rfl, ?_⟩) hHeld ?_ ?_
         rotate_left
         (focus
         rintro w' ⟨s0, s1, s2, s3, s4, s5, s6, s7, s8⟩
         go_simp
         with_reducible rfl
         )
         rotate_left
         (focus
         simp only [Act.put, List.setIfInBounds_toArray, List.set_cons_zero, List.set_cons_succ, i64_w, i32_w]
         rfl
         )
         refine take_ (i := 8) (N := some 81) (v := ?_) (a' := ?_) #[true, true, true, false, false, true, true, true, true, true, false, false, false, false, false, false, false, false] rfl rfl (take_ofW HT_.out HW_.out (by kernel_rfl)) (fun _ _ _ h => h) (Or.inl ⟨by rfl, ?_⟩) hHeld ?_ ?_
         rotate_left
         (focus
         rintro w' ⟨s0, s1, s2, s3, s4, s5, s6, s7, s8⟩
         go_simp
         with_reducible rfl
         )
         rotate_left
         (focus
         simp only [Act.put, List.setIfInBounds_toArray, List.set_cons_zero, List.set_cons_succ, i64_w, i32_w]
         rfl
         )
         refine pure_ (i := 10) (N := some 83) (v := ?_) (a' := ?_) #[true, true, true, false, false, true, true, true, true, true, true, false, false, false, false, false, false, false] rfl rfl (any_of HT_.out (by kernel_rfl)) (fun _ _ _ h => h) (Or.inl ⟨by rfl, ?_⟩) ?_ ?_
         rotate_left
         (focus
         intro w'
         go_simp
         with_reducible rfl
         )
         rotate_left
         (focus
         simp only [Act.put, List.setIfInBounds_toArray, List.set_cons_zero, List.set_cons_succ, i64_w, i32_w]
         rfl
         )
         refine take_ (i := 11) (N := some 84) (v := ?_) (a' := ?_) #[true, true, true, false, false, true, true, true, true, true, true, true, false, false, false, false, false, false] rfl rfl (take_ofW HT_.out HW_.out (by kernel_rfl)) (fun _ _ _ h => h) (Or.inl ⟨by rfl, ?_⟩) hHeld ?_ ?_
         rotate_left
         (focus
         rintro w' ⟨s0, s1, s2, s3, s4, s5, s6, s7, s8⟩
         go_simp
         with_reducible rfl
         )
         rotate_left
         (focus
         simp only [Act.put, List.setIfInBounds_toArray, List.set_cons_zero, List.set_cons_succ, i64_w, i32_w]
         rfl
         )
         refine join_ (σ := Value × Value × Value) 4 #[true, true, true, true, true, true, true, true, true, true, true, true, true, false, true, false, false, false] (fun s_ => [(76, s_.1), (77, s_.2.1), (85, s_.2.2), (87, .pointer (some ⟨gb305, 3, none⟩))]) (fun s_ w' => (w'.cell? ⟨gb305, 0, none⟩ = some (.int .i64 a0_0) ∧ w'.cell? ⟨gb305, 1, none⟩ = some (.int .i64 0) ∧ w'.cell? ⟨gb305, 2, none⟩ = some (.slice Ao58 x306002_3.length co58) ∧ w'.cell? ⟨gb305, 3, none⟩ = some (.slice Ao57 x306003_3.length co57) ∧ w'.cell? ⟨gb291, 0, none⟩ = some (.int .i64 a0_0) ∧ w'.cell? ⟨gb291, 1, none⟩ = some (.int .i64 a0_1) ∧ w'.cell? ⟨gb291, 2, none⟩ = some (.slice (some ad322) l0_2.length c0_2) ∧ w'.cell? ⟨gb291, 3, none⟩ = some (.slice (some ad307) l0_3.length c0_3) ∧ w'.cell? (ad322.add ((rd t293 x51_3)).toNat) = some (.bool (rdOf false l0_2 (rd t293 x51_3)))) ∧ (Kd.N (Kd.slice 3 (Kd.int .i64)) 38 w' w.heap.size (fun k_ => (w.heap.size ≤ k_) ∧ some k_ ≠ (s_.2.1 : Value).ownBlock ∧ some k_ ≠ (s_.2.2 : Value).ownBlock ∧ some k_ ≠ (.slice Ao58 x306002_3.length co58 : Value).ownBlock ∧ some k_ ≠ (.slice (some ad306) t293.length co20 : Value).ownBlock ∧ some k_ ≠ (.slice Ao13 x6_2.length co13 : Value).ownBlock ∧ k_ ≠ gb291 ∧ k_ ≠ gb292 ∧ k_ ≠ gb305) s_.1 y316) ∧ (Kd.N (Kd.slice 3 (Kd.int .i64)) 38 w' w.heap.size (fun k_ => (w.heap.size ≤ k_) ∧ some k_ ≠ (s_.2.2 : Value).ownBlock ∧ some k_ ≠ (.slice Ao58 x306002_3.length co58 : Value).ownBlock ∧ some k_ ≠ (.slice (some ad306) t293.length co20 : Value).ownBlock ∧ some k_ ≠ (.slice Ao13 x6_2.length co13 : Value).ownBlock ∧ k_ ≠ gb291 ∧ k_ ≠ gb292 ∧ k_ ≠ gb305) s_.2.1 y319) ∧ (Kd.R Kd.bool 4 w' w.heap.size (fun k_ => (w.heap.size ≤ k_) ∧ some k_ ≠ (.slice Ao58 x306002_3.length co58 : Value).ownBlock) s_.2.2 y323) ∧ (Kd.R Kd.bool 4 w' w.heap.size (fun k_ => (w.heap.size ≤ k_) ∧ some k_ ≠ (s_.2.2 : Value).ownBlock) (.slice Ao58 x306002_3.length co58) x306002_3) ∧ (Kd.R (Kd.int .i64) 3 w' w.heap.size (fun k_ => (w.heap.size ≤ k_) ∧ some k_ ≠ (.slice Ao13 x6_2.length co13 : Value).ownBlock) (.slice (some ad306) t293.length co20) t293) ∧ (Kd.R (Kd.int .i64) 3 w' w.heap.size (fun k_ => (w.heap.size ≤ k_) ∧ some k_ ≠ (.slice (some ad306) t293.length co20 : Value).ownBlock) (.slice Ao13 x6_2.length co13) x6_2) ∧ (w'.heap[gb291]? = some (.cells #[.int .i64 a0_0, .int .i64 a0_1, .slice (some ad322) l0_2.length c0_2, .slice (some ad307) l0_3.length c0_3] 25 (0, 0))) ∧ (w'.heap[gb292]? = some (.cells #[.int .i64 0, .int .i64 0, .slice none 0 0, .slice none 0 0] 25 (0, 0))) ∧ (w'.heap[gb305]? = some (.cells #[.int .i64 a0_0, .int .i64 0, .slice Ao58 x306002_3.length co58, .slice Ao57 x306003_3.length co57] 25 (0, 0))) ∧ (Below w.heap.size w w')) ?_ ?_
         rotate_left
         (focus
         intro hCont
         refine two_ (i := 3) (j := 12) (Ni := some 76) (Nj := some 85) #[true, true, true, true, false, true, true, true, true, true, true, true, false, false, false, false, false, false] #[true, true, true, false, false, true, true, true, true, true, true, true, true, false, false, false, false, false] rfl rfl rfl rfl (two_of HT_.out (by kernel_rfl)) (by decide) (by decide) (fun K hK => ?_) (fun K hK => ?_)
         (focus
         skip
         refine Kd.N_lit_step (Kd.slice 3 (Kd.int .i64)) _ 38 ?hg (N' := 76) ?hd (xs := ([x13_4] : List (List Int))) (inner := [.slice Ao60 x13_4.length co60]) (ok := (fun k_ => (w.heap.size ≤ k_) ∧ some k_ ≠ (.slice Ao13 x6_2.length co13 : Value).ownBlock ∧ some k_ ≠ (.slice (some ad306) t293.length co20 : Value).ownBlock ∧ some k_ ≠ (.slice Ao58 x306002_3.length co58 : Value).ownBlock ∧ some k_ ≠ (.slice Ao57 x306003_3.length co57 : Value).ownBlock ∧ k_ ≠ gb291 ∧ k_ ≠ gb292 ∧ k_ ≠ gb305)) (okp := (fun k_ => (w.heap.size ≤ k_) ∧ some k_ ≠ (.slice Ao13 x6_2.length co13 : Value).ownBlock ∧ some k_ ≠ (.slice (some ad306) t293.length co20 : Value).ownBlock ∧ some k_ ≠ (.slice Ao58 x306002_3.length co58 : Value).ownBlock ∧ some k_ ≠ (.slice Ao57 x306003_3.length co57 : Value).ownBlock ∧ k_ ≠ gb291 ∧ k_ ≠ gb292 ∧ k_ ≠ gb305)) ?hr ?hp (fun _ hk => hk) ((show ∀ k_, w59.heap.size ≤ k_ → (fun k_ => (w.heap.size ≤ k_) ∧ some k_ ≠ (.slice Ao13 x6_2.length co13 : Value).ownBlock ∧ some k_ ≠ (.slice (some ad306) t293.length co20 : Value).ownBlock ∧ some k_ ≠ (.slice Ao58 x306002_3.length co58 : Value).ownBlock ∧ some k_ ≠ (.slice Ao57 x306003_3.length co57 : Value).ownBlock ∧ k_ ≠ gb291 ∧ k_ ≠ gb292 ∧ k_ ≠ gb305) k_ from fun k_ hk => ⟨(Nat.le_trans (below_size (by repeat (first | (with_reducible first | exact HB.out | apply below_alloc | apply pw_below_drewN | apply below_drew1 | refine below_set ?_ GE291.out | refine below_set ?_ GE292.out | refine below_set ?_ GE305.out) | exact HB.out))) hk), Kd.fresh' (Kd.R_lt (uR HO_6.out)) k_ hk, Kd.fresh' (Kd.R_lt (uR HO_49.out)) k_ hk, Kd.fresh' (Kd.R_lt (uR HO_306002.out)) k_ hk, Kd.fresh' (Kd.N_lt (by (with_reducible repeat (first | apply Kd.N_alloc | apply Kd.N_drewN | apply Kd.N_drew)); exact HO_306003.out)) k_ hk, Kd.freshB (g := gb291) (o := .cells #[.int .i64 a0_0, .int .i64 a0_1, .slice (some ad322) l0_2.length c0_2, .slice (some ad307) l0_3.length c0_3] 25 (0, 0)) (uB BK291.out) k_ hk, Kd.freshB (g := gb292) (o := .cells #[.int .i64 0, .int .i64 0, .slice none 0 0, .slice none 0 0] 25 (0, 0)) (uB BK292.out) k_ hk, Kd.freshB (g := gb305) (o := .cells #[.int .i64 a0_0, .int .i64 0, .slice Ao58 x306002_3.length co58, .slice Ao57 x306003_3.length co57] 25 (0, 0)) (uB BK305.out) k_ hk⟩) _ (Nat.le_refl _)) (Below.refl _ _) (Nat.le_refl _) (by simp) ?_; (case hd => rfl); (case hg => rfl); (case hr => first | (go_simp; done) | (go_simp; rfl)); (case hp => exact (Reps.one (show Kd.FK (Kd.slice 3 (Kd.int .i64)) _ _ x13_4 [.slice Ao60 x13_4.length co60] from (FK_of_R (Kd.R_mono (ok' := (fun k_ => (w.heap.size ≤ k_) ∧ some k_ ≠ (.slice Ao13 x6_2.length co13 : Value).ownBlock ∧ some k_ ≠ (.slice (some ad306) t293.length co20 : Value).ownBlock ∧ some k_ ≠ (.slice Ao58 x306002_3.length co58 : Value).ownBlock ∧ some k_ ≠ (.slice Ao57 x306003_3.length co57 : Value).ownBlock ∧ k_ ≠ gb291 ∧ k_ ≠ gb292 ∧ k_ ≠ gb305)) (Kd.R_types (Kd.R_types (Kd.R_types (Kd.R_apart' (Kd.R_apart' (HO_13.out) (Kd.R_typed HO_306002.out) (by decide)) (Kd.N_typed HO_306003.out) (by decide)) BK291.out (by decide)) BK292.out (by decide)) BK305.out (by decide)) (fun k_ hk => ⟨hk.1.1.1.1.1.1, ⟨hk.1.1.1.1.1.2.1, ⟨hk.1.1.1.1.1.2.2, ⟨hk.1.1.1.1.2, ⟨hk.1.1.1.2, ⟨hk.1.1.2, ⟨hk.1.2, hk.2⟩⟩⟩⟩⟩⟩⟩)))) (Reps.none _ _)))
         intro v317 w61 ho62 hb hg_ hnew_
         clear hg_ hnew_
         (first | rw [← Ny316.out] at ho62 | (simp only [Int.reduceToNat] at ho62; rw [← Ny316.out] at ho62))
         have n0_ := Aside0.mk (Kd.R_below (uR HO_6.out) hb)
         have n1_ := Aside0.mk (Kd.R_below (uR HO_49.out) hb)
         have n2_ := Aside0.mk (Kd.R_below (uR HO_306002.out) hb)
         have n3_ := Aside0.mk (Kd.N_elder' (by (with_reducible repeat (first | apply Kd.N_alloc | apply Kd.N_drewN | apply Kd.N_drew)); exact HO_306003.out) (Kd.N_base ho62) hb)
         have n4_ := Aside0.mk (Kd.N_lower ho62 (below_size (by repeat (first | (with_reducible first | exact HB.out | apply below_alloc | apply pw_below_drewN | apply below_drew1 | refine below_set ?_ GE291.out | refine below_set ?_ GE292.out | refine below_set ?_ GE305.out) | exact HB.out))))
         have n5_ := Aside0.mk (blk_below (g := gb291) (o := .cells #[.int .i64 a0_0, .int .i64 a0_1, .slice (some ad322) l0_2.length c0_2, .slice (some ad307) l0_3.length c0_3] 25 (0, 0)) (uB BK291.out) hb)
         have n6_ := Aside0.mk (blk_below (g := gb292) (o := .cells #[.int .i64 0, .int .i64 0, .slice none 0 0, .slice none 0 0] 25 (0, 0)) (uB BK292.out) hb)
         have n7_ := Aside0.mk (blk_below (g := gb305) (o := .cells #[.int .i64 a0_0, .int .i64 0, .slice Ao58 x306002_3.length co58, .slice Ao57 x306003_3.length co57] 25 (0, 0)) (uB BK305.out) hb)
         have n8_ := Aside0.mk (below_step (by repeat (first | (with_reducible first | exact HB.out | apply below_alloc | apply pw_below_drewN | apply below_drew1 | refine below_set ?_ GE291.out | refine below_set ?_ GE292.out | refine below_set ?_ GE305.out) | exact HB.out)) hb)
         clear HO_6
         clear HO_49
         clear HO_306002
         clear HO_306003
         clear BK291
         clear BK292
         clear BK305
         clear HB
         clear HO_13
         have HO_6 := n0_
         have HO_49 := n1_
         have HO_306002 := n2_
         have HO_306003 := n3_
         have HO318 := n4_
         have BK291 := n5_
         have BK292 := n6_
         have BK305 := n7_
         have HB := n8_
         clear n0_ n1_ n2_ n3_ n4_ n5_ n6_ n7_ n8_
         clear hb ho62
         obtain ⟨Ao64, co64, eo64⟩ := Kd.N_slice HO318.out
         (first | subst eo64 | (injection eo64 with f1_ f2_ f3_; have f4_ := f1_.symm; have f5_ := f3_.symm; clear f1_ f2_ f3_; subst f4_; subst f5_))
         refine hK.out _ _ ⟨(blk_cell BK305.out 0).trans rfl, (blk_cell BK305.out 1).trans rfl, (blk_cell BK305.out 2).trans rfl, (blk_cell BK305.out 3).trans rfl, (blk_cell BK291.out 0).trans rfl, (blk_cell BK291.out 1).trans rfl, (blk_cell BK291.out 2).trans rfl, (blk_cell BK291.out 3).trans rfl, ((HB.out.cell (World.block_lt_of_cell? w _ hw322_0)).trans hw322_0)⟩ (fun hHeld => ?_)
         clear hK K
         refine norm_ (a' := ?_) ?_ ?_
         rotate_left
         (focus
         show Act.put _ (some 76) _ = _
         simp only [Act.put, List.setIfInBounds_toArray, List.set_cons_zero, List.set_cons_succ, i64_w, i32_w]
         rfl
         )
         refine two_ (i := 4) (j := 12) (Ni := some 77) (Nj := some 85) #[true, true, true, true, true, true, true, true, true, true, true, true, false, false, false, false, false, false] #[true, true, true, true, false, true, true, true, true, true, true, true, true, false, false, false, false, false] rfl rfl rfl rfl (two_of HT_.out (by kernel_rfl)) (by decide) (by decide) (fun K hK => ?_) (fun K hK => ?_)
         (focus
         skip
         refine Kd.N_append_rows_step (Kd.slice 3 (Kd.int .i64)) (w0 := w) w.heap.size (by rfl) (.tmp 74) (.tmp 76) 23 38 (.slice none 0 0) 24 rfl Try.underlying23 info38 rfl (by decide) (by omega) (.slice Ao57 x306003_3.length co57) x306003_3 y316 _ _ _ (fun k_ => (w.heap.size ≤ k_) ∧ some k_ ≠ (.slice Ao13 x6_2.length co13 : Value).ownBlock ∧ some k_ ≠ (.slice (some ad306) t293.length co20 : Value).ownBlock ∧ some k_ ≠ (.slice Ao58 x306002_3.length co58 : Value).ownBlock ∧ k_ ≠ gb291 ∧ k_ ≠ gb292 ∧ k_ ≠ gb305) (fun k_ => ((fun k_ => (w.heap.size ≤ k_) ∧ some k_ ≠ (.slice Ao13 x6_2.length co13 : Value).ownBlock ∧ some k_ ≠ (.slice (some ad306) t293.length co20 : Value).ownBlock ∧ some k_ ≠ (.slice Ao58 x306002_3.length co58 : Value).ownBlock ∧ k_ ≠ gb291 ∧ k_ ≠ gb292 ∧ k_ ≠ gb305)) k_ ∧ some k_ ≠ (.slice Ao57 x306003_3.length co57 : Value).ownBlock) rfl rfl ?aO ?aR (fun _ hk => hk) ?aF ?aB ?aS ?aL ?_
         (case aR => exact (by skip; exact Kd.N_F (Kd.N_mono (ok' := (fun k_ => ((fun k_ => (w.heap.size ≤ k_) ∧ some k_ ≠ (.slice Ao13 x6_2.length co13 : Value).ownBlock ∧ some k_ ≠ (.slice (some ad306) t293.length co20 : Value).ownBlock ∧ some k_ ≠ (.slice Ao58 x306002_3.length co58 : Value).ownBlock ∧ k_ ≠ gb291 ∧ k_ ≠ gb292 ∧ k_ ≠ gb305)) k_ ∧ some k_ ≠ (.slice Ao57 x306003_3.length co57 : Value).ownBlock)) (HO318.out) (fun k_ hk => ⟨⟨hk.1, ⟨hk.2.1, ⟨hk.2.2.1, ⟨hk.2.2.2.1, ⟨hk.2.2.2.2.2.1, ⟨hk.2.2.2.2.2.2.1, hk.2.2.2.2.2.2.2⟩⟩⟩⟩⟩⟩, hk.2.2.2.2.1⟩))))
         (case aB => exact (by repeat (first | (with_reducible first | exact HB.out | apply below_alloc | apply pw_below_drewN | apply below_drew1 | refine below_set ?_ GE291.out | refine below_set ?_ GE292.out | refine below_set ?_ GE305.out) | exact HB.out)))
         (case aF => exact (fun k_ hk => ⟨(Nat.le_trans (below_size (by repeat (first | (with_reducible first | exact HB.out | apply below_alloc | apply pw_below_drewN | apply below_drew1 | refine below_set ?_ GE291.out | refine below_set ?_ GE292.out | refine below_set ?_ GE305.out) | exact HB.out))) hk), Kd.fresh' (Kd.R_lt (uR HO_6.out)) k_ hk, Kd.fresh' (Kd.R_lt (uR HO_49.out)) k_ hk, Kd.fresh' (Kd.R_lt (uR HO_306002.out)) k_ hk, Kd.freshB (g := gb291) (o := .cells #[.int .i64 a0_0, .int .i64 a0_1, .slice (some ad322) l0_2.length c0_2, .slice (some ad307) l0_3.length c0_3] 25 (0, 0)) (uB BK291.out) k_ hk, Kd.freshB (g := gb292) (o := .cells #[.int .i64 0, .int .i64 0, .slice none 0 0, .slice none 0 0] 25 (0, 0)) (uB BK292.out) k_ hk, Kd.freshB (g := gb305) (o := .cells #[.int .i64 a0_0, .int .i64 0, .slice Ao58 x306002_3.length co58, .slice Ao57 x306003_3.length co57] 25 (0, 0)) (uB BK305.out) k_ hk⟩))
         (case aO => exact (by (with_reducible repeat (first | apply Kd.N_alloc | apply Kd.N_drewN | apply Kd.N_drew)); exact Kd.N_mono HO_306003.out (fun _ hk => ⟨hk.1.1, ⟨hk.1.2.1, ⟨hk.1.2.2.2.1, ⟨hk.1.2.2.2.2.1, ⟨hk.1.2.2.2.2.2.1, ⟨hk.1.2.2.2.2.2.2.1, hk.1.2.2.2.2.2.2.2⟩⟩⟩⟩⟩⟩)))
         (case aS => exact (below_size (by repeat (first | (with_reducible first | exact HB.out | apply below_alloc | apply pw_below_drewN | apply below_drew1 | refine below_set ?_ GE291.out | refine below_set ?_ GE292.out | refine below_set ?_ GE305.out) | exact HB.out))))
         (case aL => have := LMc53.out; omega)
         intro v320 w63 ho hb hg hat
         rw [← Ny319.out] at ho
         have n0_ := Aside0.mk (Kd.R_over' (uR HO_6.out) (Kd.N_typed (by (with_reducible repeat (first | apply Kd.N_alloc | apply Kd.N_drewN | apply Kd.N_drew)); exact HO_306003.out)) (by decide) hg)
         have n1_ := Aside0.mk (Kd.R_over' (uR HO_49.out) (Kd.N_typed (by (with_reducible repeat (first | apply Kd.N_alloc | apply Kd.N_drewN | apply Kd.N_drew)); exact HO_306003.out)) (by decide) hg)
         have n2_ := Aside0.mk (Kd.R_over' (uR HO_306002.out) (Kd.N_typed (by (with_reducible repeat (first | apply Kd.N_alloc | apply Kd.N_drewN | apply Kd.N_drew)); exact HO_306003.out)) (by decide) hg)
         have n3_ := Aside0.mk (blk_grown (g := gb291) (o := .cells #[.int .i64 a0_0, .int .i64 a0_1, .slice (some ad322) l0_2.length c0_2, .slice (some ad307) l0_3.length c0_3] 25 (0, 0)) (uB BK291.out) hg (Kd.N_ne HO_306003.out BK291.out (by decide)))
         have n4_ := Aside0.mk (blk_grown (g := gb292) (o := .cells #[.int .i64 0, .int .i64 0, .slice none 0 0, .slice none 0 0] 25 (0, 0)) (uB BK292.out) hg (Kd.N_ne HO_306003.out BK292.out (by decide)))
         have n5_ := Aside0.mk (blk_grown (g := gb305) (o := .cells #[.int .i64 a0_0, .int .i64 0, .slice Ao58 x306002_3.length co58, .slice Ao57 x306003_3.length co57] 25 (0, 0)) (uB BK305.out) hg (Kd.N_ne HO_306003.out BK305.out (by decide)))
         have n6_ := Aside0.mk (Kd.N_afterv (ok := (fun k_ => (w.heap.size ≤ k_) ∧ some k_ ≠ (.slice Ao13 x6_2.length co13 : Value).ownBlock ∧ some k_ ≠ (.slice (some ad306) t293.length co20 : Value).ownBlock ∧ some k_ ≠ (.slice Ao58 x306002_3.length co58 : Value).ownBlock ∧ k_ ≠ gb291 ∧ k_ ≠ gb292 ∧ k_ ≠ gb305)) (by (with_reducible repeat (first | apply Kd.N_alloc | apply Kd.N_drewN | apply Kd.N_drew)); exact Kd.N_mono HO318.out (fun _ hk => ⟨⟨hk.1, ⟨hk.2.1, ⟨hk.2.2.1, ⟨hk.2.2.2.1, ⟨hk.2.2.2.2.2.1, ⟨hk.2.2.2.2.2.2.1, hk.2.2.2.2.2.2.2⟩⟩⟩⟩⟩⟩, hk.2.2.2.2.1⟩)) hg hat)
         have n7_ := Aside0.mk (hb)
         have n8_ := Aside0.mk (ho)
         clear HO_6
         clear HO_49
         clear HO_306002
         clear BK291
         clear BK292
         clear BK305
         clear HO318
         clear HB
         clear HO_306003
         have HO_6 := n0_
         have HO_49 := n1_
         have HO_306002 := n2_
         have BK291 := n3_
         have BK292 := n4_
         have BK305 := n5_
         have HO318 := n6_
         have HB := n7_
         have HO321 := n8_
         clear n0_ n1_ n2_ n3_ n4_ n5_ n6_ n7_ n8_
         clear ho hb hg hat
         refine hK.out _ _ ⟨(blk_cell BK305.out 0).trans rfl, (blk_cell BK305.out 1).trans rfl, (blk_cell BK305.out 2).trans rfl, (blk_cell BK305.out 3).trans rfl, (blk_cell BK291.out 0).trans rfl, (blk_cell BK291.out 1).trans rfl, (blk_cell BK291.out 2).trans rfl, (blk_cell BK291.out 3).trans rfl, ((HB.out.cell (World.block_lt_of_cell? w _ hw322_0)).trans hw322_0)⟩ (fun hHeld => ?_)
         clear hK K
         refine norm_ (a' := ?_) ?_ ?_
         rotate_left
         (focus
         show Act.put _ (some 77) _ = _
         simp only [Act.put, List.setIfInBounds_toArray, List.set_cons_zero, List.set_cons_succ, i64_w, i32_w]
         rfl
         )
         refine pure_ (i := 14) (N := some 87) (v := ?_) (a' := ?_) #[true, true, true, true, true, true, true, true, true, true, true, true, false, false, true, false, false, false] rfl rfl (any_of HT_.out (by kernel_rfl)) (fun _ _ _ h => h) (Or.inl ⟨by rfl, ?_⟩) ?_ ?_
         rotate_left
         (focus
         intro w'
         go_simp
         with_reducible rfl
         )
         rotate_left
         (focus
         simp only [Act.put, List.setIfInBounds_toArray, List.set_cons_zero, List.set_cons_succ, i64_w, i32_w]
         rfl
         )
         refine one_ (i := 12) (N := some 85) #[true, true, true, true, true, true, true, true, true, true, true, true, true, false, true, false, false, false] rfl rfl (one_of HT_.out (by kernel_rfl)) (by decide) (fun K hK => ?_)
         refine Kd.R_lit_step Kd.bool _ 4 ?hg (N := 85) ?hd (xs := ([rdOf false l0_2 (rd t293 x51_3)] : List Bool)) (inner := [.bool (rdOf false l0_2 (rd t293 x51_3))]) (ok := fun _ => True) (okp := fun _ => True) ?hr ?hp (fun _ hk => hk) trivial (Below.refl _ _) (Nat.le_refl _) (by simp) ?_; (case hd => rfl); (case hg => rfl); (case hr => first | (go_simp; done) | (go_simp; rfl)); (case hp => exact (Reps.one (show Kd.M Kd.bool _ _ _ (rdOf false l0_2 (rd t293 x51_3)) [.bool (rdOf false l0_2 (rd t293 x51_3))] from rfl) (Reps.none _ _)))
         intro v324 w65 ho66 hb hg_ hnew_
         clear hg_ hnew_
         (first | rw [← Ny323.out] at ho66 | (simp only [Int.reduceToNat] at ho66; rw [← Ny323.out] at ho66))
         have n0_ := Aside0.mk (Kd.R_below (uR HO_6.out) hb)
         have n1_ := Aside0.mk (Kd.R_below (uR HO_49.out) hb)
         have n2_ := Aside0.mk (Kd.R_elder' (uR HO_306002.out) (Kd.R_base ho66) hb)
         have n3_ := Aside0.mk (Kd.N_elder' (by (with_reducible repeat (first | apply Kd.N_alloc | apply Kd.N_drewN | apply Kd.N_drew)); exact HO318.out) (Kd.R_base ho66) hb)
         have n4_ := Aside0.mk (Kd.N_elder' (by (with_reducible repeat (first | apply Kd.N_alloc | apply Kd.N_drewN | apply Kd.N_drew)); exact HO321.out) (Kd.R_base ho66) hb)
         have n5_ := Aside0.mk (Kd.R_lower (Kd.R_new' (Kd.R_newM (M := fun k_ => (w.heap.size ≤ k_)) ho66 (below_size (by repeat (first | (with_reducible first | exact HB.out | apply below_alloc | apply pw_below_drewN | apply below_drew1 | refine below_set ?_ GE291.out | refine below_set ?_ GE292.out | refine below_set ?_ GE305.out) | exact HB.out))) (fun k_ h_ => h_)) (Kd.R_lt (uR HO_306002.out))) (below_size (by repeat (first | (with_reducible first | exact HB.out | apply below_alloc | apply pw_below_drewN | apply below_drew1 | refine below_set ?_ GE291.out | refine below_set ?_ GE292.out | refine below_set ?_ GE305.out) | exact HB.out))))
         have n6_ := Aside0.mk (blk_below (g := gb291) (o := .cells #[.int .i64 a0_0, .int .i64 a0_1, .slice (some ad322) l0_2.length c0_2, .slice (some ad307) l0_3.length c0_3] 25 (0, 0)) (uB BK291.out) hb)
         have n7_ := Aside0.mk (blk_below (g := gb292) (o := .cells #[.int .i64 0, .int .i64 0, .slice none 0 0, .slice none 0 0] 25 (0, 0)) (uB BK292.out) hb)
         have n8_ := Aside0.mk (blk_below (g := gb305) (o := .cells #[.int .i64 a0_0, .int .i64 0, .slice Ao58 x306002_3.length co58, .slice Ao57 x306003_3.length co57] 25 (0, 0)) (uB BK305.out) hb)
         have n9_ := Aside0.mk (below_step (by repeat (first | (with_reducible first | exact HB.out | apply below_alloc | apply pw_below_drewN | apply below_drew1 | refine below_set ?_ GE291.out | refine below_set ?_ GE292.out | refine below_set ?_ GE305.out) | exact HB.out)) hb)
         clear HO_6
         clear HO_49
         clear HO_306002
         clear HO318
         clear HO321
         clear BK291
         clear BK292
         clear BK305
         clear HB
         have HO_6 := n0_
         have HO_49 := n1_
         have HO_306002 := n2_
         have HO318 := n3_
         have HO321 := n4_
         have HO325 := n5_
         have BK291 := n6_
         have BK292 := n7_
         have BK305 := n8_
         have HB := n9_
         clear n0_ n1_ n2_ n3_ n4_ n5_ n6_ n7_ n8_ n9_
         clear hb ho66
         refine hK.out _ _ ⟨(blk_cell BK305.out 0).trans rfl, (blk_cell BK305.out 1).trans rfl, (blk_cell BK305.out 2).trans rfl, (blk_cell BK305.out 3).trans rfl, (blk_cell BK291.out 0).trans rfl, (blk_cell BK291.out 1).trans rfl, (blk_cell BK291.out 2).trans rfl, (blk_cell BK291.out 3).trans rfl, ((HB.out.cell (World.block_lt_of_cell? w _ hw322_0)).trans hw322_0)⟩ (fun hHeld => ?_)
         clear hK K
         refine norm_ (a' := ?_) ?_ ?_
         rotate_left
         (focus
         show Act.put _ (some 85) _ = _
         simp only [Act.put, List.setIfInBounds_toArray, List.set_cons_zero, List.set_cons_succ, i64_w, i32_w]
         rfl
         )
         exact norm_ (by simp only [putAll, Act.put, List.setIfInBounds_toArray, List.set_cons_zero, List.set_cons_succ]) (hCont (.slice Ao64 y316.length co64, v320, v324) _ ⟨hHeld, (by (with_reducible repeat (first | apply Kd.N_alloc | apply Kd.N_drewN | apply Kd.N_drew)); exact Kd.N_mono HO318.out (fun _ hk => ⟨hk.1.1.1, ⟨hk.1.2, ⟨hk.2, ⟨hk.1.1.2.2.2.1, ⟨hk.1.1.2.2.1, ⟨hk.1.1.2.1, ⟨hk.1.1.2.2.2.2.1, ⟨hk.1.1.2.2.2.2.2.1, hk.1.1.2.2.2.2.2.2⟩⟩⟩⟩⟩⟩⟩⟩)), (by (with_reducible repeat (first | apply Kd.N_alloc | apply Kd.N_drewN | apply Kd.N_drew)); exact Kd.N_mono HO321.out (fun _ hk => ⟨hk.1.1, ⟨hk.2, ⟨hk.1.2.2.2.1, ⟨hk.1.2.2.1, ⟨hk.1.2.1, ⟨hk.1.2.2.2.2.1, ⟨hk.1.2.2.2.2.2.1, hk.1.2.2.2.2.2.2⟩⟩⟩⟩⟩⟩⟩)), (uR (Kd.R_mono HO325.out (fun _ hk => ⟨hk.1.1, hk.2⟩))), (uR HO_306002.out), (uR (Kd.R_mono HO_49.out (fun _ hk => ⟨hk.1, hk.2.1⟩))), (uR (Kd.R_mono HO_6.out (fun _ hk => ⟨hk.1, hk.2.2⟩))), (uB BK291.out), (uB BK292.out), (uB BK305.out), (by repeat (first | (with_reducible first | exact HB.out | apply below_alloc | apply pw_below_drewN | apply below_drew1 | refine below_set ?_ GE291.out | refine below_set ?_ GE292.out | refine below_set ?_ GE305.out) | exact HB.out))⟩)
         )
         (focus
         skip
         refine Kd.R_lit_step Kd.bool _ 4 ?hg (N := 85) ?hd (xs := ([rdOf false l0_2 (rd t293 x51_3)] : List Bool)) (inner := [.bool (rdOf false l0_2 (rd t293 x51_3))]) (ok := fun _ => True) (okp := fun _ => True) ?hr ?hp (fun _ hk => hk) trivial (Below.refl _ _) (Nat.le_refl _) (by simp) ?_; (case hd => rfl); (case hg => rfl); (case hr => first | (go_simp; done) | (go_simp; rfl)); (case hp => exact (Reps.one (show Kd.M Kd.bool _ _ _ (rdOf false l0_2 (rd t293 x51_3)) [.bool (rdOf false l0_2 (rd t293 x51_3))] from rfl) (Reps.none _ _)))
         intro v324 w63 ho64 hb hg_ hnew_
         clear hg_ hnew_
         (first | rw [← Ny323.out] at ho64 | (simp only [Int.reduceToNat] at ho64; rw [← Ny323.out] at ho64))
         have n0_ := Aside0.mk (Kd.R_below (uR HO_6.out) hb)
         have n1_ := Aside0.mk (Kd.R_below (uR HO_49.out) hb)
         have n2_ := Aside0.mk (Kd.R_elder' (uR HO_306002.out) (Kd.R_base ho64) hb)
         have n3_ := Aside0.mk (Kd.N_elder' (by (with_reducible repeat (first | apply Kd.N_alloc | apply Kd.N_drewN | apply Kd.N_drew)); exact HO_306003.out) (Kd.R_base ho64) hb)
         have n4_ := Aside0.mk (Kd.N_elder' (by (with_reducible repeat (first | apply Kd.N_alloc | apply Kd.N_drewN | apply Kd.N_drew)); exact HO318.out) (Kd.R_base ho64) hb)
         have n5_ := Aside0.mk (Kd.R_lower (Kd.R_new' (Kd.R_newM (M := fun k_ => (w.heap.size ≤ k_)) ho64 (below_size (by repeat (first | (with_reducible first | exact HB.out | apply below_alloc | apply pw_below_drewN | apply below_drew1 | refine below_set ?_ GE291.out | refine below_set ?_ GE292.out | refine below_set ?_ GE305.out) | exact HB.out))) (fun k_ h_ => h_)) (Kd.R_lt (uR HO_306002.out))) (below_size (by repeat (first | (with_reducible first | exact HB.out | apply below_alloc | apply pw_below_drewN | apply below_drew1 | refine below_set ?_ GE291.out | refine below_set ?_ GE292.out | refine below_set ?_ GE305.out) | exact HB.out))))
         have n6_ := Aside0.mk (blk_below (g := gb291) (o := .cells #[.int .i64 a0_0, .int .i64 a0_1, .slice (some ad322) l0_2.length c0_2, .slice (some ad307) l0_3.length c0_3] 25 (0, 0)) (uB BK291.out) hb)
         have n7_ := Aside0.mk (blk_below (g := gb292) (o := .cells #[.int .i64 0, .int .i64 0, .slice none 0 0, .slice none 0 0] 25 (0, 0)) (uB BK292.out) hb)
         have n8_ := Aside0.mk (blk_below (g := gb305) (o := .cells #[.int .i64 a0_0, .int .i64 0, .slice Ao58 x306002_3.length co58, .slice Ao57 x306003_3.length co57] 25 (0, 0)) (uB BK305.out) hb)
         have n9_ := Aside0.mk (below_step (by repeat (first | (with_reducible first | exact HB.out | apply below_alloc | apply pw_below_drewN | apply below_drew1 | refine below_set ?_ GE291.out | refine below_set ?_ GE292.out | refine below_set ?_ GE305.out) | exact HB.out)) hb)
         clear HO_6
         clear HO_49
         clear HO_306002
         clear HO_306003
         clear HO318
         clear BK291
         clear BK292
         clear BK305
         clear HB
         have HO_6 := n0_
         have HO_49 := n1_
         have HO_306002 := n2_
         have HO_306003 := n3_
         have HO318 := n4_
         have HO325 := n5_
         have BK291 := n6_
         have BK292 := n7_
         have BK305 := n8_
         have HB := n9_
         clear n0_ n1_ n2_ n3_ n4_ n5_ n6_ n7_ n8_ n9_
         clear hb ho64
         obtain ⟨Ao66, co66, eo66⟩ := Kd.N_slice HO318.out
         (first | subst eo66 | (injection eo66 with f1_ f2_ f3_; have f4_ := f1_.symm; have f5_ := f3_.symm; clear f1_ f2_ f3_; subst f4_; subst f5_))
         refine hK.out _ _ ⟨(blk_cell BK305.out 0).trans rfl, (blk_cell BK305.out 1).trans rfl, (blk_cell BK305.out 2).trans rfl, (blk_cell BK305.out 3).trans rfl, (blk_cell BK291.out 0).trans rfl, (blk_cell BK291.out 1).trans rfl, (blk_cell BK291.out 2).trans rfl, (blk_cell BK291.out 3).trans rfl, ((HB.out.cell (World.block_lt_of_cell? w _ hw322_0)).trans hw322_0)⟩ (fun hHeld => ?_)
         clear hK K
         refine norm_ (a' := ?_) ?_ ?_
         rotate_left
         (focus
         show Act.put _ (some 85) _ = _
         simp only [Act.put, List.setIfInBounds_toArray, List.set_cons_zero, List.set_cons_succ, i64_w, i32_w]
         rfl
         )
         refine one_ (i := 4) (N := some 77) #[true, true, true, true, true, true, true, true, true, true, true, true, true, false, false, false, false, false] rfl rfl (one_of HT_.out (by kernel_rfl)) (by decide) (fun K hK => ?_)
         refine Kd.N_append_rows_step (Kd.slice 3 (Kd.int .i64)) (w0 := w) w.heap.size (by rfl) (.tmp 74) (.tmp 76) 23 38 (.slice none 0 0) 24 rfl Try.underlying23 info38 rfl (by decide) (by omega) (.slice Ao57 x306003_3.length co57) x306003_3 y316 _ _ _ (fun k_ => (w.heap.size ≤ k_) ∧ some k_ ≠ (.slice Ao13 x6_2.length co13 : Value).ownBlock ∧ some k_ ≠ (.slice (some ad306) t293.length co20 : Value).ownBlock ∧ some k_ ≠ (.slice Ao58 x306002_3.length co58 : Value).ownBlock ∧ some k_ ≠ (v324 : Value).ownBlock ∧ k_ ≠ gb291 ∧ k_ ≠ gb292 ∧ k_ ≠ gb305) (fun k_ => ((fun k_ => (w.heap.size ≤ k_) ∧ some k_ ≠ (.slice Ao13 x6_2.length co13 : Value).ownBlock ∧ some k_ ≠ (.slice (some ad306) t293.length co20 : Value).ownBlock ∧ some k_ ≠ (.slice Ao58 x306002_3.length co58 : Value).ownBlock ∧ some k_ ≠ (v324 : Value).ownBlock ∧ k_ ≠ gb291 ∧ k_ ≠ gb292 ∧ k_ ≠ gb305)) k_ ∧ some k_ ≠ (.slice Ao57 x306003_3.length co57 : Value).ownBlock) rfl rfl ?aO ?aR (fun _ hk => hk) ?aF ?aB ?aS ?aL ?_
         (case aR => exact (by skip; exact Kd.N_F (Kd.N_mono (ok' := (fun k_ => ((fun k_ => (w.heap.size ≤ k_) ∧ some k_ ≠ (.slice Ao13 x6_2.length co13 : Value).ownBlock ∧ some k_ ≠ (.slice (some ad306) t293.length co20 : Value).ownBlock ∧ some k_ ≠ (.slice Ao58 x306002_3.length co58 : Value).ownBlock ∧ some k_ ≠ (v324 : Value).ownBlock ∧ k_ ≠ gb291 ∧ k_ ≠ gb292 ∧ k_ ≠ gb305)) k_ ∧ some k_ ≠ (.slice Ao57 x306003_3.length co57 : Value).ownBlock)) (HO318.out) (fun k_ hk => ⟨⟨hk.1.1, ⟨hk.1.2.1, ⟨hk.1.2.2.1, ⟨hk.1.2.2.2.1, ⟨hk.2, ⟨hk.1.2.2.2.2.2.1, ⟨hk.1.2.2.2.2.2.2.1, hk.1.2.2.2.2.2.2.2⟩⟩⟩⟩⟩⟩⟩, hk.1.2.2.2.2.1⟩))))
         (case aB => exact (by repeat (first | (with_reducible first | exact HB.out | apply below_alloc | apply pw_below_drewN | apply below_drew1 | refine below_set ?_ GE291.out | refine below_set ?_ GE292.out | refine below_set ?_ GE305.out) | exact HB.out)))
         (case aF => exact (fun k_ hk => ⟨(Nat.le_trans (below_size (by repeat (first | (with_reducible first | exact HB.out | apply below_alloc | apply pw_below_drewN | apply below_drew1 | refine below_set ?_ GE291.out | refine below_set ?_ GE292.out | refine below_set ?_ GE305.out) | exact HB.out))) hk), Kd.fresh' (Kd.R_lt (uR HO_6.out)) k_ hk, Kd.fresh' (Kd.R_lt (uR HO_49.out)) k_ hk, Kd.fresh' (Kd.R_lt (uR HO_306002.out)) k_ hk, Kd.fresh' (Kd.R_lt (uR HO325.out)) k_ hk, Kd.freshB (g := gb291) (o := .cells #[.int .i64 a0_0, .int .i64 a0_1, .slice (some ad322) l0_2.length c0_2, .slice (some ad307) l0_3.length c0_3] 25 (0, 0)) (uB BK291.out) k_ hk, Kd.freshB (g := gb292) (o := .cells #[.int .i64 0, .int .i64 0, .slice none 0 0, .slice none 0 0] 25 (0, 0)) (uB BK292.out) k_ hk, Kd.freshB (g := gb305) (o := .cells #[.int .i64 a0_0, .int .i64 0, .slice Ao58 x306002_3.length co58, .slice Ao57 x306003_3.length co57] 25 (0, 0)) (uB BK305.out) k_ hk⟩))
         (case aO => exact (by (with_reducible repeat (first | apply Kd.N_alloc | apply Kd.N_drewN | apply Kd.N_drew)); exact Kd.N_mono HO_306003.out (fun _ hk => ⟨hk.1.1.1, ⟨hk.1.1.2.1, ⟨hk.1.1.2.2.2.1, ⟨hk.1.1.2.2.2.2.1, ⟨hk.2, ⟨hk.1.1.2.2.2.2.2.1, ⟨hk.1.1.2.2.2.2.2.2.1, hk.1.1.2.2.2.2.2.2.2⟩⟩⟩⟩⟩⟩⟩)))
         (case aS => exact (below_size (by repeat (first | (with_reducible first | exact HB.out | apply below_alloc | apply pw_below_drewN | apply below_drew1 | refine below_set ?_ GE291.out | refine below_set ?_ GE292.out | refine below_set ?_ GE305.out) | exact HB.out))))
         (case aL => have := LMc53.out; omega)
         intro v320 w65 ho hb hg hat
         rw [← Ny319.out] at ho
         have n0_ := Aside0.mk (Kd.R_over' (uR HO_6.out) (Kd.N_typed (by (with_reducible repeat (first | apply Kd.N_alloc | apply Kd.N_drewN | apply Kd.N_drew)); exact HO_306003.out)) (by decide) hg)
         have n1_ := Aside0.mk (Kd.R_over' (uR HO_49.out) (Kd.N_typed (by (with_reducible repeat (first | apply Kd.N_alloc | apply Kd.N_drewN | apply Kd.N_drew)); exact HO_306003.out)) (by decide) hg)
         have n2_ := Aside0.mk (Kd.R_over' (uR HO_306002.out) (Kd.N_typed (by (with_reducible repeat (first | apply Kd.N_alloc | apply Kd.N_drewN | apply Kd.N_drew)); exact HO_306003.out)) (by decide) hg)
         have n3_ := Aside0.mk (blk_grown (g := gb291) (o := .cells #[.int .i64 a0_0, .int .i64 a0_1, .slice (some ad322) l0_2.length c0_2, .slice (some ad307) l0_3.length c0_3] 25 (0, 0)) (uB BK291.out) hg (Kd.N_ne HO_306003.out BK291.out (by decide)))
         have n4_ := Aside0.mk (blk_grown (g := gb292) (o := .cells #[.int .i64 0, .int .i64 0, .slice none 0 0, .slice none 0 0] 25 (0, 0)) (uB BK292.out) hg (Kd.N_ne HO_306003.out BK292.out (by decide)))
         have n5_ := Aside0.mk (blk_grown (g := gb305) (o := .cells #[.int .i64 a0_0, .int .i64 0, .slice Ao58 x306002_3.length co58, .slice Ao57 x306003_3.length co57] 25 (0, 0)) (uB BK305.out) hg (Kd.N_ne HO_306003.out BK305.out (by decide)))
         have n6_ := Aside0.mk (Kd.N_afterv (ok := (fun k_ => (w.heap.size ≤ k_) ∧ some k_ ≠ (.slice Ao13 x6_2.length co13 : Value).ownBlock ∧ some k_ ≠ (.slice (some ad306) t293.length co20 : Value).ownBlock ∧ some k_ ≠ (.slice Ao58 x306002_3.length co58 : Value).ownBlock ∧ some k_ ≠ (v324 : Value).ownBlock ∧ k_ ≠ gb291 ∧ k_ ≠ gb292 ∧ k_ ≠ gb305)) (by (with_reducible repeat (first | apply Kd.N_alloc | apply Kd.N_drewN | apply Kd.N_drew)); exact Kd.N_mono HO318.out (fun _ hk => ⟨⟨hk.1.1, ⟨hk.1.2.1, ⟨hk.1.2.2.1, ⟨hk.1.2.2.2.1, ⟨hk.2, ⟨hk.1.2.2.2.2.2.1, ⟨hk.1.2.2.2.2.2.2.1, hk.1.2.2.2.2.2.2.2⟩⟩⟩⟩⟩⟩⟩, hk.1.2.2.2.2.1⟩)) hg hat)
         have n7_ := Aside0.mk (Kd.R_over' (uR HO325.out) (Kd.N_typed (by (with_reducible repeat (first | apply Kd.N_alloc | apply Kd.N_drewN | apply Kd.N_drew)); exact HO_306003.out)) (by decide) hg)
         have n8_ := Aside0.mk (hb)
         have n9_ := Aside0.mk (ho)
         clear HO_6
         clear HO_49
         clear HO_306002
         clear BK291
         clear BK292
         clear BK305
         clear HO318
         clear HO325
         clear HB
         clear HO_306003
         have HO_6 := n0_
         have HO_49 := n1_
         have HO_306002 := n2_
         have BK291 := n3_
         have BK292 := n4_
         have BK305 := n5_
         have HO318 := n6_
         have HO325 := n7_
         have HB := n8_
         have HO321 := n9_
         clear n0_ n1_ n2_ n3_ n4_ n5_ n6_ n7_ n8_ n9_
         clear ho hb hg hat
         refine hK.out _ _ ⟨(blk_cell BK305.out 0).trans rfl, (blk_cell BK305.out 1).trans rfl, (blk_cell BK305.out 2).trans rfl, (blk_cell BK305.out 3).trans rfl, (blk_cell BK291.out 0).trans rfl, (blk_cell BK291.out 1).trans rfl, (blk_cell BK291.out 2).trans rfl, (blk_cell BK291.out 3).trans rfl, ((HB.out.cell (World.block_lt_of_cell? w _ hw322_0)).trans hw322_0)⟩ (fun hHeld => ?_)
         clear hK K
         refine norm_ (a' := ?_) ?_ ?_
         rotate_left
         (focus
         show Act.put _ (some 77) _ = _
         simp only [Act.put, List.setIfInBounds_toArray, List.set_cons_zero, List.set_cons_succ, i64_w, i32_w]
         rfl
         )
         refine pure_ (i := 14) (N := some 87) (v := ?_) (a' := ?_) #[true, true, true, true, true, true, true, true, true, true, true, true, true, false, true, false, false, false] rfl rfl (any_of HT_.out (by kernel_rfl)) (fun _ _ _ h => h) (Or.inl ⟨by rfl, ?_⟩) ?_ ?_
         rotate_left
         (focus
         intro w'
         go_simp
         with_reducible rfl
         )
         rotate_left
         (focus
         simp only [Act.put, List.setIfInBounds_toArray, List.set_cons_zero, List.set_cons_succ, i64_w, i32_w]
         rfl
         )
         exact norm_ (by simp only [putAll, Act.put, List.setIfInBounds_toArray, List.set_cons_zero, List.set_cons_succ]) (hCont (.slice Ao66 y316.length co66, v320, v324) _ ⟨hHeld, (by (with_reducible repeat (first | apply Kd.N_alloc | apply Kd.N_drewN | apply Kd.N_drew)); exact Kd.N_mono HO318.out (fun _ hk => ⟨hk.1.1, ⟨hk.2, ⟨hk.1.2.2.2.2.1, ⟨hk.1.2.2.2.1, ⟨hk.1.2.2.1, ⟨hk.1.2.1, ⟨hk.1.2.2.2.2.2.1, ⟨hk.1.2.2.2.2.2.2.1, hk.1.2.2.2.2.2.2.2⟩⟩⟩⟩⟩⟩⟩⟩)), (by (with_reducible repeat (first | apply Kd.N_alloc | apply Kd.N_drewN | apply Kd.N_drew)); exact Kd.N_mono HO321.out (fun _ hk => ⟨hk.1, ⟨hk.2.2.2.2.1, ⟨hk.2.2.2.1, ⟨hk.2.2.1, ⟨hk.2.1, ⟨hk.2.2.2.2.2.1, ⟨hk.2.2.2.2.2.2.1, hk.2.2.2.2.2.2.2⟩⟩⟩⟩⟩⟩⟩)), (uR (Kd.R_mono HO325.out (fun _ hk => ⟨hk.1.1, hk.2⟩))), (uR HO_306002.out), (uR (Kd.R_mono HO_49.out (fun _ hk => ⟨hk.1, hk.2.1⟩))), (uR (Kd.R_mono HO_6.out (fun _ hk => ⟨hk.1, hk.2.2⟩))), (uB BK291.out), (uB BK292.out), (uB BK305.out), (by repeat (first | (with_reducible first | exact HB.out | apply below_alloc | apply pw_below_drewN | apply below_drew1 | refine below_set ?_ GE291.out | refine below_set ?_ GE292.out | refine below_set ?_ GE305.out) | exact HB.out))⟩)
         )
         )
         (focus
         skip
         refine Kd.R_lit_step Kd.bool _ 4 ?hg (N := 85) ?hd (xs := ([rdOf false l0_2 (rd t293 x51_3)] : List Bool)) (inner := [.bool (rdOf false l0_2 (rd t293 x51_3))]) (ok := fun _ => True) (okp := fun _ => True) ?hr ?hp (fun _ hk => hk) trivial (Below.refl _ _) (Nat.le_refl _) (by simp) ?_; (case hd => rfl); (case hg => rfl); (case hr => first | (go_simp; done) | (go_simp; rfl)); (case hp => exact (Reps.one (show Kd.M Kd.bool _ _ _ (rdOf false l0_2 (rd t293 x51_3)) [.bool (rdOf false l0_2 (rd t293 x51_3))] from rfl) (Reps.none _ _)))
         intro v324 w60 ho61 hb hg_ hnew_
         clear hg_ hnew_
         (first | rw [← Ny323.out] at ho61 | (simp only [Int.reduceToNat] at ho61; rw [← Ny323.out] at ho61))
         have n0_ := Aside0.mk (Kd.R_below (uR HO_6.out) hb)
         have n1_ := Aside0.mk (Kd.R_below (uR HO_13.out) hb)
         have n2_ := Aside0.mk (Kd.R_below (uR HO_49.out) hb)
         have n3_ := Aside0.mk (Kd.R_elder' (uR HO_306002.out) (Kd.R_base ho61) hb)
         have n4_ := Aside0.mk (Kd.N_elder' (by (with_reducible repeat (first | apply Kd.N_alloc | apply Kd.N_drewN | apply Kd.N_drew)); exact HO_306003.out) (Kd.R_base ho61) hb)
         have n5_ := Aside0.mk (Kd.R_lower (Kd.R_new' (Kd.R_newM (M := fun k_ => (w.heap.size ≤ k_)) ho61 (below_size (by repeat (first | (with_reducible first | exact HB.out | apply below_alloc | apply pw_below_drewN | apply below_drew1 | refine below_set ?_ GE291.out | refine below_set ?_ GE292.out | refine below_set ?_ GE305.out) | exact HB.out))) (fun k_ h_ => h_)) (Kd.R_lt (uR HO_306002.out))) (below_size (by repeat (first | (with_reducible first | exact HB.out | apply below_alloc | apply pw_below_drewN | apply below_drew1 | refine below_set ?_ GE291.out | refine below_set ?_ GE292.out | refine below_set ?_ GE305.out) | exact HB.out))))
         have n6_ := Aside0.mk (blk_below (g := gb291) (o := .cells #[.int .i64 a0_0, .int .i64 a0_1, .slice (some ad322) l0_2.length c0_2, .slice (some ad307) l0_3.length c0_3] 25 (0, 0)) (uB BK291.out) hb)
         have n7_ := Aside0.mk (blk_below (g := gb292) (o := .cells #[.int .i64 0, .int .i64 0, .slice none 0 0, .slice none 0 0] 25 (0, 0)) (uB BK292.out) hb)
         have n8_ := Aside0.mk (blk_below (g := gb305) (o := .cells #[.int .i64 a0_0, .int .i64 0, .slice Ao58 x306002_3.length co58, .slice Ao57 x306003_3.length co57] 25 (0, 0)) (uB BK305.out) hb)
         have n9_ := Aside0.mk (below_step (by repeat (first | (with_reducible first | exact HB.out | apply below_alloc | apply pw_below_drewN | apply below_drew1 | refine below_set ?_ GE291.out | refine below_set ?_ GE292.out | refine below_set ?_ GE305.out) | exact HB.out)) hb)
         clear HO_6
         clear HO_13
         clear HO_49
         clear HO_306002
         clear HO_306003
         clear BK291
         clear BK292
         clear BK305
         clear HB
         have HO_6 := n0_
         have HO_13 := n1_
         have HO_49 := n2_
         have HO_306002 := n3_
         have HO_306003 := n4_
         have HO325 := n5_
         have BK291 := n6_
         have BK292 := n7_
         have BK305 := n8_
         have HB := n9_
         clear n0_ n1_ n2_ n3_ n4_ n5_ n6_ n7_ n8_ n9_
         clear hb ho61
         obtain ⟨Ao62, co62, eo62⟩ := Kd.R_slice HO_13.out
         (first | subst eo62 | (injection eo62 with f1_ f2_ f3_; have f4_ := f1_.symm; have f5_ := f3_.symm; clear f1_ f2_ f3_; subst f4_; subst f5_))
         refine hK.out _ _ ⟨(blk_cell BK305.out 0).trans rfl, (blk_cell BK305.out 1).trans rfl, (blk_cell BK305.out 2).trans rfl, (blk_cell BK305.out 3).trans rfl, (blk_cell BK291.out 0).trans rfl, (blk_cell BK291.out 1).trans rfl, (blk_cell BK291.out 2).trans rfl, (blk_cell BK291.out 3).trans rfl, ((HB.out.cell (World.block_lt_of_cell? w _ hw322_0)).trans hw322_0)⟩ (fun hHeld => ?_)
         clear hK K
         refine norm_ (a' := ?_) ?_ ?_
         rotate_left
         (focus
         show Act.put _ (some 85) _ = _
         simp only [Act.put, List.setIfInBounds_toArray, List.set_cons_zero, List.set_cons_succ, i64_w, i32_w]
         rfl
         )
         refine one_ (i := 3) (N := some 76) #[true, true, true, true, false, true, true, true, true, true, true, true, true, false, false, false, false, false] rfl rfl (one_of HT_.out (by kernel_rfl)) (by decide) (fun K hK => ?_)
         refine Kd.N_lit_step (Kd.slice 3 (Kd.int .i64)) _ 38 ?hg (N' := 76) ?hd (xs := ([x13_4] : List (List Int))) (inner := [.slice Ao62 x13_4.length co62]) (ok := (fun k_ => (w.heap.size ≤ k_) ∧ some k_ ≠ (.slice Ao13 x6_2.length co13 : Value).ownBlock ∧ some k_ ≠ (.slice (some ad306) t293.length co20 : Value).ownBlock ∧ some k_ ≠ (.slice Ao58 x306002_3.length co58 : Value).ownBlock ∧ some k_ ≠ (.slice Ao57 x306003_3.length co57 : Value).ownBlock ∧ some k_ ≠ (v324 : Value).ownBlock ∧ k_ ≠ gb291 ∧ k_ ≠ gb292 ∧ k_ ≠ gb305)) (okp := (fun k_ => (w.heap.size ≤ k_) ∧ some k_ ≠ (.slice Ao13 x6_2.length co13 : Value).ownBlock ∧ some k_ ≠ (.slice (some ad306) t293.length co20 : Value).ownBlock ∧ some k_ ≠ (.slice Ao58 x306002_3.length co58 : Value).ownBlock ∧ some k_ ≠ (.slice Ao57 x306003_3.length co57 : Value).ownBlock ∧ some k_ ≠ (v324 : Value).ownBlock ∧ k_ ≠ gb291 ∧ k_ ≠ gb292 ∧ k_ ≠ gb305)) ?hr ?hp (fun _ hk => hk) ((show ∀ k_, w60.heap.size ≤ k_ → (fun k_ => (w.heap.size ≤ k_) ∧ some k_ ≠ (.slice Ao13 x6_2.length co13 : Value).ownBlock ∧ some k_ ≠ (.slice (some ad306) t293.length co20 : Value).ownBlock ∧ some k_ ≠ (.slice Ao58 x306002_3.length co58 : Value).ownBlock ∧ some k_ ≠ (.slice Ao57 x306003_3.length co57 : Value).ownBlock ∧ some k_ ≠ (v324 : Value).ownBlock ∧ k_ ≠ gb291 ∧ k_ ≠ gb292 ∧ k_ ≠ gb305) k_ from fun k_ hk => ⟨(Nat.le_trans (below_size (by repeat (first | (with_reducible first | exact HB.out | apply below_alloc | apply pw_below_drewN | apply below_drew1 | refine below_set ?_ GE291.out | refine below_set ?_ GE292.out | refine below_set ?_ GE305.out) | exact HB.out))) hk), Kd.fresh' (Kd.R_lt (uR HO_6.out)) k_ hk, Kd.fresh' (Kd.R_lt (uR HO_49.out)) k_ hk, Kd.fresh' (Kd.R_lt (uR HO_306002.out)) k_ hk, Kd.fresh' (Kd.N_lt (by (with_reducible repeat (first | apply Kd.N_alloc | apply Kd.N_drewN | apply Kd.N_drew)); exact HO_306003.out)) k_ hk, Kd.fresh' (Kd.R_lt (uR HO325.out)) k_ hk, Kd.freshB (g := gb291) (o := .cells #[.int .i64 a0_0, .int .i64 a0_1, .slice (some ad322) l0_2.length c0_2, .slice (some ad307) l0_3.length c0_3] 25 (0, 0)) (uB BK291.out) k_ hk, Kd.freshB (g := gb292) (o := .cells #[.int .i64 0, .int .i64 0, .slice none 0 0, .slice none 0 0] 25 (0, 0)) (uB BK292.out) k_ hk, Kd.freshB (g := gb305) (o := .cells #[.int .i64 a0_0, .int .i64 0, .slice Ao58 x306002_3.length co58, .slice Ao57 x306003_3.length co57] 25 (0, 0)) (uB BK305.out) k_ hk⟩) _ (Nat.le_refl _)) (Below.refl _ _) (Nat.le_refl _) (by simp) ?_; (case hd => rfl); (case hg => rfl); (case hr => first | (go_simp; done) | (go_simp; rfl)); (case hp => exact (Reps.one (show Kd.FK (Kd.slice 3 (Kd.int .i64)) _ _ x13_4 [.slice Ao62 x13_4.length co62] from (FK_of_R (Kd.R_mono (ok' := (fun k_ => (w.heap.size ≤ k_) ∧ some k_ ≠ (.slice Ao13 x6_2.length co13 : Value).ownBlock ∧ some k_ ≠ (.slice (some ad306) t293.length co20 : Value).ownBlock ∧ some k_ ≠ (.slice Ao58 x306002_3.length co58 : Value).ownBlock ∧ some k_ ≠ (.slice Ao57 x306003_3.length co57 : Value).ownBlock ∧ some k_ ≠ (v324 : Value).ownBlock ∧ k_ ≠ gb291 ∧ k_ ≠ gb292 ∧ k_ ≠ gb305)) (Kd.R_types (Kd.R_types (Kd.R_types (Kd.R_apart' (Kd.R_apart' (Kd.R_apart' (HO_13.out) (Kd.R_typed HO_306002.out) (by decide)) (Kd.N_typed HO_306003.out) (by decide)) (Kd.R_typed HO325.out) (by decide)) BK291.out (by decide)) BK292.out (by decide)) BK305.out (by decide)) (fun k_ hk => ⟨hk.1.1.1.1.1.1.1, ⟨hk.1.1.1.1.1.1.2.1, ⟨hk.1.1.1.1.1.1.2.2, ⟨hk.1.1.1.1.1.2, ⟨hk.1.1.1.1.2, ⟨hk.1.1.1.2, ⟨hk.1.1.2, ⟨hk.1.2, hk.2⟩⟩⟩⟩⟩⟩⟩⟩)))) (Reps.none _ _)))
         intro v317 w63 ho64 hb hg_ hnew_
         clear hg_ hnew_
         (first | rw [← Ny316.out] at ho64 | (simp only [Int.reduceToNat] at ho64; rw [← Ny316.out] at ho64))
         have n0_ := Aside0.mk (Kd.R_below (uR HO_6.out) hb)
         have n1_ := Aside0.mk (Kd.R_below (uR HO_49.out) hb)
         have n2_ := Aside0.mk (Kd.R_below (uR HO_306002.out) hb)
         have n3_ := Aside0.mk (Kd.N_elder' (by (with_reducible repeat (first | apply Kd.N_alloc | apply Kd.N_drewN | apply Kd.N_drew)); exact HO_306003.out) (Kd.N_base ho64) hb)
         have n4_ := Aside0.mk (Kd.R_below (uR HO325.out) hb)
         have n5_ := Aside0.mk (Kd.N_lower ho64 (below_size (by repeat (first | (with_reducible first | exact HB.out | apply below_alloc | apply pw_below_drewN | apply below_drew1 | refine below_set ?_ GE291.out | refine below_set ?_ GE292.out | refine below_set ?_ GE305.out) | exact HB.out))))
         have n6_ := Aside0.mk (blk_below (g := gb291) (o := .cells #[.int .i64 a0_0, .int .i64 a0_1, .slice (some ad322) l0_2.length c0_2, .slice (some ad307) l0_3.length c0_3] 25 (0, 0)) (uB BK291.out) hb)
         have n7_ := Aside0.mk (blk_below (g := gb292) (o := .cells #[.int .i64 0, .int .i64 0, .slice none 0 0, .slice none 0 0] 25 (0, 0)) (uB BK292.out) hb)
         have n8_ := Aside0.mk (blk_below (g := gb305) (o := .cells #[.int .i64 a0_0, .int .i64 0, .slice Ao58 x306002_3.length co58, .slice Ao57 x306003_3.length co57] 25 (0, 0)) (uB BK305.out) hb)
         have n9_ := Aside0.mk (below_step (by repeat (first | (with_reducible first | exact HB.out | apply below_alloc | apply pw_below_drewN | apply below_drew1 | refine below_set ?_ GE291.out | refine below_set ?_ GE292.out | refine below_set ?_ GE305.out) | exact HB.out)) hb)
         clear HO_6
         clear HO_49
         clear HO_306002
         clear HO_306003
         clear HO325
         clear BK291
         clear BK292
         clear BK305
         clear HB
         clear HO_13
         have HO_6 := n0_
         have HO_49 := n1_
         have HO_306002 := n2_
         have HO_306003 := n3_
         have HO325 := n4_
         have HO318 := n5_
         have BK291 := n6_
         have BK292 := n7_
         have BK305 := n8_
         have HB := n9_
         clear n0_ n1_ n2_ n3_ n4_ n5_ n6_ n7_ n8_ n9_
         clear hb ho64
         obtain ⟨Ao66, co66, eo66⟩ := Kd.N_slice HO318.out
         (first | subst eo66 | (injection eo66 with f1_ f2_ f3_; have f4_ := f1_.symm; have f5_ := f3_.symm; clear f1_ f2_ f3_; subst f4_; subst f5_))
         refine hK.out _ _ ⟨(blk_cell BK305.out 0).trans rfl, (blk_cell BK305.out 1).trans rfl, (blk_cell BK305.out 2).trans rfl, (blk_cell BK305.out 3).trans rfl, (blk_cell BK291.out 0).trans rfl, (blk_cell BK291.out 1).trans rfl, (blk_cell BK291.out 2).trans rfl, (blk_cell BK291.out 3).trans rfl, ((HB.out.cell (World.block_lt_of_cell? w _ hw322_0)).trans hw322_0)⟩ (fun hHeld => ?_)
         clear hK K
         refine norm_ (a' := ?_) ?_ ?_
         rotate_left
         (focus
         show Act.put _ (some 76) _ = _
         simp only [Act.put, List.setIfInBounds_toArray, List.set_cons_zero, List.set_cons_succ, i64_w, i32_w]
         rfl
         )
         refine one_ (i := 4) (N := some 77) #[true, true, true, true, true, true, true, true, true, true, true, true, true, false, false, false, false, false] rfl rfl (one_of HT_.out (by kernel_rfl)) (by decide) (fun K hK => ?_)
         refine Kd.N_append_rows_step (Kd.slice 3 (Kd.int .i64)) (w0 := w) w.heap.size (by rfl) (.tmp 74) (.tmp 76) 23 38 (.slice none 0 0) 24 rfl Try.underlying23 info38 rfl (by decide) (by omega) (.slice Ao57 x306003_3.length co57) x306003_3 y316 _ _ _ (fun k_ => (w.heap.size ≤ k_) ∧ some k_ ≠ (.slice Ao13 x6_2.length co13 : Value).ownBlock ∧ some k_ ≠ (.slice (some ad306) t293.length co20 : Value).ownBlock ∧ some k_ ≠ (.slice Ao58 x306002_3.length co58 : Value).ownBlock ∧ some k_ ≠ (v324 : Value).ownBlock ∧ k_ ≠ gb291 ∧ k_ ≠ gb292 ∧ k_ ≠ gb305) (fun k_ => ((fun k_ => (w.heap.size ≤ k_) ∧ some k_ ≠ (.slice Ao13 x6_2.length co13 : Value).ownBlock ∧ some k_ ≠ (.slice (some ad306) t293.length co20 : Value).ownBlock ∧ some k_ ≠ (.slice Ao58 x306002_3.length co58 : Value).ownBlock ∧ some k_ ≠ (v324 : Value).ownBlock ∧ k_ ≠ gb291 ∧ k_ ≠ gb292 ∧ k_ ≠ gb305)) k_ ∧ some k_ ≠ (.slice Ao57 x306003_3.length co57 : Value).ownBlock) rfl rfl ?aO ?aR (fun _ hk => hk) ?aF ?aB ?aS ?aL ?_
         (case aR => exact (by skip; exact Kd.N_F (Kd.N_mono (ok' := (fun k_ => ((fun k_ => (w.heap.size ≤ k_) ∧ some k_ ≠ (.slice Ao13 x6_2.length co13 : Value).ownBlock ∧ some k_ ≠ (.slice (some ad306) t293.length co20 : Value).ownBlock ∧ some k_ ≠ (.slice Ao58 x306002_3.length co58 : Value).ownBlock ∧ some k_ ≠ (v324 : Value).ownBlock ∧ k_ ≠ gb291 ∧ k_ ≠ gb292 ∧ k_ ≠ gb305)) k_ ∧ some k_ ≠ (.slice Ao57 x306003_3.length co57 : Value).ownBlock)) (HO318.out) (fun k_ hk => ⟨⟨hk.1, ⟨hk.2.1, ⟨hk.2.2.1, ⟨hk.2.2.2.1, ⟨hk.2.2.2.2.2.1, ⟨hk.2.2.2.2.2.2.1, ⟨hk.2.2.2.2.2.2.2.1, hk.2.2.2.2.2.2.2.2⟩⟩⟩⟩⟩⟩⟩, hk.2.2.2.2.1⟩))))
         (case aB => exact (by repeat (first | (with_reducible first | exact HB.out | apply below_alloc | apply pw_below_drewN | apply below_drew1 | refine below_set ?_ GE291.out | refine below_set ?_ GE292.out | refine below_set ?_ GE305.out) | exact HB.out)))
         (case aF => exact (fun k_ hk => ⟨(Nat.le_trans (below_size (by repeat (first | (with_reducible first | exact HB.out | apply below_alloc | apply pw_below_drewN | apply below_drew1 | refine below_set ?_ GE291.out | refine below_set ?_ GE292.out | refine below_set ?_ GE305.out) | exact HB.out))) hk), Kd.fresh' (Kd.R_lt (uR HO_6.out)) k_ hk, Kd.fresh' (Kd.R_lt (uR HO_49.out)) k_ hk, Kd.fresh' (Kd.R_lt (uR HO_306002.out)) k_ hk, Kd.fresh' (Kd.R_lt (uR HO325.out)) k_ hk, Kd.freshB (g := gb291) (o := .cells #[.int .i64 a0_0, .int .i64 a0_1, .slice (some ad322) l0_2.length c0_2, .slice (some ad307) l0_3.length c0_3] 25 (0, 0)) (uB BK291.out) k_ hk, Kd.freshB (g := gb292) (o := .cells #[.int .i64 0, .int .i64 0, .slice none 0 0, .slice none 0 0] 25 (0, 0)) (uB BK292.out) k_ hk, Kd.freshB (g := gb305) (o := .cells #[.int .i64 a0_0, .int .i64 0, .slice Ao58 x306002_3.length co58, .slice Ao57 x306003_3.length co57] 25 (0, 0)) (uB BK305.out) k_ hk⟩))
         (case aO => exact (by (with_reducible repeat (first | apply Kd.N_alloc | apply Kd.N_drewN | apply Kd.N_drew)); exact Kd.N_mono HO_306003.out (fun _ hk => ⟨hk.1.1.1, ⟨hk.1.1.2.1, ⟨hk.1.1.2.2.2.1, ⟨hk.1.1.2.2.2.2.1, ⟨hk.1.2, ⟨hk.1.1.2.2.2.2.2.1, ⟨hk.1.1.2.2.2.2.2.2.1, hk.1.1.2.2.2.2.2.2.2⟩⟩⟩⟩⟩⟩⟩)))
         (case aS => exact (below_size (by repeat (first | (with_reducible first | exact HB.out | apply below_alloc | apply pw_below_drewN | apply below_drew1 | refine below_set ?_ GE291.out | refine below_set ?_ GE292.out | refine below_set ?_ GE305.out) | exact HB.out))))
         (case aL => have := LMc53.out; omega)
         intro v320 w65 ho hb hg hat
         rw [← Ny319.out] at ho
         have n0_ := Aside0.mk (Kd.R_over' (uR HO_6.out) (Kd.N_typed (by (with_reducible repeat (first | apply Kd.N_alloc | apply Kd.N_drewN | apply Kd.N_drew)); exact HO_306003.out)) (by decide) hg)
         have n1_ := Aside0.mk (Kd.R_over' (uR HO_49.out) (Kd.N_typed (by (with_reducible repeat (first | apply Kd.N_alloc | apply Kd.N_drewN | apply Kd.N_drew)); exact HO_306003.out)) (by decide) hg)
         have n2_ := Aside0.mk (Kd.R_over' (uR HO_306002.out) (Kd.N_typed (by (with_reducible repeat (first | apply Kd.N_alloc | apply Kd.N_drewN | apply Kd.N_drew)); exact HO_306003.out)) (by decide) hg)
         have n3_ := Aside0.mk (blk_grown (g := gb291) (o := .cells #[.int .i64 a0_0, .int .i64 a0_1, .slice (some ad322) l0_2.length c0_2, .slice (some ad307) l0_3.length c0_3] 25 (0, 0)) (uB BK291.out) hg (Kd.N_ne HO_306003.out BK291.out (by decide)))
         have n4_ := Aside0.mk (blk_grown (g := gb292) (o := .cells #[.int .i64 0, .int .i64 0, .slice none 0 0, .slice none 0 0] 25 (0, 0)) (uB BK292.out) hg (Kd.N_ne HO_306003.out BK292.out (by decide)))
         have n5_ := Aside0.mk (blk_grown (g := gb305) (o := .cells #[.int .i64 a0_0, .int .i64 0, .slice Ao58 x306002_3.length co58, .slice Ao57 x306003_3.length co57] 25 (0, 0)) (uB BK305.out) hg (Kd.N_ne HO_306003.out BK305.out (by decide)))
         have n6_ := Aside0.mk (Kd.R_over' (uR HO325.out) (Kd.N_typed (by (with_reducible repeat (first | apply Kd.N_alloc | apply Kd.N_drewN | apply Kd.N_drew)); exact HO_306003.out)) (by decide) hg)
         have n7_ := Aside0.mk (Kd.N_afterv (ok := (fun k_ => (w.heap.size ≤ k_) ∧ some k_ ≠ (.slice Ao13 x6_2.length co13 : Value).ownBlock ∧ some k_ ≠ (.slice (some ad306) t293.length co20 : Value).ownBlock ∧ some k_ ≠ (.slice Ao58 x306002_3.length co58 : Value).ownBlock ∧ some k_ ≠ (v324 : Value).ownBlock ∧ k_ ≠ gb291 ∧ k_ ≠ gb292 ∧ k_ ≠ gb305)) (by (with_reducible repeat (first | apply Kd.N_alloc | apply Kd.N_drewN | apply Kd.N_drew)); exact Kd.N_mono HO318.out (fun _ hk => ⟨⟨hk.1, ⟨hk.2.1, ⟨hk.2.2.1, ⟨hk.2.2.2.1, ⟨hk.2.2.2.2.2.1, ⟨hk.2.2.2.2.2.2.1, ⟨hk.2.2.2.2.2.2.2.1, hk.2.2.2.2.2.2.2.2⟩⟩⟩⟩⟩⟩⟩, hk.2.2.2.2.1⟩)) hg hat)
         have n8_ := Aside0.mk (hb)
         have n9_ := Aside0.mk (ho)
         clear HO_6
         clear HO_49
         clear HO_306002
         clear BK291
         clear BK292
         clear BK305
         clear HO325
         clear HO318
         clear HB
         clear HO_306003
         have HO_6 := n0_
         have HO_49 := n1_
         have HO_306002 := n2_
         have BK291 := n3_
         have BK292 := n4_
         have BK305 := n5_
         have HO325 := n6_
         have HO318 := n7_
         have HB := n8_
         have HO321 := n9_
         clear n0_ n1_ n2_ n3_ n4_ n5_ n6_ n7_ n8_ n9_
         clear ho hb hg hat
         refine hK.out _ _ ⟨(blk_cell BK305.out 0).trans rfl, (blk_cell BK305.out 1).trans rfl, (blk_cell BK305.out 2).trans rfl, (blk_cell BK305.out 3).trans rfl, (blk_cell BK291.out 0).trans rfl, (blk_cell BK291.out 1).trans rfl, (blk_cell BK291.out 2).trans rfl, (blk_cell BK291.out 3).trans rfl, ((HB.out.cell (World.block_lt_of_cell? w _ hw322_0)).trans hw322_0)⟩ (fun hHeld => ?_)
         clear hK K
         refine norm_ (a' := ?_) ?_ ?_
         rotate_left
         (focus
         show Act.put _ (some 77) _ = _
         simp only [Act.put, List.setIfInBounds_toArray, List.set_cons_zero, List.set_cons_succ, i64_w, i32_w]
         rfl
         )
         refine pure_ (i := 14) (N := some 87) (v := ?_) (a' := ?_) #[true, true, true, true, true, true, true, true, true, true, true, true, true, false, true, false, false, false] rfl rfl (any_of HT_.out (by kernel_rfl)) (fun _ _ _ h => h) (Or.inl ⟨by rfl, ?_⟩) ?_ ?_
         rotate_left
         (focus
         intro w'
         go_simp
         with_reducible rfl
         )
         rotate_left
         (focus
         simp only [Act.put, List.setIfInBounds_toArray, List.set_cons_zero, List.set_cons_succ, i64_w, i32_w]
         rfl
         )
         exact norm_ (by simp only [putAll, Act.put, List.setIfInBounds_toArray, List.set_cons_zero, List.set_cons_succ]) (hCont (.slice Ao66 y316.length co66, v320, v324) _ ⟨hHeld, (by (with_reducible repeat (first | apply Kd.N_alloc | apply Kd.N_drewN | apply Kd.N_drew)); exact Kd.N_mono HO318.out (fun _ hk => ⟨hk.1.1, ⟨hk.2, ⟨hk.1.2.2.2.2.1, ⟨hk.1.2.2.2.1, ⟨hk.1.2.2.1, ⟨hk.1.2.1, ⟨hk.1.2.2.2.2.2.1, ⟨hk.1.2.2.2.2.2.2.1, hk.1.2.2.2.2.2.2.2⟩⟩⟩⟩⟩⟩⟩⟩)), (by (with_reducible repeat (first | apply Kd.N_alloc | apply Kd.N_drewN | apply Kd.N_drew)); exact Kd.N_mono HO321.out (fun _ hk => ⟨hk.1, ⟨hk.2.2.2.2.1, ⟨hk.2.2.2.1, ⟨hk.2.2.1, ⟨hk.2.1, ⟨hk.2.2.2.2.2.1, ⟨hk.2.2.2.2.2.2.1, hk.2.2.2.2.2.2.2⟩⟩⟩⟩⟩⟩⟩)), (uR (Kd.R_mono HO325.out (fun _ hk => ⟨hk.1.1, hk.2⟩))), (uR HO_306002.out), (uR (Kd.R_mono HO_49.out (fun _ hk => ⟨hk.1, hk.2.1⟩))), (uR (Kd.R_mono HO_6.out (fun _ hk => ⟨hk.1, hk.2.2⟩))), (uB BK291.out), (uB BK292.out), (uB BK305.out), (by repeat (first | (with_reducible first | exact HB.out | apply below_alloc | apply pw_below_drewN | apply below_drew1 | refine below_set ?_ GE291.out | refine below_set ?_ GE292.out | refine below_set ?_ GE305.out) | exact HB.out))⟩)
         )
         )
         rintro ⟨v317, v320, v324⟩ w67 ⟨hS_, h0_, h1_, h2_, h3_, h4_, h5_, h6_, h7_, h8_, h9_⟩
         have n0_ : Aside0 (Kd.N (Kd.slice 3 (Kd.int .i64)) 38 w67 w.heap.size (fun k_ => (w.heap.size ≤ k_) ∧ some k_ ≠ (v320 : Value).ownBlock ∧ some k_ ≠ (v324 : Value).ownBlock ∧ some k_ ≠ (.slice Ao58 x306002_3.length co58 : Value).ownBlock ∧ some k_ ≠ (.slice (some ad306) t293.length co20 : Value).ownBlock ∧ some k_ ≠ (.slice Ao13 x6_2.length co13 : Value).ownBlock ∧ k_ ≠ gb291 ∧ k_ ≠ gb292 ∧ k_ ≠ gb305) v317 y316) := ⟨h0_⟩
         have n1_ : Aside0 (Kd.N (Kd.slice 3 (Kd.int .i64)) 38 w67 w.heap.size (fun k_ => (w.heap.size ≤ k_) ∧ some k_ ≠ (v324 : Value).ownBlock ∧ some k_ ≠ (.slice Ao58 x306002_3.length co58 : Value).ownBlock ∧ some k_ ≠ (.slice (some ad306) t293.length co20 : Value).ownBlock ∧ some k_ ≠ (.slice Ao13 x6_2.length co13 : Value).ownBlock ∧ k_ ≠ gb291 ∧ k_ ≠ gb292 ∧ k_ ≠ gb305) v320 y319) := ⟨h1_⟩
         have n2_ : Aside0 (Kd.R Kd.bool 4 w67 w.heap.size (fun k_ => (w.heap.size ≤ k_) ∧ some k_ ≠ (.slice Ao58 x306002_3.length co58 : Value).ownBlock) v324 y323) := ⟨h2_⟩
         have n3_ : Aside0 (Kd.R Kd.bool 4 w67 w.heap.size (fun k_ => (w.heap.size ≤ k_) ∧ some k_ ≠ (v324 : Value).ownBlock) (.slice Ao58 x306002_3.length co58) x306002_3) := ⟨h3_⟩
         have n4_ : Aside0 (Kd.R (Kd.int .i64) 3 w67 w.heap.size (fun k_ => (w.heap.size ≤ k_) ∧ some k_ ≠ (.slice Ao13 x6_2.length co13 : Value).ownBlock) (.slice (some ad306) t293.length co20) t293) := ⟨h4_⟩
         have n5_ : Aside0 (Kd.R (Kd.int .i64) 3 w67 w.heap.size (fun k_ => (w.heap.size ≤ k_) ∧ some k_ ≠ (.slice (some ad306) t293.length co20 : Value).ownBlock) (.slice Ao13 x6_2.length co13) x6_2) := ⟨h5_⟩
         have n6_ : Aside0 (w67.heap[gb291]? = some (.cells #[.int .i64 a0_0, .int .i64 a0_1, .slice (some ad322) l0_2.length c0_2, .slice (some ad307) l0_3.length c0_3] 25 (0, 0))) := ⟨h6_⟩
         have n7_ : Aside0 (w67.heap[gb292]? = some (.cells #[.int .i64 0, .int .i64 0, .slice none 0 0, .slice none 0 0] 25 (0, 0))) := ⟨h7_⟩
         have n8_ : Aside0 (w67.heap[gb305]? = some (.cells #[.int .i64 a0_0, .int .i64 0, .slice Ao58 x306002_3.length co58, .slice Ao57 x306003_3.length co57] 25 (0, 0))) := ⟨h8_⟩
         have n9_ : Aside0 (Below w.heap.size w w67) := ⟨h9_⟩
         clear HO_6
         clear HO_13
         clear HO_49
         clear HO_306002
         clear HO_306003
         clear BK291
         clear BK292
         clear BK305
         clear HB
         clear h0_ h1_ h2_ h3_ h4_ h5_ h6_ h7_ h8_ h9_
         have HO318 := n0_
         have HO321 := n1_
         have HO325 := n2_
         have HO_306002 := n3_
         have HO_49 := n4_
         have HO_6 := n5_
         have BK291 := n6_
         have BK292 := n7_
         have BK305 := n8_
         have HB := n9_
         clear n0_ n1_ n2_ n3_ n4_ n5_ n6_ n7_ n8_ n9_
         have hHeld : w67.cell? ⟨gb305, 0, none⟩ = some (.int .i64 a0_0) ∧ w67.cell? ⟨gb305, 1, none⟩ = some (.int .i64 0) ∧ w67.cell? ⟨gb305, 2, none⟩ = some (.slice Ao58 x306002_3.length co58) ∧ w67.cell? ⟨gb305, 3, none⟩ = some (.slice Ao57 x306003_3.length co57) ∧ w67.cell? ⟨gb291, 0, none⟩ = some (.int .i64 a0_0) ∧ w67.cell? ⟨gb291, 1, none⟩ = some (.int .i64 a0_1) ∧ w67.cell? ⟨gb291, 2, none⟩ = some (.slice (some ad322) l0_2.length c0_2) ∧ w67.cell? ⟨gb291, 3, none⟩ = some (.slice (some ad307) l0_3.length c0_3) ∧ w67.cell? (ad322.add ((rd t293 x51_3)).toNat) = some (.bool (rdOf false l0_2 (rd t293 x51_3))) := hS_
         obtain ⟨Ao69, co69, eo69⟩ := Kd.R_slice HO325.out
         (first | subst eo69 | (injection eo69 with f1_ f2_ f3_; have f4_ := f1_.symm; have f5_ := f3_.symm; clear f1_ f2_ f3_; subst f4_; subst f5_))
         refine norm_ (a' := ?_) ?_ ?_
         rotate_left
         (focus
         simp only [putAll, Act.put, List.setIfInBounds_toArray, List.set_cons_zero, List.set_cons_succ]
         rfl
         )
         refine one_ (i := 13) (N := some 86) #[true, true, true, true, true, true, true, true, true, true, true, true, true, true, true, false, false, false] rfl rfl (one_of HT_.out (by kernel_rfl)) (by decide) (fun K hK => ?_)
         refine Kd.R_append_rows_step Kd.bool (w0 := w) w.heap.size (by rfl) (.tmp 79) (.tmp 85) 22 4 (.bool false) 1 rfl Try.underlying22 info4 rfl (by decide) (by omega) (.slice Ao58 x306002_3.length co58) x306002_3 y323 _ _ _ (fun k_ => (w.heap.size ≤ k_) ∧ some k_ ≠ (.slice Ao69 y323.length co69 : Value).ownBlock) (fun _ => False) rfl rfl ?aO ?aR (fun _ _ h => h) (fun _ h => h.elim) ?aF ?aB ?aS ?aL ?_
         (case aR => repeat (first | exact (Kd.R_reads' HO325.out).2.2 | (with_reducible refine Kd.C_alloc ?_ _) | (with_reducible refine Kd.C_drewN ?_ _) | (with_reducible refine Kd.C_drew ?_)))
         (case aB => exact (by repeat (first | (with_reducible first | exact HB.out | apply below_alloc | apply pw_below_drewN | apply below_drew1 | refine below_set ?_ GE291.out | refine below_set ?_ GE292.out | refine below_set ?_ GE305.out) | exact HB.out)))
         (case aF => exact (fun k_ hk => ⟨(Nat.le_trans (below_size (by repeat (first | (with_reducible first | exact HB.out | apply below_alloc | apply pw_below_drewN | apply below_drew1 | refine below_set ?_ GE291.out | refine below_set ?_ GE292.out | refine below_set ?_ GE305.out) | exact HB.out))) hk), Kd.fresh' (Kd.R_lt (uR HO325.out)) k_ hk⟩))
         (case aO => exact (uR HO_306002.out))
         (case aS => exact (below_size (by repeat (first | (with_reducible first | exact HB.out | apply below_alloc | apply pw_below_drewN | apply below_drew1 | refine below_set ?_ GE291.out | refine below_set ?_ GE292.out | refine below_set ?_ GE305.out) | exact HB.out))))
         (case aL => have := LMc56.out; omega)
         intro v327 w68 ho hb hg hat
         rw [← Ny326.out] at ho
         have n0_ := Aside0.mk (Kd.R_over' (uR HO_6.out) (Kd.R_typed (uR HO_306002.out)) (by decide) hg)
         have n1_ := Aside0.mk (Kd.R_over' (uR HO_49.out) (Kd.R_typed (uR HO_306002.out)) (by decide) hg)
         have n2_ := Aside0.mk (blk_grown (g := gb291) (o := .cells #[.int .i64 a0_0, .int .i64 a0_1, .slice (some ad322) l0_2.length c0_2, .slice (some ad307) l0_3.length c0_3] 25 (0, 0)) (uB BK291.out) hg (Kd.R_ne HO_306002.out BK291.out (by decide)))
         have n3_ := Aside0.mk (blk_grown (g := gb292) (o := .cells #[.int .i64 0, .int .i64 0, .slice none 0 0, .slice none 0 0] 25 (0, 0)) (uB BK292.out) hg (Kd.R_ne HO_306002.out BK292.out (by decide)))
         have n4_ := Aside0.mk (blk_grown (g := gb305) (o := .cells #[.int .i64 a0_0, .int .i64 0, .slice Ao58 x306002_3.length co58, .slice Ao57 x306003_3.length co57] 25 (0, 0)) (uB BK305.out) hg (Kd.R_ne HO_306002.out BK305.out (by decide)))
         have n5_ := Aside0.mk (Kd.N_afterv (ok := (fun k_ => (w.heap.size ≤ k_) ∧ some k_ ≠ (.slice Ao13 x6_2.length co13 : Value).ownBlock ∧ some k_ ≠ (.slice (some ad306) t293.length co20 : Value).ownBlock ∧ some k_ ≠ (v320 : Value).ownBlock ∧ some k_ ≠ (.slice Ao69 y323.length co69 : Value).ownBlock ∧ k_ ≠ gb291 ∧ k_ ≠ gb292 ∧ k_ ≠ gb305)) (by (with_reducible repeat (first | apply Kd.N_alloc | apply Kd.N_drewN | apply Kd.N_drew)); exact Kd.N_mono HO318.out (fun _ hk => ⟨⟨hk.1, ⟨hk.2.2.2.2.2.1, ⟨hk.2.2.2.2.1, ⟨hk.2.1, ⟨hk.2.2.1, ⟨hk.2.2.2.2.2.2.1, ⟨hk.2.2.2.2.2.2.2.1, hk.2.2.2.2.2.2.2.2⟩⟩⟩⟩⟩⟩⟩, hk.2.2.2.1⟩)) hg hat)
         have n6_ := Aside0.mk (Kd.N_afterv (ok := (fun k_ => (w.heap.size ≤ k_) ∧ some k_ ≠ (.slice Ao13 x6_2.length co13 : Value).ownBlock ∧ some k_ ≠ (.slice (some ad306) t293.length co20 : Value).ownBlock ∧ some k_ ≠ (.slice Ao69 y323.length co69 : Value).ownBlock ∧ k_ ≠ gb291 ∧ k_ ≠ gb292 ∧ k_ ≠ gb305)) (by (with_reducible repeat (first | apply Kd.N_alloc | apply Kd.N_drewN | apply Kd.N_drew)); exact Kd.N_mono HO321.out (fun _ hk => ⟨⟨hk.1, ⟨hk.2.2.2.2.1, ⟨hk.2.2.2.1, ⟨hk.2.1, ⟨hk.2.2.2.2.2.1, ⟨hk.2.2.2.2.2.2.1, hk.2.2.2.2.2.2.2⟩⟩⟩⟩⟩⟩, hk.2.2.1⟩)) hg hat)
         have n7_ := Aside0.mk (Kd.R_after (ok := (fun k_ => (w.heap.size ≤ k_))) (uR HO325.out) hg hat)
         have n8_ := Aside0.mk (hb)
         have n9_ := Aside0.mk (ho)
         clear HO_6
         clear HO_49
         clear BK291
         clear BK292
         clear BK305
         clear HO318
         clear HO321
         clear HO325
         clear HB
         clear HO_306002
         have HO_6 := n0_
         have HO_49 := n1_
         have BK291 := n2_
         have BK292 := n3_
         have BK305 := n4_
         have HO318 := n5_
         have HO321 := n6_
         have HO325 := n7_
         have HB := n8_
         have HO328 := n9_
         clear n0_ n1_ n2_ n3_ n4_ n5_ n6_ n7_ n8_ n9_
         clear ho hb hg hat
         obtain ⟨Ao70, co70, eo70⟩ := Kd.N_slice HO321.out
         (first | subst eo70 | (injection eo70 with f1_ f2_ f3_; have f4_ := f1_.symm; have f5_ := f3_.symm; clear f1_ f2_ f3_; subst f4_; subst f5_))
         obtain ⟨Ao72, co72, eo72⟩ := Kd.R_slice HO328.out
         (first | subst eo72 | (injection eo72 with f1_ f2_ f3_; have f4_ := f1_.symm; have f5_ := f3_.symm; clear f1_ f2_ f3_; subst f4_; subst f5_))
         refine hK.out _ _ ⟨(blk_cell BK305.out 0).trans rfl, (blk_cell BK305.out 1).trans rfl, (blk_cell BK305.out 2).trans rfl, (blk_cell BK305.out 3).trans rfl, (blk_cell BK291.out 0).trans rfl, (blk_cell BK291.out 1).trans rfl, (blk_cell BK291.out 2).trans rfl, (blk_cell BK291.out 3).trans rfl, ((HB.out.cell (World.block_lt_of_cell? w _ hw322_0)).trans hw322_0)⟩ (fun hHeld => ?_)
         clear hK K
         refine norm_ (a' := ?_) ?_ ?_
         rotate_left
         (focus
         show Act.put _ (some 86) _ = _
         simp only [Act.put, List.setIfInBounds_toArray, List.set_cons_zero, List.set_cons_succ, i64_w, i32_w]
         rfl
         )
         refine last_ (i := 15) (N := none) #[true, true, true, true, true, true, true, true, true, true, true, true, true, true, true, true, false, false] rfl rfl (one_of HT_.out (by kernel_rfl)) (by decide) (fun K hK => ?_)
         have hs71 : w68.cell? ⟨gb305, 3, none⟩ = some (.slice Ao57 x306003_3.length co57) := (blk_cell BK305.out 3).trans rfl
         have hfs71 := blk_frozen BK305.out 3
         have hns71_0 := NB291_305.out
         have hns71_1 := NB292_305.out
         have hms71_0 := NB305_291.out
         have hms71_1 := NB305_292.out
         refine skip_ (w1 := ?_) (by rfl) rfl ?_ ?_
         rotate_left
         (focus
         go_simp
         rfl
         )
         refine hK.out _ _ ?_
         clear hK K
         refine pure_ (i := 16) (N := some 88) (v := ?_) (a' := ?_) #[true, true, true, true, true, true, true, true, true, true, true, true, true, true, true, true, true, false] rfl rfl (any_of HT_.out (by kernel_rfl)) (fun _ _ _ h => h) (Or.inl ⟨by rfl, ?_⟩) ?_ ?_
         rotate_left
         (focus
         intro w'
         go_simp
         with_reducible rfl
         )
         rotate_left
         (focus
         simp only [Act.put, List.setIfInBounds_toArray, List.set_cons_zero, List.set_cons_succ, i64_w, i32_w]
         rfl
         )
         refine last_ (i := 17) (N := none) #[true, true, true, true, true, true, true, true, true, true, true, true, true, true, true, true, true, true] rfl rfl (one_of HT_.out (by kernel_rfl)) (by decide) (fun K hK => ?_)
         have hs73 : w68.cell? ⟨gb305, 2, none⟩ = some (.slice Ao58 x306002_3.length co58) := (blk_cell BK305.out 2).trans rfl
         have hfs73 := blk_frozen BK305.out 2
         have hns73_0 := NB291_305.out
         have hns73_1 := NB292_305.out
         have hms73_0 := NB305_291.out
         have hms73_1 := NB305_292.out
         refine skip_ (w1 := ?_) (by rfl) rfl ?_ ?_
         rotate_left
         (focus
         go_simp
         rfl
         )
         refine hK.out _ _ ?_
         clear hK K
         refine done_ (done_of HT_.out (by kernel_rfl)) ?_
         try go_wp2
         go_roundg k4
         case measure => have := HK1.out; have := HK2.out; have := HK3.out; have := HK4.out; omega
         case rel => exact ⟨(wrap64 (x51_3 + 1)), (y326), (y319), (.slice Ao72 y326.length co72), (.slice Ao70 y319.length co70), (by first | rfl | (simp; done) | (simp [*]; done)), H', ⟨by have := HK1.out; have := HK2.out; have := HK3.out; have := HK4.out; omega⟩, ⟨by (try simp only [hl6_1]); (try simp only [hl6_2]); (with_reducible repeat (first | apply Kd.R_alloc | apply Kd.R_drewN | apply Kd.R_drew)); exact Kd.R_mono (Kd.R_far (p := ⟨gb305, 2, none⟩) (Kd.R_far (p := ⟨gb305, 3, none⟩) (Kd.R_types HO_6.out BK305.out (by decide)) (fun _ hk => hk.2) (.slice Ao70 y319.length co70)) (fun _ hk => hk.2) (.slice Ao72 y326.length co72)) (fun _ hk => ⟨hk.1.1, hk.1.2⟩)⟩, ⟨by (try simp only [hl6_1]); (try simp only [hl6_2]); (with_reducible repeat (first | apply Kd.R_alloc | apply Kd.R_drewN | apply Kd.R_drew)); exact Kd.R_mono (Kd.R_far (p := ⟨gb305, 2, none⟩) (Kd.R_far (p := ⟨gb305, 3, none⟩) (Kd.R_types HO_49.out BK305.out (by decide)) (fun _ hk => hk.2) (.slice Ao70 y319.length co70)) (fun _ hk => hk.2) (.slice Ao72 y326.length co72)) (fun _ hk => ⟨hk.1.1, hk.1.2⟩)⟩, ⟨by (try simp only [hl6_1]); (try simp only [hl6_2]); (with_reducible repeat (first | apply Kd.R_alloc | apply Kd.R_drewN | apply Kd.R_drew)); exact Kd.R_mono (Kd.R_far (p := ⟨gb305, 2, none⟩) (Kd.R_far (p := ⟨gb305, 3, none⟩) (Kd.R_types HO328.out BK305.out (by decide)) (fun _ hk => hk.2) (.slice Ao70 y319.length co70)) (fun _ hk => hk.2) (.slice Ao72 y326.length co72)) (fun _ hk => hk.1.1)⟩, ⟨by (try simp only [hl6_1]); (try simp only [hl6_2]); (with_reducible repeat (first | apply Kd.N_alloc | apply Kd.N_drewN | apply Kd.N_drew)); exact Kd.N_mono (Kd.N_far (p := ⟨gb305, 2, none⟩) (Kd.N_far (p := ⟨gb305, 3, none⟩) (Kd.N_mono HO321.out (fun k_ hk => (⟨hk, hk.1.2.2.2.2.2.2⟩ : _ ∧ k_ ≠ gb305))) (fun _ hk => hk.2) (.slice Ao70 y319.length co70)) (fun _ hk => hk.2) (.slice Ao72 y326.length co72)) (fun _ hk => ⟨hk.1.1.1, ⟨hk.1.1.2.1, ⟨hk.1.1.2.2.1, ⟨hk.1.2, ⟨hk.1.1.2.2.2.2.1, ⟨hk.1.1.2.2.2.2.2.1, hk.1.1.2.2.2.2.2.2⟩⟩⟩⟩⟩⟩)⟩, ⟨by (try simp only [hl6_1]); (try simp only [hl6_2]); (with_reducible repeat (first | refine blk_drewN ?_ _ | refine blk_drew ?_ | refine blk_alloc ?_ _)); refine blk_far ?_ NB291_305.out _; (with_reducible repeat (first | refine blk_drewN ?_ _ | refine blk_drew ?_ | refine blk_alloc ?_ _)); refine blk_far ?_ NB291_305.out _; (with_reducible repeat (first | refine blk_drewN ?_ _ | refine blk_drew ?_ | refine blk_alloc ?_ _)); exact BK291.out⟩, ⟨by (try simp only [hl6_1]); (try simp only [hl6_2]); (with_reducible repeat (first | refine blk_drewN ?_ _ | refine blk_drew ?_ | refine blk_alloc ?_ _)); refine blk_far ?_ NB292_305.out _; (with_reducible repeat (first | refine blk_drewN ?_ _ | refine blk_drew ?_ | refine blk_alloc ?_ _)); refine blk_far ?_ NB292_305.out _; (with_reducible repeat (first | refine blk_drewN ?_ _ | refine blk_drew ?_ | refine blk_alloc ?_ _)); exact BK292.out⟩, ⟨by (try simp only [hl6_1]); (try simp only [hl6_2]); (with_reducible repeat (first | refine blk_drewN ?_ _ | refine blk_drew ?_ | refine blk_alloc ?_ _)); refine blk_put (cs := #[.int .i64 a0_0, .int .i64 0, .slice Ao58 x306002_3.length co58, .slice Ao70 y319.length co70]) ?_ 2 _ rfl; (with_reducible repeat (first | refine blk_drewN ?_ _ | refine blk_drew ?_ | refine blk_alloc ?_ _)); refine blk_put (cs := #[.int .i64 a0_0, .int .i64 0, .slice Ao58 x306002_3.length co58, .slice Ao57 x306003_3.length co57]) ?_ 3 _ rfl; (with_reducible repeat (first | refine blk_drewN ?_ _ | refine blk_drew ?_ | refine blk_alloc ?_ _)); exact BK305.out⟩, ⟨by repeat (first | (with_reducible first | exact HB.out | apply below_alloc | apply pw_below_drewN | apply below_drew1 | refine below_set ?_ GE291.out | refine below_set ?_ GE292.out | refine below_set ?_ GE305.out) | exact HB.out)⟩⟩
         )
         (focus
         rw [if_neg c56] at H
         exact absurd H (by simp)
         )
         )
         (focus
         rw [if_neg c55] at H
         exact absurd H (by simp)
         )
         )
         (focus
         rw [if_neg c54] at H
         exact absurd H (by simp)
         )
         )
         (focus
         rw [if_neg c53] at H
         exact absurd H (by simp)
         )
         )
       )
       (focus
       rw [if_neg c39] at H
       exact absurd H (by simp)
       )
       )
       (focus
       rw [if_neg c38] at H
       exact absurd H (by simp)
       )
       )
       (focus
       rw [if_neg c37] at H
       exact absurd H (by simp)
       )
       )
       (focus
       rw [if_neg c36] at H
       exact absurd H (by simp)
       )
       )
       (focus
       rw [if_neg c35] at H
       have c35b0 : decide (x51_3 < (t293.length : Int)) = false := decide_eq_false c35
       (try (have c35b0_hl6_1 := c35b0; simp only [hl6_1] at c35b0_hl6_1))
       (try (have c35b0_hl6_2 := c35b0; simp only [hl6_2] at c35b0_hl6_2))
       clear c35
       simp only [Option.some.injEq, Prod.mk.injEq] at H
       obtain ⟨rfl, rfl, rfl, rfl, rfl⟩ := H
       have hnb74 := NB305_291.out
       have hnc74 := NB291_305.out
       have hnb75 := NB305_292.out
       have hnc75 := NB292_305.out
       have hcz76_0 : wr.cell? ⟨gb305, 0, none⟩ = some (.int .i64 a0_0) := (blk_cell BK305.out 0).trans rfl
       have hcz76_1 : wr.cell? ⟨gb305, 1, none⟩ = some (.int .i64 0) := (blk_cell BK305.out 1).trans rfl
       have hcz76_2 : wr.cell? ⟨gb305, 2, none⟩ = some (u306002) := (blk_cell BK305.out 2).trans rfl
       have hcz76_3 : wr.cell? ⟨gb305, 3, none⟩ = some (u306003) := (blk_cell BK305.out 3).trans rfl
       have hfz76_0 := blk_frozen BK305.out 0
       have hfz76_1 := blk_frozen BK305.out 1
       have hfz76_2 := blk_frozen BK305.out 2
       have hfz76_3 := blk_frozen BK305.out 3
       have hnb77 := NB292_291.out
       have hnc77 := NB291_292.out
       have hcz78_0 : wr.cell? ⟨gb292, 0, none⟩ = some (.int .i64 0) := (blk_cell BK292.out 0).trans rfl
       have hcz78_1 : wr.cell? ⟨gb292, 1, none⟩ = some (.int .i64 0) := (blk_cell BK292.out 1).trans rfl
       have hcz78_2 : wr.cell? ⟨gb292, 2, none⟩ = some (.slice none 0 0) := (blk_cell BK292.out 2).trans rfl
       have hcz78_3 : wr.cell? ⟨gb292, 3, none⟩ = some (.slice none 0 0) := (blk_cell BK292.out 3).trans rfl
       have hfz78_0 := blk_frozen BK292.out 0
       have hfz78_1 := blk_frozen BK292.out 1
       have hfz78_2 := blk_frozen BK292.out 2
       have hfz78_3 := blk_frozen BK292.out 3
       obtain ⟨Ao79, co79, eo79⟩ := Kd.R_slice HO_306002.out
       subst eo79
       obtain ⟨Ao80, co80, eo80⟩ := Kd.N_slice HO_306003.out
       subst eo80
       go_wp2
       refine bodyPost_ret (results_ct rfl _ _ gb292 25 #[.int .i64 a0_0, .int .i64 0, .slice Ao79 x306002_3.length co79, .slice Ao80 x306003_3.length co80] (0, 0) _ rfl (by (with_reducible repeat (first | refine blk_drewN ?_ _ | refine blk_drew ?_ | refine blk_alloc ?_ _)); refine blk_put (cs := #[.int .i64 a0_0, .int .i64 0, .slice Ao79 x306002_3.length co79, .slice none 0 0]) ?_ 3 _ rfl; (with_reducible repeat (first | refine blk_drewN ?_ _ | refine blk_drew ?_ | refine blk_alloc ?_ _)); refine blk_put (cs := #[.int .i64 a0_0, .int .i64 0, .slice none 0 0, .slice none 0 0]) ?_ 2 _ rfl; (with_reducible repeat (first | refine blk_drewN ?_ _ | refine blk_drew ?_ | refine blk_alloc ?_ _)); refine blk_put (cs := #[.int .i64 a0_0, .int .i64 0, .slice none 0 0, .slice none 0 0]) ?_ 1 _ rfl; (with_reducible repeat (first | refine blk_drewN ?_ _ | refine blk_drew ?_ | refine blk_alloc ?_ _)); refine blk_put (cs := #[.int .i64 0, .int .i64 0, .slice none 0 0, .slice none 0 0]) ?_ 0 _ rfl; (with_reducible repeat (first | refine blk_drewN ?_ _ | refine blk_drew ?_ | refine blk_alloc ?_ _)); exact BK292.out) Try.underlying25 rfl (by kernel_rfl)) rfl ?_
       exact ⟨_, _, _, by first | rfl | (simp [errW_none, errW_some] <;> rfl) | (simp [*, errW_none, errW_some] <;> rfl), (by first | exact (uR (Kd.R_mono (Kd.R_far (p := ⟨gb292, 3, none⟩) (Kd.R_far (p := ⟨gb292, 2, none⟩) (Kd.R_far (p := ⟨gb292, 1, none⟩) (Kd.R_far (p := ⟨gb292, 0, none⟩) (Kd.R_types HO_306002.out BK292.out (by decide)) (fun _ hk => hk.2) (.int .i64 a0_0)) (fun _ hk => hk.2) (.int .i64 0)) (fun _ hk => hk.2) (.slice Ao79 x306002_3.length co79)) (fun _ hk => hk.2) (.slice Ao80 x306003_3.length co80)) (fun _ hk => hk.1))) | (simp only [hl6_1, hl6_2]; exact (uR (Kd.R_mono (Kd.R_far (p := ⟨gb292, 3, none⟩) (Kd.R_far (p := ⟨gb292, 2, none⟩) (Kd.R_far (p := ⟨gb292, 1, none⟩) (Kd.R_far (p := ⟨gb292, 0, none⟩) (Kd.R_types HO_306002.out BK292.out (by decide)) (fun _ hk => hk.2) (.int .i64 a0_0)) (fun _ hk => hk.2) (.int .i64 0)) (fun _ hk => hk.2) (.slice Ao79 x306002_3.length co79)) (fun _ hk => hk.2) (.slice Ao80 x306003_3.length co80)) (fun _ hk => hk.1))))), (by first | exact (by (with_reducible repeat (first | apply Kd.N_alloc | apply Kd.N_drewN | apply Kd.N_drew)); exact Kd.N_mono (Kd.N_far (p := ⟨gb292, 3, none⟩) (Kd.N_far (p := ⟨gb292, 2, none⟩) (Kd.N_far (p := ⟨gb292, 1, none⟩) (Kd.N_far (p := ⟨gb292, 0, none⟩) (Kd.N_mono HO_306003.out (fun k_ hk => (⟨hk, hk.2.2.2.2.2.1⟩ : _ ∧ k_ ≠ gb292))) (fun _ hk => hk.2) (.int .i64 a0_0)) (fun _ hk => hk.2) (.int .i64 0)) (fun _ hk => hk.2) (.slice Ao79 x306002_3.length co79)) (fun _ hk => hk.2) (.slice Ao80 x306003_3.length co80)) (fun _ hk => ⟨hk.1.1, ⟨hk.1.2.2.2.1, hk.1.2.1⟩⟩)) | (simp only [hl6_1, hl6_2]; exact (by (with_reducible repeat (first | apply Kd.N_alloc | apply Kd.N_drewN | apply Kd.N_drew)); exact Kd.N_mono (Kd.N_far (p := ⟨gb292, 3, none⟩) (Kd.N_far (p := ⟨gb292, 2, none⟩) (Kd.N_far (p := ⟨gb292, 1, none⟩) (Kd.N_far (p := ⟨gb292, 0, none⟩) (Kd.N_mono HO_306003.out (fun k_ hk => (⟨hk, hk.2.2.2.2.2.1⟩ : _ ∧ k_ ≠ gb292))) (fun _ hk => hk.2) (.int .i64 a0_0)) (fun _ hk => hk.2) (.int .i64 0)) (fun _ hk => hk.2) (.slice Ao79 x306002_3.length co79)) (fun _ hk => hk.2) (.slice Ao80 x306003_3.length co80)) (fun _ hk => ⟨hk.1.1, ⟨hk.1.2.2.2.1, hk.1.2.1⟩⟩)))), (by first | exact (uR (Kd.R_mono (Kd.R_far (p := ⟨gb292, 3, none⟩) (Kd.R_far (p := ⟨gb292, 2, none⟩) (Kd.R_far (p := ⟨gb292, 1, none⟩) (Kd.R_far (p := ⟨gb292, 0, none⟩) (Kd.R_types HO_6.out BK292.out (by decide)) (fun _ hk => hk.2) (.int .i64 a0_0)) (fun _ hk => hk.2) (.int .i64 0)) (fun _ hk => hk.2) (.slice Ao79 x306002_3.length co79)) (fun _ hk => hk.2) (.slice Ao80 x306003_3.length co80)) (fun _ hk => hk.1.1))) | (simp only [hl6_1, hl6_2]; exact (uR (Kd.R_mono (Kd.R_far (p := ⟨gb292, 3, none⟩) (Kd.R_far (p := ⟨gb292, 2, none⟩) (Kd.R_far (p := ⟨gb292, 1, none⟩) (Kd.R_far (p := ⟨gb292, 0, none⟩) (Kd.R_types HO_6.out BK292.out (by decide)) (fun _ hk => hk.2) (.int .i64 a0_0)) (fun _ hk => hk.2) (.int .i64 0)) (fun _ hk => hk.2) (.slice Ao79 x306002_3.length co79)) (fun _ hk => hk.2) (.slice Ao80 x306003_3.length co80)) (fun _ hk => hk.1.1))))), by repeat (first | (with_reducible first | exact HB.out | apply below_alloc | apply pw_below_drewN | apply below_drew1 | refine below_set ?_ GE291.out | refine below_set ?_ GE292.out | refine below_set ?_ GE305.out) | exact HB.out)⟩
       )
     )
   )
 )
 (focus
 rw [if_neg c4] at H
 exact absurd H (by simp)
 )
 )
 (focus
 rw [if_neg c3] at H
 exact absurd H (by simp)
 )
end Go.Proofs.Ytpjbmgoagehjkaa.PDfaTrims
