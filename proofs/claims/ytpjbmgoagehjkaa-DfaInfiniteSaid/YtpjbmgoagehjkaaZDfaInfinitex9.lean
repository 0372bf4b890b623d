import Derived.Test.YtpjbmgoagehjkaaZDfaInfinitex0
namespace Go.Proofs.Ytpjbmgoagehjkaa.PDfaInfinite
open Go.RowKit Go.Proofs.YtpjbmgoagehjkaaH Go.Proofs.YtpjbmgoagehjkaaW.PrintWords Go.Proofs.YtpjbmgoagehjkaaW.PrintLast Go.Proofs.YtpjbmgoagehjkaaW.PrintMore
attribute [local go_sem] max2_int min2_int max_two min_two max_three min_three max_four min_four   -- for this text's walks alone
set_option linter.unusedVariables false
set_option linter.unusedSimpArgs false
/-! ### semigroupref07_Access: function 49 -/
mutual
def semigroupref07_Access.l0 : Nat → List Int → List ByteArray → List Bool → Int → Int → Int → List Bool → List (List Int) → Option (List Int × List ByteArray)
 | 0, _, _, _, _, _, _, _, _ => none
 | k + 1, x4, x5, x6, x7, x269000, x269001, x269002, x269003 => if x7 < (x4.length : Int) then (semigroupref07_Access.l1 k x4 x5 x6 x7 0 x269000 x269001 x269002 x269003) else (some (x4, x5))
def semigroupref07_Access.l1 : Nat → List Int → List ByteArray → List Bool → Int → Int → Int → Int → List Bool → List (List Int) → Option (List Int × List ByteArray)
 | 0, _, _, _, _, _, _, _, _, _ => none
 | k + 1, x4, x5, x6, x7, x8, x269000, x269001, x269002, x269003 => if x8 < x269000 then (if 0 ≤ x7 then (if x7 < (x4.length : Int) then (if 0 ≤ (rd x4 x7) then (if (rd x4 x7) < (x269003.length : Int) then (if 0 ≤ x8 then (if x8 < ((rd_L1 x269003 (rd x4 x7)).length : Int) then (if 0 ≤ (rd (rd_L1 x269003 (rd x4 x7)) x8) then (if (rd (rd_L1 x269003 (rd x4 x7)) x8) < (x6.length : Int) then (if (rdOf false x6 (rd (rd_L1 x269003 (rd x4 x7)) x8) = true) then (semigroupref07_Access.l1 k x4 x5 x6 x7 (wrap64 (x8 + 1)) x269000 x269001 x269002 x269003) else ((some (([rd (rd_L1 x269003 (rd x4 x7)) x8] : List Int) : List Int)).bind fun y284 => (if x4.length + y284.length < 17592186044416 then (if x7 < (x5.length : Int) then ((some (([(wrap64 (97 + x8)) % 256] : List Int) : List Int)).bind fun y291 => (if (rdOf ByteArray.empty x5 x7).size + (strOfNums y291).size ≤ 9223372036854775807 then ((some (([(rdOf ByteArray.empty x5 x7) ++ (strOfNums y291)] : List ByteArray) : List ByteArray)).bind fun y294 => (if x5.length + y294.length < 8796093022208 then (semigroupref07_Access.l1 k (x4 ++ y284) (x5 ++ y294) (x6.set ((rd (rd_L1 x269003 (rd x4 x7)) x8) : Int).toNat true) x7 (wrap64 (x8 + 1)) x269000 x269001 x269002 x269003) else (none))) else (none))) else (none)) else (none)))) else (none)) else (none)) else (none)) else (none)) else (none)) else (none)) else (none)) else (none)) else (semigroupref07_Access.l0 k x4 x5 x6 (wrap64 (x7 + 1)) x269000 x269001 x269002 x269003)
end
def semigroupref07_Access.f (k : Nat) (a0_0 : Int) (a0_1 : Int) (l0_2 : List Bool) (l0_3 : List (List Int)) : Option (List Int × List ByteArray) := if 0 ≤ (l0_2.length : Int) then (if ((l0_2.length : Int) : Int).toNat ≤ 281474976710656 then ((some (List.replicate ((l0_2.length : Int) : Int).toNat false : List Bool)).bind fun y275 => (if 0 ≤ a0_1 then (if a0_1 < (y275.length : Int) then (semigroupref07_Access.l0 k (([a0_1] : List Int)) (([(⟨#[]⟩ : ByteArray)] : List ByteArray)) (y275.set (a0_1 : Int).toNat true) 0 a0_0 a0_1 l0_2 l0_3) else (none)) else (none))) else (none)) else (none)
theorem semigroupref07_Access.mono_l : ∀ k, (∀ y0 y1 y2 y3 y4 y5 y6 y7, LeO (semigroupref07_Access.l0 k y0 y1 y2 y3 y4 y5 y6 y7) (semigroupref07_Access.l0 (k + 1) y0 y1 y2 y3 y4 y5 y6 y7)) ∧ (∀ y0 y1 y2 y3 y4 y5 y6 y7 y8, LeO (semigroupref07_Access.l1 k y0 y1 y2 y3 y4 y5 y6 y7 y8) (semigroupref07_Access.l1 (k + 1) y0 y1 y2 y3 y4 y5 y6 y7 y8))
 | 0 => ⟨fun _ _ _ _ _ _ _ _ r h => by simp [semigroupref07_Access.l0] at h, fun _ _ _ _ _ _ _ _ _ r h => by simp [semigroupref07_Access.l1] at h⟩
 | k + 1 => by
  obtain ⟨ih0, ih1⟩ := semigroupref07_Access.mono_l k
  refine ⟨?_, ?_⟩
  (focus
  intro y0 y1 y2 y3 y4 y5 y6 y7
  unfold semigroupref07_Access.l0
  repeat' first
  | (with_reducible exact ih0 _ _ _ _ _ _ _ _)
  | (with_reducible exact ih1 _ _ _ _ _ _ _ _ _)
  | (with_reducible exact LeO.refl _)
  | (with_reducible exact LeO.none _)
  | (with_reducible refine LeO.ite ?_ ?_)
  | (with_reducible refine LeO.bind ?_ (fun _ => ?_))
  | exact ih0 _ _ _ _ _ _ _ _
  | exact ih1 _ _ _ _ _ _ _ _ _
  | exact LeO.none _
  | refine LeO.ite ?_ ?_
  | refine LeO.bind ?_ (fun _ => ?_)
  )
  (focus
  intro y0 y1 y2 y3 y4 y5 y6 y7 y8
  unfold semigroupref07_Access.l1
  repeat' first
  | (with_reducible exact ih0 _ _ _ _ _ _ _ _)
  | (with_reducible exact ih1 _ _ _ _ _ _ _ _ _)
  | (with_reducible exact LeO.refl _)
  | (with_reducible exact LeO.none _)
  | (with_reducible refine LeO.ite ?_ ?_)
  | (with_reducible refine LeO.bind ?_ (fun _ => ?_))
  | exact ih0 _ _ _ _ _ _ _ _
  | exact ih1 _ _ _ _ _ _ _ _ _
  | exact LeO.none _
  | refine LeO.ite ?_ ?_
  | refine LeO.bind ?_ (fun _ => ?_)
  )
theorem semigroupref07_Access.mono : ∀ a0 a1 a2 a3 k, LeO (semigroupref07_Access.f k a0 a1 a2 a3) (semigroupref07_Access.f (k + 1) a0 a1 a2 a3) := by
 intro a0 a1 a2 a3 k
 obtain ⟨ih0, ih1⟩ := semigroupref07_Access.mono_l k
 unfold semigroupref07_Access.f
 repeat' first
  | (with_reducible exact ih0 _ _ _ _ _ _ _ _)
  | (with_reducible exact ih1 _ _ _ _ _ _ _ _ _)
  | (with_reducible exact LeO.refl _)
  | (with_reducible exact LeO.none _)
  | (with_reducible refine LeO.ite ?_ ?_)
  | (with_reducible refine LeO.bind ?_ (fun _ => ?_))
  | exact ih0 _ _ _ _ _ _ _ _
  | exact ih1 _ _ _ _ _ _ _ _ _
  | exact LeO.none _
  | refine LeO.ite ?_ ?_
  | refine LeO.bind ?_ (fun _ => ?_)
def semigroupref07_Access.T10 : Bool × List (List Nat × List Nat) := (true, [([], []), ([0], [0]), ([], []), ([], []), ([2, 3], [2, 3]), ([4], [4]), ([1, 5], [1, 5]), ([6], [6]), ([], []), ([7, 8], [7, 8]), ([9], [9]), ([10, 0, 1, 2, 3, 4, 5, 6, 7, 8, 9, 10], [10])])
def semigroupref07_Access.B10 : List Nat := [0, 1, 0, 0, 12, 28, 63, 127, 0, 511, 1023, 2047]
theorem semigroupref07_Access.tab10 : rtab .any (opsOf Try.f49 10) = semigroupref07_Access.T10 := by kernel_rfl
theorem semigroupref07_Access.bits10 : waitsOk semigroupref07_Access.T10.2 semigroupref07_Access.B10 = true := by kernel_rfl
def semigroupref07_Access.T13 : Bool × List (List Nat × List Nat) := (true, [([], []), ([], []), ([1], [1]), ([0, 2], [0, 2]), ([], []), ([], []), ([], []), ([5, 6], [5, 6]), ([7], [7]), ([], []), ([9], [9]), ([10], [10]), ([11], [11]), ([12], [12]), ([8, 13], [8, 13]), ([14], [14]), ([4, 15, 3], [4, 15]), ([3, 16, 0, 1, 2, 3], [0, 3]), ([16, 17, 0, 1, 2, 3, 4, 5, 6, 7, 8, 9, 10, 11, 12, 13, 14, 15, 16, 17], [4, 5, 16])])
def semigroupref07_Access.B13 : List Nat := [0, 0, 2, 7, 0, 0, 0, 96, 224, 0, 512, 1536, 3584, 7680, 16352, 32736, 65535, 131071, 262143]
theorem semigroupref07_Access.tab13 : rtab .any (opsOf Try.f49 13) = semigroupref07_Access.T13 := by kernel_rfl
theorem semigroupref07_Access.bits13 : waitsOk semigroupref07_Access.T13.2 semigroupref07_Access.B13 = true := by kernel_rfl
set_option maxHeartbeats 8000000 in
set_option maxRecDepth 100000 in
theorem semigroupref07_Access.calls (k : Nat) (a0_0 : Int) (a0_1 : Int) (A0_2 : Option Addr) (c0_2 : Nat) (l0_2 : List Bool) (A0_3 : Option Addr) (c0_3 : Nat) (l0_3 : List (List Int)) (r1 : List Int) (r2 : List ByteArray) (w : World) (hr0_2 : Kd.C Kd.bool w A0_2 l0_2.length l0_2) (hc0_2 : l0_2.length ≤ c0_2) (hr0_3 : Kd.C (Kd.slice 3 (Kd.int .i64)) w A0_3 l0_3.length l0_3) (hc0_3 : l0_3.length ≤ c0_3) (h : semigroupref07_Access.f k a0_0 a0_1 l0_2 l0_3 = some (r1, r2)) :
 Calls Try.prog 49 #[.agg #[.int .i64 a0_0, .int .i64 a0_1, .slice A0_2 l0_2.length c0_2, .slice A0_3 l0_3.length c0_3]] w fun e w' => ∃ v0_ v1_ : Value, e = .returned (.tuple #[v0_, v1_]) ∧ Kd.R (Kd.int .i64) 3 w' w.heap.size (fun _ => True) v0_ r1 ∧ Kd.R Kd.string 9 w' w.heap.size (fun _ => True) v1_ r2 ∧ Below w.heap.size w w' := by
 have hu25 := Try.underlying25
 have HR0_2 := Aside0.mk hr0_2
 have HC0_2 := Aside0.mk hc0_2
 clear hr0_2 hc0_2
 have HR0_3 := Aside0.mk hr0_3
 have HC0_3 := Aside0.mk hc0_3
 clear hr0_3 hc0_3
 have HB := Aside0.mk (Below.refl w.heap.size w)
 have H : (if 0 ≤ (l0_2.length : Int) then (if ((l0_2.length : Int) : Int).toNat ≤ 281474976710656 then ((some (List.replicate ((l0_2.length : Int) : Int).toNat false : List Bool)).bind fun y275 => (if 0 ≤ a0_1 then (if a0_1 < (y275.length : Int) then (semigroupref07_Access.l0 k (([a0_1] : List Int)) (([(⟨#[]⟩ : ByteArray)] : List ByteArray)) (y275.set (a0_1 : Int).toNat true) 0 a0_0 a0_1 l0_2 l0_3) else (none)) else (none))) else (none)) else (none)) = some (r1, r2) := h
 clear h
 obtain ⟨y269, hy269⟩ : ∃ y_ : List Int, y_ = (([a0_1] : List Int)) := ⟨_, rfl⟩
 replace H : (if 0 ≤ (l0_2.length : Int) then (if ((l0_2.length : Int) : Int).toNat ≤ 281474976710656 then ((some (List.replicate ((l0_2.length : Int) : Int).toNat false : List Bool)).bind fun y275 => (if 0 ≤ a0_1 then (if a0_1 < (y275.length : Int) then (semigroupref07_Access.l0 k y269 (([(⟨#[]⟩ : ByteArray)] : List ByteArray)) (y275.set (a0_1 : Int).toNat true) 0 a0_0 a0_1 l0_2 l0_3) else (none)) else (none))) else (none)) else (none)) = some (r1, r2) := by first | (rw [hy269]; with_reducible exact H) | (have H2_ := (Option.bind_some _ _).symm.trans H; rw [hy269]; with_reducible exact H2_) | (have H2_ := (Option.bind_some _ _).symm.trans H; with_reducible exact H2_) | with_reducible exact H | (rw [hy269]; exact H) | exact H
 have Ny269 := Aside0.mk hy269
 clear hy269
 obtain ⟨y272, hy272⟩ : ∃ y_ : List ByteArray, y_ = (([(⟨#[]⟩ : ByteArray)] : List ByteArray)) := ⟨_, rfl⟩
 replace H : (if 0 ≤ (l0_2.length : Int) then (if ((l0_2.length : Int) : Int).toNat ≤ 281474976710656 then ((some (List.replicate ((l0_2.length : Int) : Int).toNat false : List Bool)).bind fun y275 => (if 0 ≤ a0_1 then (if a0_1 < (y275.length : Int) then (semigroupref07_Access.l0 k y269 y272 (y275.set (a0_1 : Int).toNat true) 0 a0_0 a0_1 l0_2 l0_3) else (none)) else (none))) else (none)) else (none)) = some (r1, r2) := by first | (rw [hy272]; with_reducible exact H) | (have H2_ := (Option.bind_some _ _).symm.trans H; rw [hy272]; with_reducible exact H2_) | (have H2_ := (Option.bind_some _ _).symm.trans H; with_reducible exact H2_) | with_reducible exact H | (rw [hy272]; exact H) | exact H
 have Ny272 := Aside0.mk hy272
 clear hy272
 by_cases c2 : 0 ≤ (l0_2.length : Int)
 (focus
 rw [if_pos c2] at H
 have c2b0 := eq_true c2
 have c2b1 : decide (0 ≤ (l0_2.length : Int)) = true := decide_eq_true c2
 clear c2
 by_cases c3 : ((l0_2.length : Int) : Int).toNat ≤ 281474976710656
 (focus
 rw [if_pos c3] at H
 have c3b0 := eq_true c3
 have c3b1 : decide (((l0_2.length : Int) : Int).toNat ≤ 281474976710656) = true := decide_eq_true c3
 clear c3
 obtain ⟨y275, hy275⟩ : ∃ y_ : List Bool, y_ = (List.replicate ((l0_2.length : Int) : Int).toNat false) := ⟨_, rfl⟩
 replace H : (if 0 ≤ a0_1 then (if a0_1 < (y275.length : Int) then (semigroupref07_Access.l0 k y269 y272 (y275.set (a0_1 : Int).toNat true) 0 a0_0 a0_1 l0_2 l0_3) else (none)) else (none)) = some (r1, r2) := by first | (rw [hy275]; with_reducible exact H) | (have H2_ := (Option.bind_some _ _).symm.trans H; rw [hy275]; with_reducible exact H2_) | (have H2_ := (Option.bind_some _ _).symm.trans H; with_reducible exact H2_) | with_reducible exact H | (rw [hy275]; exact H) | exact H
 have Ny275 := Aside0.mk hy275
 clear hy275
 by_cases c4 : 0 ≤ a0_1
 (focus
 rw [if_pos c4] at H
 have c4b0 : decide (0 ≤ a0_1) = true := decide_eq_true c4
 clear c4
 by_cases c5 : a0_1 < (y275.length : Int)
 (focus
 rw [if_pos c5] at H
 have c5b0 : decide (a0_1 < (y275.length : Int)) = true := decide_eq_true c5
 clear c5
 obtain ⟨y278, hy278⟩ : ∃ y_ : List Bool, y_ = (y275.set (a0_1 : Int).toNat true) := ⟨_, rfl⟩
 replace H : (semigroupref07_Access.l0 k y269 y272 y278 0 a0_0 a0_1 l0_2 l0_3) = some (r1, r2) := by first | (rw [hy278]; with_reducible exact H) | (have H2_ := (Option.bind_some _ _).symm.trans H; rw [hy278]; with_reducible exact H2_) | (have H2_ := (Option.bind_some _ _).symm.trans H; with_reducible exact H2_) | with_reducible exact H | (rw [hy278]; exact H) | exact H
 have Ny278 := Aside0.mk hy278
 clear hy278
 have H' := Aside0.mk H
 clear H
 go_enter Try.func49, Try.ntmps49
 go_wp2_with (first | ((with_reducible refine gate_dst (N := 1) rfl ?_); refine box_event ?hg (N := 1) ?hd (cs := #[.int .i64 a0_0, .int .i64 a0_1, .slice A0_2 l0_2.length c0_2, .slice A0_3 l0_3.length c0_3]) (t := 25) ?hr ?_; (case hd => rfl); (case hg => rfl); (case hr => first | (go_simp; done) | (go_simp; rfl)); intro gb268 hg w7 hbox hb; have n0_ := Aside0.mk (below_step (by repeat (first | (with_reducible first | exact HB.out | apply below_alloc | apply pw_below_drewN | apply below_drew1) | exact HB.out)) hb); have n1_ := Aside0.mk (hbox); have n2_ := Aside0.mk ((by rw [hg]; exact (below_size (by repeat (first | (with_reducible first | exact HB.out | apply below_alloc | apply pw_below_drewN | apply below_drew1) | exact HB.out))) : w.heap.size ≤ gb268)); have n3_ := Aside0.mk ((by rw [hg]; exact (below_size (by repeat (first | (with_reducible first | exact HB.out | apply below_alloc | apply pw_below_drewN | apply below_drew1) | exact HB.out))) : w.heap.size ≤ gb268)); clear HB; have HB := n0_; have BK268 := n1_; have GW268 := n2_; have GE268 := n3_; clear n0_ n1_ n2_ n3_; clear hb hbox hg; have hcz8_0 : w7.cell? ⟨gb268, 0, none⟩ = some (.int .i64 a0_0) := (blk_cell BK268.out 0).trans rfl; have hcz8_1 : w7.cell? ⟨gb268, 1, none⟩ = some (.int .i64 a0_1) := (blk_cell BK268.out 1).trans rfl; have hcz8_2 : w7.cell? ⟨gb268, 2, none⟩ = some (.slice A0_2 l0_2.length c0_2) := (blk_cell BK268.out 2).trans rfl; have hcz8_3 : w7.cell? ⟨gb268, 3, none⟩ = some (.slice A0_3 l0_3.length c0_3) := (blk_cell BK268.out 3).trans rfl; have hfz8_0 := blk_frozen BK268.out 0; have hfz8_1 := blk_frozen BK268.out 1; have hfz8_2 := blk_frozen BK268.out 2; have hfz8_3 := blk_frozen BK268.out 3) | ((with_reducible refine gate_dst (N := 12) rfl ?_); refine Kd.R_lit (Kd.int .i64) _ 3 ?hg (N := 12) ?hd (xs := ([a0_1] : List Int)) (inner := [.int .i64 a0_1]) (ok := fun _ => True) (okp := fun _ => True) ?hr ?hp (fun _ hk => hk) trivial (Below.refl _ _) (Nat.le_refl _) (by simp) ?_; (case hd => rfl); (case hg => rfl); (case hr => first | (go_simp; done) | (go_simp; rfl)); (case hp => exact (Reps.one (show Kd.M (Kd.int .i64) _ _ _ a0_1 [.int .i64 a0_1] from rfl) (Reps.none _ _))); intro v270 w9 ho10 hb hg_ hnew_; clear hg_ hnew_; (first | rw [← Ny269.out] at ho10 | (simp only [Int.reduceToNat] at ho10; rw [← Ny269.out] at ho10)); have n0_ := Aside0.mk (Kd.R_lower ho10 (below_size (by repeat (first | (with_reducible first | exact HB.out | apply below_alloc | apply pw_below_drewN | apply below_drew1 | refine below_set ?_ GE268.out) | exact HB.out)))); have n1_ := Aside0.mk (blk_below (g := gb268) (o := .cells #[.int .i64 a0_0, .int .i64 a0_1, .slice A0_2 l0_2.length c0_2, .slice A0_3 l0_3.length c0_3] 25 (0, 0)) (uB BK268.out) hb); have n2_ := Aside0.mk (below_step (by repeat (first | (with_reducible first | exact HB.out | apply below_alloc | apply pw_below_drewN | apply below_drew1 | refine below_set ?_ GE268.out) | exact HB.out)) hb); clear BK268; clear HB; have HO271 := n0_; have BK268 := n1_; have HB := n2_; clear n0_ n1_ n2_; clear hb ho10) | ((with_reducible refine gate_dst (N := 13) rfl ?_); refine Kd.R_lit Kd.string _ 9 ?hg (N := 13) ?hd (xs := ([(⟨#[]⟩ : ByteArray)] : List ByteArray)) (inner := [.string (⟨#[]⟩ : ByteArray)]) (ok := fun _ => True) (okp := fun _ => True) ?hr ?hp (fun _ hk => hk) trivial (Below.refl _ _) (Nat.le_refl _) (by simp) ?_; (case hd => rfl); (case hg => rfl); (case hr => first | (go_simp; done) | (go_simp; rfl)); (case hp => exact (Reps.one (show Kd.M Kd.string _ _ _ (⟨#[]⟩ : ByteArray) [.string (⟨#[]⟩ : ByteArray)] from rfl) (Reps.none _ _))); intro v273 w11 ho12 hb hg_ hnew_; clear hg_ hnew_; (first | rw [← Ny272.out] at ho12 | (simp only [Int.reduceToNat] at ho12; rw [← Ny272.out] at ho12)); have n0_ := Aside0.mk (Kd.R_below (uR HO271.out) hb); have n1_ := Aside0.mk (Kd.R_lower ho12 (below_size (by repeat (first | (with_reducible first | exact HB.out | apply below_alloc | apply pw_below_drewN | apply below_drew1 | refine below_set ?_ GE268.out) | exact HB.out)))); have n2_ := Aside0.mk (blk_below (g := gb268) (o := .cells #[.int .i64 a0_0, .int .i64 a0_1, .slice A0_2 l0_2.length c0_2, .slice A0_3 l0_3.length c0_3] 25 (0, 0)) (uB BK268.out) hb); have n3_ := Aside0.mk (below_step (by repeat (first | (with_reducible first | exact HB.out | apply below_alloc | apply pw_below_drewN | apply below_drew1 | refine below_set ?_ GE268.out) | exact HB.out)) hb); clear HO271; clear BK268; clear HB; have HO271 := n0_; have HO274 := n1_; have BK268 := n2_; have HB := n3_; clear n0_ n1_ n2_ n3_; clear hb ho12; have hcz13_0 : w11.cell? ⟨gb268, 0, none⟩ = some (.int .i64 a0_0) := (blk_cell BK268.out 0).trans rfl; have hcz13_1 : w11.cell? ⟨gb268, 1, none⟩ = some (.int .i64 a0_1) := (blk_cell BK268.out 1).trans rfl; have hcz13_2 : w11.cell? ⟨gb268, 2, none⟩ = some (.slice A0_2 l0_2.length c0_2) := (blk_cell BK268.out 2).trans rfl; have hcz13_3 : w11.cell? ⟨gb268, 3, none⟩ = some (.slice A0_3 l0_3.length c0_3) := (blk_cell BK268.out 3).trans rfl; have hfz13_0 := blk_frozen BK268.out 0; have hfz13_1 := blk_frozen BK268.out 1; have hfz13_2 := blk_frozen BK268.out 2; have hfz13_3 := blk_frozen BK268.out 3) | ((with_reducible refine gate_dst (N := 17) rfl ?_); refine Kd.R_make Kd.bool _ 4 rfl (N := 17) rfl 22 _ _ rfl (l0_2.length : Int) rfl rfl Try.underlying22 (.bool false) 1 info4 rfl (by decide) (by omega) false (ok := fun _ => True) (okp := fun _ => True) rfl (fun _ hk => hk) trivial (of_decide_eq_true (by first | (with_reducible assumption) | assumption)) (Nat.le_trans (Nat.mul_le_mul_right _ (of_decide_eq_true (by first | (with_reducible assumption) | assumption) : (l0_2.length : Int).toNat ≤ 281474976710656)) (by omega)) (Below.refl _ _) (Nat.le_refl _) ?_; intro v276 w14 ho15 hb hg_ hnew_; clear hg_ hnew_; (first | rw [← Ny275.out] at ho15 | (simp only [Int.reduceToNat] at ho15; rw [← Ny275.out] at ho15)); have n0_ := Aside0.mk (Kd.R_below (uR HO271.out) hb); have n1_ := Aside0.mk (Kd.R_below (uR HO274.out) hb); have n2_ := Aside0.mk (Kd.R_lower ho15 (below_size (by repeat (first | (with_reducible first | exact HB.out | apply below_alloc | apply pw_below_drewN | apply below_drew1 | refine below_set ?_ GE268.out) | exact HB.out)))); have n3_ := Aside0.mk (blk_below (g := gb268) (o := .cells #[.int .i64 a0_0, .int .i64 a0_1, .slice A0_2 l0_2.length c0_2, .slice A0_3 l0_3.length c0_3] 25 (0, 0)) (uB BK268.out) hb); have n4_ := Aside0.mk (below_step (by repeat (first | (with_reducible first | exact HB.out | apply below_alloc | apply pw_below_drewN | apply below_drew1 | refine below_set ?_ GE268.out) | exact HB.out)) hb); clear HO271; clear HO274; clear BK268; clear HB; have HO271 := n0_; have HO274 := n1_; have HO277 := n2_; have BK268 := n3_; have HB := n4_; clear n0_ n1_ n2_ n3_ n4_; clear hb ho15; have hcz16_0 : w14.cell? ⟨gb268, 0, none⟩ = some (.int .i64 a0_0) := (blk_cell BK268.out 0).trans rfl; have hcz16_1 : w14.cell? ⟨gb268, 1, none⟩ = some (.int .i64 a0_1) := (blk_cell BK268.out 1).trans rfl; have hcz16_2 : w14.cell? ⟨gb268, 2, none⟩ = some (.slice A0_2 l0_2.length c0_2) := (blk_cell BK268.out 2).trans rfl; have hcz16_3 : w14.cell? ⟨gb268, 3, none⟩ = some (.slice A0_3 l0_3.length c0_3) := (blk_cell BK268.out 3).trans rfl; have hfz16_0 := blk_frozen BK268.out 0; have hfz16_1 := blk_frozen BK268.out 1; have hfz16_2 := blk_frozen BK268.out 2; have hfz16_3 := blk_frozen BK268.out 3; have p6 : 0 ≤ (a0_1 : Int) := of_decide_eq_true (by first | (with_reducible assumption) | assumption); have q6 : (a0_1 : Int) < ((y275.length : Int) : Int) := of_decide_eq_true (by first | (with_reducible assumption) | assumption); obtain ⟨go6, co6, eo6, gb6, gl6, cl6, HG6⟩ := Kd.R_form HO277.out (by first | omega | (have e_ := (Kd.R_reads' HO277.out).1; omega)); (first | cases eo6 | (injection eo6 with ea_ en_ ec_; (first | subst ea_ | (injection ea_ with ea_; subst ea_)); subst ec_; clear en_)); have GB6 := Aside0.mk gb6; have GG6 := Aside0.mk HG6; clear gb6 gl6 HG6; obtain ⟨hx6_0, hf6_0⟩ := Kd.R_celln false HO277.out (a0_1 : Int) p6 q6; replace p6 := eq_true p6; replace q6 := eq_true q6; obtain ⟨hy17_, hz17_⟩ := Kd.R_celln false HO277.out (a0_1 : Int) (of_decide_eq_true (by first | (with_reducible assumption) | assumption)) (of_decide_eq_true (by first | (with_reducible assumption) | assumption)); have HP17 := Kd.R_putg HO277.out (a0_1 : Int) true) | ((with_reducible refine gate_store (t := 4) (p := 21) rfl ?_); refine store_event (t := 4) (p := 21) (v := ?vo_w18) (w1 := (w14.setCell ⟨go6, (a0_1 : Int).toNat, none⟩ (.bool true))) ?hg ?ho ?hn ?hr ?_; (case ho => rfl); (case hg => rfl); (case hn => rfl); (case hr => first | (go_simp; done) | (go_simp; rfl)); intro w18 hw; have hg : w14.grownBy w18 (some go6) := (by rw [hw]; exact HP17.2); have hp_ : Kd.R Kd.bool 4 w18 w.heap.size (fun _ => True) (.slice (some ⟨go6, 0, none⟩) y275.length co6) y278 := (by rw [hw, Ny278.out]; exact HP17.1); clear HP17; have n0_ := Aside0.mk (blk_grown (g := gb268) (o := .cells #[.int .i64 a0_0, .int .i64 a0_1, .slice A0_2 l0_2.length c0_2, .slice A0_3 l0_3.length c0_3] 25 (0, 0)) (uB BK268.out) hg (Kd.R_ne HO277.out BK268.out (by decide))); have n1_ := Aside0.mk (Kd.R_over' (v := (.slice (some ⟨go6, 0, none⟩) y275.length co6)) (uR HO271.out) (Kd.R_typed HO277.out) (by decide) hg); have n2_ := Aside0.mk (Kd.R_over' (v := (.slice (some ⟨go6, 0, none⟩) y275.length co6)) (uR HO274.out) (Kd.R_typed HO277.out) (by decide) hg); have n3_ := Aside0.mk (hp_); have n4_ := Aside0.mk ((by rw [hw]; exact below_set (HB.out) GB6.out : Below w.heap.size w w18)); clear BK268; clear HO271; clear HO274; clear HO277; clear HB; have BK268 := n0_; have HO271 := n1_; have HO274 := n2_; have HO277 := n3_; have HB := n4_; clear n0_ n1_ n2_ n3_ n4_; clear hg hw hp_))
 go_loopg [4, 5, 7] k (fun kq v4 v5 v7 w' => ∃ (x4_1 : List Int) (x5_1 : List ByteArray) (x6_1 : List Bool) (x7_1 : Int), v7 = .int .i64 x7_1 ∧ Aside0 (semigroupref07_Access.l0 kq x4_1 x5_1 x6_1 x7_1 a0_0 a0_1 l0_2 l0_3 = some (r1, r2)) ∧ Aside0 (kq ≤ k) ∧ Aside0 (Kd.R (Kd.int .i64) 3 w' w.heap.size (fun _ => True) v4 x4_1) ∧ Aside0 (Kd.R Kd.string 9 w' w.heap.size (fun _ => True) v5 x5_1) ∧ Aside0 (Kd.R Kd.bool 4 w' w.heap.size (fun _ => True) (.slice (some ⟨go6, 0, none⟩) y275.length co6) x6_1) ∧ Aside0 (w'.heap[gb268]? = some (.cells #[.int .i64 a0_0, .int .i64 a0_1, (.slice A0_2 l0_2.length c0_2), (.slice A0_3 l0_3.length c0_3)] 25 (0, 0))) ∧ Aside0 (Below w.heap.size w w'))
 case atStart => exact ⟨(y269), (y272), (y278), (0), (by first | rfl | (simp; done) | (simp [*]; done)), H', ⟨Nat.le_refl _⟩, ⟨by (with_reducible repeat (first | apply Kd.R_alloc | apply Kd.R_drewN | apply Kd.R_drew)); exact HO271.out⟩, ⟨by (with_reducible repeat (first | apply Kd.R_alloc | apply Kd.R_drewN | apply Kd.R_drew)); exact HO274.out⟩, ⟨by (with_reducible repeat (first | apply Kd.R_alloc | apply Kd.R_drewN | apply Kd.R_drew)); exact HO277.out⟩, ⟨by (with_reducible repeat (first | refine blk_drewN ?_ _ | refine blk_drew ?_ | refine blk_alloc ?_ _)); exact BK268.out⟩, ⟨by repeat (first | (with_reducible first | exact HB.out | apply below_alloc | apply pw_below_drewN | apply below_drew1 | refine below_set ?_ GE268.out) | exact HB.out)⟩⟩
 case round =>
  clear H'
  try clear c2
  try clear c2b0
  try clear c2b1
  try clear p2
  try clear c3
  try clear c3b0
  try clear c3b1
  try clear c4
  try clear c4b0
  try clear c5
  try clear c5b0
  try clear p6
  try clear q6
  try clear hx6
  try clear hf6
  try clear hcz13_0
  try clear hcz13_1
  try clear hcz13_2
  try clear hcz13_3
  try clear hcz16_0
  try clear hcz16_1
  try clear hcz16_2
  try clear hcz16_3
  try clear hcz8_0
  try clear hcz8_1
  try clear hcz8_2
  try clear hcz8_3
  try clear hfz13_0
  try clear hfz13_1
  try clear hfz13_2
  try clear hfz13_3
  try clear hfz16_0
  try clear hfz16_1
  try clear hfz16_2
  try clear hfz16_3
  try clear hfz8_0
  try clear hfz8_1
  try clear hfz8_2
  try clear hfz8_3
  try clear hx6_0
  try clear p6
  try clear q6
  obtain ⟨x4_1, x5_1, x6_1, x7_1, rfl, HA, HK1, HO_4, HO_5, HO_6, BK268, HB⟩ := hrel
  have hl6_1 := (Kd.R_reads' HO_6.out).1
  rw [hl6_1] at HO_6
  (try simp only [hl6_1])
  (try simp only [hl6_1] at BK268)
  (try simp only [hl6_1] at HO_4)
  (try simp only [hl6_1] at HO_5)
  cases gk with
  | zero => exact absurd HA.out (by simp [semigroupref07_Access.l0])
  | succ k1 =>
   have H := HA.out
   clear HA
   simp only [semigroupref07_Access.l0] at H
   by_cases c19 : x7_1 < (x4_1.length : Int)
   (focus
   rw [if_pos c19] at H
   have c19b0 : decide (x7_1 < (x4_1.length : Int)) = true := decide_eq_true c19
   (try (have c19b0_hl6_1 := c19b0; simp only [hl6_1] at c19b0_hl6_1))
   clear c19
   have H' := Aside0.mk H
   clear H
   obtain ⟨Ao20, co20, eo20⟩ := Kd.R_slice HO_4.out
   subst eo20
   go_wp2
   go_loopg [4, 5, 8] k1 (fun kq v4 v5 v8 w' => ∃ (x4_2 : List Int) (x5_2 : List ByteArray) (x6_2 : List Bool) (x8_2 : Int), v8 = .int .i64 x8_2 ∧ Aside0 (semigroupref07_Access.l1 kq x4_2 x5_2 x6_2 x7_1 x8_2 a0_0 a0_1 l0_2 l0_3 = some (r1, r2)) ∧ Aside0 (kq ≤ k1) ∧ Aside0 (Kd.R (Kd.int .i64) 3 w' w.heap.size (fun _ => True) v4 x4_2) ∧ Aside0 (Kd.R Kd.string 9 w' w.heap.size (fun _ => True) v5 x5_2) ∧ Aside0 (Kd.R Kd.bool 4 w' w.heap.size (fun _ => True) (.slice (some ⟨go6, 0, none⟩) x6_1.length co6) x6_2) ∧ Aside0 (w'.heap[gb268]? = some (.cells #[.int .i64 a0_0, .int .i64 a0_1, (.slice A0_2 l0_2.length c0_2), (.slice A0_3 l0_3.length c0_3)] 25 (0, 0))) ∧ Aside0 (Below w.heap.size w w'))
   case atStart => exact ⟨(x4_1), (x5_1), (x6_1), (0), (by first | rfl | (simp; done) | (simp [*]; done)), H', ⟨Nat.le_refl _⟩, ⟨by (try simp only [hl6_1]); (with_reducible repeat (first | apply Kd.R_alloc | apply Kd.R_drewN | apply Kd.R_drew)); exact HO_4.out⟩, ⟨by (try simp only [hl6_1]); (with_reducible repeat (first | apply Kd.R_alloc | apply Kd.R_drewN | apply Kd.R_drew)); exact HO_5.out⟩, ⟨by (try simp only [hl6_1]); (with_reducible repeat (first | apply Kd.R_alloc | apply Kd.R_drewN | apply Kd.R_drew)); exact HO_6.out⟩, ⟨by (try simp only [hl6_1]); (with_reducible repeat (first | refine blk_drewN ?_ _ | refine blk_drew ?_ | refine blk_alloc ?_ _)); exact BK268.out⟩, ⟨by repeat (first | (with_reducible first | exact HB.out | apply below_alloc | apply pw_below_drewN | apply below_drew1 | refine below_set ?_ GE268.out) | exact HB.out)⟩⟩
   case round =>
    clear H'
    try clear c1
    try clear c2
    try clear c2b0
    try clear c2b1
    try clear p2
    try clear c3
    try clear c3b0
    try clear c3b1
    try clear c4
    try clear c4b0
    try clear c5
    try clear c5b0
    try clear p6
    try clear q6
    try clear hx6
    try clear hf6
    try clear c19
    try clear c19b0
    try clear hcz13_0
    try clear hcz13_1
    try clear hcz13_2
    try clear hcz13_3
    try clear hcz16_0
    try clear hcz16_1
    try clear hcz16_2
    try clear hcz16_3
    try clear hcz8_0
    try clear hcz8_1
    try clear hcz8_2
    try clear hcz8_3
    try clear hfz13_0
    try clear hfz13_1
    try clear hfz13_2
    try clear hfz13_3
    try clear hfz16_0
    try clear hfz16_1
    try clear hfz16_2
    try clear hfz16_3
    try clear hfz8_0
    try clear hfz8_1
    try clear hfz8_2
    try clear hfz8_3
    try clear hx6_0
    try clear p2
    try clear p6
    try clear q6
    obtain ⟨x4_2, x5_2, x6_2, x8_2, rfl, HA, HK2, HO_4, HO_5, HO_6, BK268, HB⟩ := hrel
    have hl6_2 := (Kd.R_reads' HO_6.out).1
    rw [hl6_2] at HO_6
    (try simp only [hl6_2])
    (try simp only [hl6_2] at BK268)
    (try simp only [hl6_2] at HO_4)
    (try simp only [hl6_2] at HO_5)
    cases gk with
    | zero => exact absurd HA.out (by simp [semigroupref07_Access.l1])
    | succ k2 =>
     have H := HA.out
     clear HA
     simp only [semigroupref07_Access.l1] at H
     by_cases c21 : x8_2 < a0_0
     (focus
     rw [if_pos c21] at H
     have c21b0 : decide (x8_2 < a0_0) = true := decide_eq_true c21
     clear c21
     by_cases c22 : 0 ≤ x7_1
     (focus
     rw [if_pos c22] at H
     have c22b0 : decide (0 ≤ x7_1) = true := decide_eq_true c22
     clear c22
     by_cases c23 : x7_1 < (x4_2.length : Int)
     (focus
     rw [if_pos c23] at H
     have c23b0 : decide (x7_1 < (x4_2.length : Int)) = true := decide_eq_true c23
     (try (have c23b0_hl6_1 := c23b0; simp only [hl6_1] at c23b0_hl6_1))
     (try (have c23b0_hl6_2 := c23b0; simp only [hl6_2] at c23b0_hl6_2))
     clear c23
     by_cases c24 : 0 ≤ (rd x4_2 x7_1)
     (focus
     rw [if_pos c24] at H
     have c24b0 : decide (0 ≤ (rd x4_2 x7_1)) = true := decide_eq_true c24
     clear c24
     by_cases c25 : (rd x4_2 x7_1) < (l0_3.length : Int)
     (focus
     rw [if_pos c25] at H
     have c25b0 : decide ((rd x4_2 x7_1) < (l0_3.length : Int)) = true := decide_eq_true c25
     (try (have c25b0_hl6_1 := c25b0; simp only [hl6_1] at c25b0_hl6_1))
     (try (have c25b0_hl6_2 := c25b0; simp only [hl6_2] at c25b0_hl6_2))
     clear c25
     by_cases c26 : 0 ≤ x8_2
     (focus
     rw [if_pos c26] at H
     have c26b0 : decide (0 ≤ x8_2) = true := decide_eq_true c26
     clear c26
     by_cases c27 : x8_2 < ((rd_L1 l0_3 (rd x4_2 x7_1)).length : Int)
     (focus
     rw [if_pos c27] at H
     have c27b0 : decide (x8_2 < ((rd_L1 l0_3 (rd x4_2 x7_1)).length : Int)) = true := decide_eq_true c27
     (try (have c27b0_hl6_1 := c27b0; simp only [hl6_1] at c27b0_hl6_1))
     (try (have c27b0_hl6_2 := c27b0; simp only [hl6_2] at c27b0_hl6_2))
     clear c27
     by_cases c28 : 0 ≤ (rd (rd_L1 l0_3 (rd x4_2 x7_1)) x8_2)
     (focus
     rw [if_pos c28] at H
     have c28b0 : decide (0 ≤ (rd (rd_L1 l0_3 (rd x4_2 x7_1)) x8_2)) = true := decide_eq_true c28
     clear c28
     by_cases c29 : (rd (rd_L1 l0_3 (rd x4_2 x7_1)) x8_2) < (x6_2.length : Int)
     (focus
     rw [if_pos c29] at H
     have c29b0 : decide ((rd (rd_L1 l0_3 (rd x4_2 x7_1)) x8_2) < (x6_2.length : Int)) = true := decide_eq_true c29
     (try (have c29b0_hl6_1 := c29b0; simp only [hl6_1] at c29b0_hl6_1))
     (try (have c29b0_hl6_2 := c29b0; simp only [hl6_2] at c29b0_hl6_2))
     clear c29
     obtain ⟨bq30, hbq30⟩ : ∃ b_ : Bool, b_ = (rdOf false x6_2 (rd (rd_L1 l0_3 (rd x4_2 x7_1)) x8_2)) := ⟨_, rfl⟩
     replace H : (if (bq30 = true) then (semigroupref07_Access.l1 k2 x4_2 x5_2 x6_2 x7_1 (wrap64 (x8_2 + 1)) a0_0 a0_1 l0_2 l0_3) else ((some (([rd (rd_L1 l0_3 (rd x4_2 x7_1)) x8_2] : List Int) : List Int)).bind fun y284 => (if x4_2.length + y284.length < 17592186044416 then (if x7_1 < (x5_2.length : Int) then ((some (([(wrap64 (97 + x8_2)) % 256] : List Int) : List Int)).bind fun y291 => (if (rdOf ByteArray.empty x5_2 x7_1).size + (strOfNums y291).size ≤ 9223372036854775807 then ((some (([(rdOf ByteArray.empty x5_2 x7_1) ++ (strOfNums y291)] : List ByteArray) : List ByteArray)).bind fun y294 => (if x5_2.length + y294.length < 8796093022208 then (semigroupref07_Access.l1 k2 (x4_2 ++ y284) (x5_2 ++ y294) (x6_2.set ((rd (rd_L1 l0_3 (rd x4_2 x7_1)) x8_2) : Int).toNat true) x7_1 (wrap64 (x8_2 + 1)) a0_0 a0_1 l0_2 l0_3) else (none))) else (none))) else (none)) else (none)))) = some (r1, r2) := by rw [← hbq30] at H; exact H
     have Nbq30 := Aside0.mk hbq30
     clear hbq30
     by_cases c31 : (bq30 = true)
     (focus
     subst c31
     have H1 : (semigroupref07_Access.l1 k2 x4_2 x5_2 x6_2 x7_1 (wrap64 (x8_2 + 1)) a0_0 a0_1 l0_2 l0_3) = some (r1, r2) := by rw [if_pos rfl] at H; exact H
     clear H
     have H := H1
     clear H1
     have H' := Aside0.mk H
     clear H
     have hcz32_0 : wr.cell? ⟨gb268, 0, none⟩ = some (.int .i64 a0_0) := (blk_cell BK268.out 0).trans rfl
     have hcz32_1 : wr.cell? ⟨gb268, 1, none⟩ = some (.int .i64 a0_1) := (blk_cell BK268.out 1).trans rfl
     have hcz32_2 : wr.cell? ⟨gb268, 2, none⟩ = some (.slice A0_2 l0_2.length c0_2) := (blk_cell BK268.out 2).trans rfl
     have hcz32_3 : wr.cell? ⟨gb268, 3, none⟩ = some (.slice A0_3 l0_3.length c0_3) := (blk_cell BK268.out 3).trans rfl
     have hfz32_0 := blk_frozen BK268.out 0
     have hfz32_1 := blk_frozen BK268.out 1
     have hfz32_2 := blk_frozen BK268.out 2
     have hfz32_3 := blk_frozen BK268.out 3
     try go_wp2
     have n0_ := Aside0.mk (Kd.R_drew HO_4.out)
     have n1_ := Aside0.mk (Kd.R_drew HO_5.out)
     have n2_ := Aside0.mk (Kd.R_drew HO_6.out)
     have n3_ := Aside0.mk (blk_drew BK268.out)
     have n4_ := Aside0.mk (below_drew1 HB.out)
     clear HO_4
     clear HO_5
     clear HO_6
     clear BK268
     clear HB
     have HO_4 := n0_
     have HO_5 := n1_
     have HO_6 := n2_
     have BK268 := n3_
     have HB := n4_
     clear n0_ n1_ n2_ n3_ n4_
     obtain ⟨Ao34, co34, eo34⟩ := Kd.R_slice HO_4.out
     (first | subst eo34 | (injection eo34 with f1_ f2_ f3_; have f4_ := f1_.symm; have f5_ := f3_.symm; clear f1_ f2_ f3_; subst f4_; subst f5_))
     have p279 : 0 ≤ (x7_1 : Int) := of_decide_eq_true (by first | (with_reducible assumption) | assumption)
     have q279 : x7_1 < (x4_2.length : Int) := of_decide_eq_true (by first | (with_reducible assumption) | assumption)
     obtain ⟨ad279, e279, hx279_0⟩ := Kd.at_int (Kd.R_reads' HO_4.out).2.2 x7_1 p279 q279
     cases e279
     replace p279 := eq_true p279
     replace q279 := eq_true q279
     have p280 : 0 ≤ ((rd x4_2 x7_1) : Int) := of_decide_eq_true (by first | (with_reducible assumption) | assumption)
     have q280 : (rd x4_2 x7_1) < (l0_3.length : Int) := of_decide_eq_true (by first | (with_reducible assumption) | assumption)
     obtain ⟨ad280, A280_0, c280_0, e280, hx280_0, hl280_0, hi280_0⟩ := at_L1 HR0_3.out (rd x4_2 x7_1) p280 q280
     have hw280_0 := hx280_0
     cases e280
     (try replace hx280_0 := (HB.out.cell (World.block_lt_of_cell? w _ hx280_0)).trans hx280_0)
     have HR280_0 := Aside0.mk hi280_0
     have HC280_0 := Aside0.mk hl280_0
     clear hi280_0 hl280_0
     replace p280 := eq_true p280
     replace q280 := eq_true q280
     have p281 : 0 ≤ (x8_2 : Int) := of_decide_eq_true (by first | (with_reducible assumption) | assumption)
     have q281 : x8_2 < ((rd_L1 l0_3 (rd x4_2 x7_1)).length : Int) := of_decide_eq_true (by first | (with_reducible assumption) | assumption)
     obtain ⟨ad281, e281, hx281_0⟩ := Kd.at_int HR280_0.out x8_2 p281 q281
     have hw281_0 := hx281_0
     cases e281
     (try replace hx281_0 := (HB.out.cell (World.block_lt_of_cell? w _ hx281_0)).trans hx281_0)
     replace p281 := eq_true p281
     replace q281 := eq_true q281
     refine start_ (n := 12) (S := fun w' => w'.cell? ⟨gb268, 0, none⟩ = some (.int .i64 a0_0) ∧ w'.cell? ⟨gb268, 1, none⟩ = some (.int .i64 a0_1) ∧ w'.cell? ⟨gb268, 2, none⟩ = some (.slice A0_2 l0_2.length c0_2) ∧ w'.cell? ⟨gb268, 3, none⟩ = some (.slice (some ad280) l0_3.length c0_3) ∧ w'.cell? (ad279.add (x7_1).toNat) = some (.int .i64 (rd x4_2 x7_1)) ∧ w'.cell? (ad280.add ((rd x4_2 x7_1)).toNat) = some (.slice (some ad281) (rd_L1 l0_3 (rd x4_2 x7_1)).length c280_0) ∧ w'.cell? (ad281.add (x8_2).toNat) = some (.int .i64 (rd (rd_L1 l0_3 (rd x4_2 x7_1)) x8_2))) (ds := []) #[false, false, false, false, false, false, false, false, false, false, false, false] (by kernel_rfl) rfl rfl ⟨(blk_cell BK268.out 0).trans rfl, (blk_cell BK268.out 1).trans rfl, (blk_cell BK268.out 2).trans rfl, (blk_cell BK268.out 3).trans rfl, hx279_0, ((HB.out.cell (World.block_lt_of_cell? w _ hw280_0)).trans hw280_0), ((HB.out.cell (World.block_lt_of_cell? w _ hw281_0)).trans hw281_0)⟩ (fun hHeld => ?_); refine with_tabW semigroupref07_Access.tab10 semigroupref07_Access.bits10 (fun HT_ HW_ => ?_)
     generalize wr.drew = w33 at HO_4 HO_5 HO_6 BK268 HB HR280_0 hx279_0 hx280_0 hx281_0 hHeld ⊢
     refine pure_ (i := 0) (N := some 34) (v := ?_) (a' := ?_) #[true, false, false, false, false, false, false, false, false, false, false, false] rfl rfl (any_of HT_.out (by kernel_rfl)) (fun _ _ _ h => h) (Or.inl ⟨by rfl, ?_⟩) ?_ ?_
     rotate_left
     (focus
     intro w'
     go_simp
     with_reducible rfl
     )
     rotate_left
     (focus
     simp only [Act.put, List.setIfInBounds_toArray, List.set_cons_zero, List.set_cons_succ, i64_w, i32_w]
     rfl
     )
     refine pure_ (i := 2) (N := some 36) (v := ?_) (a' := ?_) #[true, false, true, false, false, false, false, false, false, false, false, false] rfl rfl (any_of HT_.out (by kernel_rfl)) (fun _ _ _ h => h) (Or.inl ⟨by rfl, ?_⟩) ?_ ?_
     rotate_left
     (focus
     intro w'
     go_simp
     with_reducible rfl
     )
     rotate_left
     (focus
     simp only [Act.put, List.setIfInBounds_toArray, List.set_cons_zero, List.set_cons_succ, i64_w, i32_w]
     rfl
     )
     refine pure_ (i := 3) (N := some 37) (v := ?_) (a' := ?_) #[true, false, true, true, false, false, false, false, false, false, false, false] rfl rfl (any_of HT_.out (by kernel_rfl)) (fun _ _ _ h => h) (Or.inl ⟨by rfl, ?_⟩) ?_ ?_
     rotate_left
     (focus
     intro w'
     go_simp
     with_reducible rfl
     )
     rotate_left
     (focus
     simp only [Act.put, List.setIfInBounds_toArray, List.set_cons_zero, List.set_cons_succ, i64_w, i32_w]
     rfl
     )
     refine pure_ (i := 4) (N := some 38) (v := ?_) (a' := ?_) #[true, false, true, true, true, false, false, false, false, false, false, false] rfl rfl (any_of HT_.out (by kernel_rfl)) (fun _ _ _ h => h) (Or.inl ⟨by rfl, ?_⟩) ?_ ?_
     rotate_left
     (focus
     intro w'
     go_simp
     with_reducible rfl
     )
     rotate_left
     (focus
     simp only [Act.put, List.setIfInBounds_toArray, List.set_cons_zero, List.set_cons_succ, i64_w, i32_w]
     rfl
     )
     refine pure_ (i := 8) (N := some 42) (v := ?_) (a' := ?_) #[true, false, true, true, true, false, false, false, true, false, false, false] rfl rfl (any_of HT_.out (by kernel_rfl)) (fun _ _ _ h => h) (Or.inl ⟨by rfl, ?_⟩) ?_ ?_
     rotate_left
     (focus
     intro w'
     go_simp
     with_reducible rfl
     )
     rotate_left
     (focus
     simp only [Act.put, List.setIfInBounds_toArray, List.set_cons_zero, List.set_cons_succ, i64_w, i32_w]
     rfl
     )
     refine take_ (i := 1) (N := some 35) (v := ?_) (a' := ?_) #[true, true, true, true, true, false, false, false, true, false, false, false] rfl rfl (take_ofW HT_.out HW_.out (by kernel_rfl)) (fun _ _ _ h => h) (Or.inl ⟨by rfl, ?_⟩) hHeld ?_ ?_
     rotate_left
     (focus
     rintro w' ⟨s0, s1, s2, s3, s4, s5, s6⟩
     go_simp
     with_reducible rfl
     )
     rotate_left
     (focus
     simp only [Act.put, List.setIfInBounds_toArray, List.set_cons_zero, List.set_cons_succ, i64_w, i32_w]
     rfl
     )
     refine take_ (i := 5) (N := some 39) (v := ?_) (a' := ?_) #[true, true, true, true, true, true, false, false, true, false, false, false] rfl rfl (take_ofW HT_.out HW_.out (by kernel_rfl)) (fun _ _ _ h => h) (Or.inl ⟨by rfl, ?_⟩) hHeld ?_ ?_
     rotate_left
     (focus
     rintro w' ⟨s0, s1, s2, s3, s4, s5, s6⟩
     go_simp
     with_reducible rfl
     )
     rotate_left
     (focus
     simp only [Act.put, List.setIfInBounds_toArray, List.set_cons_zero, List.set_cons_succ, i64_w, i32_w]
     rfl
     )
     refine pure_ (i := 6) (N := some 40) (v := ?_) (a' := ?_) #[true, true, true, true, true, true, true, false, true, false, false, false] rfl rfl (any_of HT_.out (by kernel_rfl)) (fun _ _ _ h => h) (Or.inl ⟨by rfl, ?_⟩) ?_ ?_
     rotate_left
     (focus
     intro w'
     go_simp
     with_reducible rfl
     )
     rotate_left
     (focus
     simp only [Act.put, List.setIfInBounds_toArray, List.set_cons_zero, List.set_cons_succ, i64_w, i32_w]
     rfl
     )
     refine take_ (i := 7) (N := some 41) (v := ?_) (a' := ?_) #[true, true, true, true, true, true, true, true, true, false, false, false] rfl rfl (take_ofW HT_.out HW_.out (by kernel_rfl)) (fun _ _ _ h => h) (Or.inl ⟨by rfl, ?_⟩) hHeld ?_ ?_
     rotate_left
     (focus
     rintro w' ⟨s0, s1, s2, s3, s4, s5, s6⟩
     go_simp
     with_reducible rfl
     )
     rotate_left
     (focus
     simp only [Act.put, List.setIfInBounds_toArray, List.set_cons_zero, List.set_cons_succ, i64_w, i32_w]
     rfl
     )
     refine pure_ (i := 9) (N := some 43) (v := ?_) (a' := ?_) #[true, true, true, true, true, true, true, true, true, true, false, false] rfl rfl (any_of HT_.out (by kernel_rfl)) (fun _ _ _ h => h) (Or.inl ⟨by rfl, ?_⟩) ?_ ?_
     rotate_left
     (focus
     intro w'
     go_simp
     with_reducible rfl
     )
     rotate_left
     (focus
     simp only [Act.put, List.setIfInBounds_toArray, List.set_cons_zero, List.set_cons_succ, i64_w, i32_w]
     rfl
     )
     refine take_ (i := 10) (N := some 44) (v := ?_) (a' := ?_) #[true, true, true, true, true, true, true, true, true, true, true, false] rfl rfl (take_ofW HT_.out HW_.out (by kernel_rfl)) (fun _ _ _ h => h) (Or.inl ⟨by rfl, ?_⟩) hHeld ?_ ?_
     rotate_left
     (focus
     rintro w' ⟨s0, s1, s2, s3, s4, s5, s6⟩
     go_simp
     with_reducible rfl
     )
     rotate_left
     (focus
     simp only [Act.put, List.setIfInBounds_toArray, List.set_cons_zero, List.set_cons_succ, i64_w, i32_w]
     rfl
     )
     refine pure_ (i := 11) (N := some 9) (v := ?_) (a' := ?_) #[true, true, true, true, true, true, true, true, true, true, true, true] rfl rfl (any_of HT_.out (by kernel_rfl)) (fun _ _ _ h => h) (Or.inl ⟨by rfl, ?_⟩) ?_ ?_
     rotate_left
     (focus
     intro w'
     go_simp
     with_reducible rfl
     )
     rotate_left
     (focus
     simp only [Act.put, List.setIfInBounds_toArray, List.set_cons_zero, List.set_cons_succ, i64_w, i32_w]
     rfl
     )
     refine done_ (done_of HT_.out (by kernel_rfl)) ?_
     have p282 : 0 ≤ ((rd (rd_L1 l0_3 (rd x4_2 x7_1)) x8_2) : Int) := of_decide_eq_true (by first | (with_reducible assumption) | assumption)
     have q282 : (rd (rd_L1 l0_3 (rd x4_2 x7_1)) x8_2) < (x6_2.length : Int) := of_decide_eq_true (by first | (with_reducible assumption) | assumption)
     obtain ⟨ad282, e282, hx282_0⟩ := Kd.at_bool (Kd.R_reads' HO_6.out).2.2 (rd (rd_L1 l0_3 (rd x4_2 x7_1)) x8_2) p282 q282
     (try rw [← Nbq30.out] at hx282_0)
     obtain rfl : (⟨go6, 0, none⟩ : Addr) = ad282 := (by injection e282)
     (first | simp only [add_plain] at hx282_0 | simp only [add_at] at hx282_0 | simp only [Addr.add, Nat.zero_add] at hx282_0 | skip)
     replace p282 := eq_true p282
     replace q282 := eq_true q282
     try go_wp2
     (try simp only [← hl6_2])
     go_roundg k2
     case measure => have := HK1.out; have := HK2.out; omega
     case rel => exact ⟨(x4_2), (x5_2), (x6_2), (wrap64 (x8_2 + 1)), (by first | rfl | (simp; done) | (simp [*]; done)), H', ⟨by have := HK1.out; have := HK2.out; omega⟩, ⟨by (try simp only [hl6_1]); (try simp only [hl6_2]); (with_reducible repeat (first | apply Kd.R_alloc | apply Kd.R_drewN | apply Kd.R_drew)); exact HO_4.out⟩, ⟨by (try simp only [hl6_1]); (try simp only [hl6_2]); (with_reducible repeat (first | apply Kd.R_alloc | apply Kd.R_drewN | apply Kd.R_drew)); exact HO_5.out⟩, ⟨by (try simp only [hl6_1]); (try simp only [hl6_2]); (with_reducible repeat (first | apply Kd.R_alloc | apply Kd.R_drewN | apply Kd.R_drew)); exact HO_6.out⟩, ⟨by (try simp only [hl6_1]); (try simp only [hl6_2]); (with_reducible repeat (first | refine blk_drewN ?_ _ | refine blk_drew ?_ | refine blk_alloc ?_ _)); exact BK268.out⟩, ⟨by repeat (first | (with_reducible first | exact HB.out | apply below_alloc | apply pw_below_drewN | apply below_drew1 | refine below_set ?_ GE268.out) | exact HB.out)⟩⟩
     )
     (focus
     replace c31 := Bool.eq_false_iff.mpr c31
     subst c31
     have H1 : ((some (([rd (rd_L1 l0_3 (rd x4_2 x7_1)) x8_2] : List Int) : List Int)).bind fun y284 => (if x4_2.length + y284.length < 17592186044416 then (if x7_1 < (x5_2.length : Int) then ((some (([(wrap64 (97 + x8_2)) % 256] : List Int) : List Int)).bind fun y291 => (if (rdOf ByteArray.empty x5_2 x7_1).size + (strOfNums y291).size ≤ 9223372036854775807 then ((some (([(rdOf ByteArray.empty x5_2 x7_1) ++ (strOfNums y291)] : List ByteArray) : List ByteArray)).bind fun y294 => (if x5_2.length + y294.length < 8796093022208 then (semigroupref07_Access.l1 k2 (x4_2 ++ y284) (x5_2 ++ y294) (x6_2.set ((rd (rd_L1 l0_3 (rd x4_2 x7_1)) x8_2) : Int).toNat true) x7_1 (wrap64 (x8_2 + 1)) a0_0 a0_1 l0_2 l0_3) else (none))) else (none))) else (none)) else (none))) = some (r1, r2) := by rw [if_neg (show ¬ (false = true) by decide)] at H; exact H
     clear H
     have H := H1
     clear H1
     obtain ⟨y283, hy283⟩ : ∃ y_ : List Bool, y_ = (x6_2.set ((rd (rd_L1 l0_3 (rd x4_2 x7_1)) x8_2) : Int).toNat true) := ⟨_, rfl⟩
     replace H : ((some (([rd (rd_L1 l0_3 (rd x4_2 x7_1)) x8_2] : List Int) : List Int)).bind fun y284 => (if x4_2.length + y284.length < 17592186044416 then (if x7_1 < (x5_2.length : Int) then ((some (([(wrap64 (97 + x8_2)) % 256] : List Int) : List Int)).bind fun y291 => (if (rdOf ByteArray.empty x5_2 x7_1).size + (strOfNums y291).size ≤ 9223372036854775807 then ((some (([(rdOf ByteArray.empty x5_2 x7_1) ++ (strOfNums y291)] : List ByteArray) : List ByteArray)).bind fun y294 => (if x5_2.length + y294.length < 8796093022208 then (semigroupref07_Access.l1 k2 (x4_2 ++ y284) (x5_2 ++ y294) y283 x7_1 (wrap64 (x8_2 + 1)) a0_0 a0_1 l0_2 l0_3) else (none))) else (none))) else (none)) else (none))) = some (r1, r2) := by first | (rw [hy283]; with_reducible exact H) | (have H2_ := (Option.bind_some _ _).symm.trans H; rw [hy283]; with_reducible exact H2_) | (have H2_ := (Option.bind_some _ _).symm.trans H; with_reducible exact H2_) | with_reducible exact H | (rw [hy283]; exact H) | exact H
     have Ny283 := Aside0.mk hy283
     clear hy283
     obtain ⟨y284, hy284⟩ : ∃ y_ : List Int, y_ = (([rd (rd_L1 l0_3 (rd x4_2 x7_1)) x8_2] : List Int)) := ⟨_, rfl⟩
     replace H : (if x4_2.length + y284.length < 17592186044416 then (if x7_1 < (x5_2.length : Int) then ((some (([(wrap64 (97 + x8_2)) % 256] : List Int) : List Int)).bind fun y291 => (if (rdOf ByteArray.empty x5_2 x7_1).size + (strOfNums y291).size ≤ 9223372036854775807 then ((some (([(rdOf ByteArray.empty x5_2 x7_1) ++ (strOfNums y291)] : List ByteArray) : List ByteArray)).bind fun y294 => (if x5_2.length + y294.length < 8796093022208 then (semigroupref07_Access.l1 k2 (x4_2 ++ y284) (x5_2 ++ y294) y283 x7_1 (wrap64 (x8_2 + 1)) a0_0 a0_1 l0_2 l0_3) else (none))) else (none))) else (none)) else (none)) = some (r1, r2) := by first | (rw [hy284]; with_reducible exact H) | (have H2_ := (Option.bind_some _ _).symm.trans H; rw [hy284]; with_reducible exact H2_) | (have H2_ := (Option.bind_some _ _).symm.trans H; with_reducible exact H2_) | with_reducible exact H | (rw [hy284]; exact H) | exact H
     have Ny284 := Aside0.mk hy284
     clear hy284
     by_cases c36 : x4_2.length + y284.length < 17592186044416
     (focus
     rw [if_pos c36] at H
     have LMc36 := Aside0.mk c36
     clear c36
     obtain ⟨y287, hy287⟩ : ∃ y_ : List Int, y_ = (x4_2 ++ y284) := ⟨_, rfl⟩
     replace H : (if x7_1 < (x5_2.length : Int) then ((some (([(wrap64 (97 + x8_2)) % 256] : List Int) : List Int)).bind fun y291 => (if (rdOf ByteArray.empty x5_2 x7_1).size + (strOfNums y291).size ≤ 9223372036854775807 then ((some (([(rdOf ByteArray.empty x5_2 x7_1) ++ (strOfNums y291)] : List ByteArray) : List ByteArray)).bind fun y294 => (if x5_2.length + y294.length < 8796093022208 then (semigroupref07_Access.l1 k2 y287 (x5_2 ++ y294) y283 x7_1 (wrap64 (x8_2 + 1)) a0_0 a0_1 l0_2 l0_3) else (none))) else (none))) else (none)) = some (r1, r2) := by first | (rw [hy287]; with_reducible exact H) | (have H2_ := (Option.bind_some _ _).symm.trans H; rw [hy287]; with_reducible exact H2_) | (have H2_ := (Option.bind_some _ _).symm.trans H; with_reducible exact H2_) | with_reducible exact H | (rw [hy287]; exact H) | exact H
     have Ny287 := Aside0.mk hy287
     clear hy287
     by_cases c37 : x7_1 < (x5_2.length : Int)
     (focus
     rw [if_pos c37] at H
     have c37b0 : decide (x7_1 < (x5_2.length : Int)) = true := decide_eq_true c37
     (try (have c37b0_hl6_1 := c37b0; simp only [hl6_1] at c37b0_hl6_1))
     (try (have c37b0_hl6_2 := c37b0; simp only [hl6_2] at c37b0_hl6_2))
     clear c37
     obtain ⟨y291, hy291⟩ : ∃ y_ : List Int, y_ = (([(wrap64 (97 + x8_2)) % 256] : List Int)) := ⟨_, rfl⟩
     replace H : (if (rdOf ByteArray.empty x5_2 x7_1).size + (strOfNums y291).size ≤ 9223372036854775807 then ((some (([(rdOf ByteArray.empty x5_2 x7_1) ++ (strOfNums y291)] : List ByteArray) : List ByteArray)).bind fun y294 => (if x5_2.length + y294.length < 8796093022208 then (semigroupref07_Access.l1 k2 y287 (x5_2 ++ y294) y283 x7_1 (wrap64 (x8_2 + 1)) a0_0 a0_1 l0_2 l0_3) else (none))) else (none)) = some (r1, r2) := by first | (rw [hy291]; with_reducible exact H) | (have H2_ := (Option.bind_some _ _).symm.trans H; rw [hy291]; with_reducible exact H2_) | (have H2_ := (Option.bind_some _ _).symm.trans H; with_reducible exact H2_) | with_reducible exact H | (rw [hy291]; exact H) | exact H
     have Ny291 := Aside0.mk hy291
     clear hy291
     by_cases c38 : (rdOf ByteArray.empty x5_2 x7_1).size + (strOfNums y291).size ≤ 9223372036854775807
     (focus
     rw [if_pos c38] at H
     have c38b0 := eq_true c38
     have c38b1 : decide ((rdOf ByteArray.empty x5_2 x7_1).size + (strOfNums y291).size ≤ 9223372036854775807) = true := decide_eq_true c38
     try have c38b2 : (9223372036854775807 < (rdOf ByteArray.empty x5_2 x7_1).size + (strOfNums y291).size) = False := eq_false (Nat.not_lt.2 c38)
     obtain ⟨y294, hy294⟩ : ∃ y_ : List ByteArray, y_ = (([(rdOf ByteArray.empty x5_2 x7_1) ++ (strOfNums y291)] : List ByteArray)) := ⟨_, rfl⟩
     replace H : (if x5_2.length + y294.length < 8796093022208 then (semigroupref07_Access.l1 k2 y287 (x5_2 ++ y294) y283 x7_1 (wrap64 (x8_2 + 1)) a0_0 a0_1 l0_2 l0_3) else (none)) = some (r1, r2) := by first | (rw [hy294]; with_reducible exact H) | (have H2_ := (Option.bind_some _ _).symm.trans H; rw [hy294]; with_reducible exact H2_) | (have H2_ := (Option.bind_some _ _).symm.trans H; with_reducible exact H2_) | with_reducible exact H | (rw [hy294]; exact H) | exact H
     have Ny294 := Aside0.mk hy294
     clear hy294
     by_cases c39 : x5_2.length + y294.length < 8796093022208
     (focus
     rw [if_pos c39] at H
     have LMc39 := Aside0.mk c39
     clear c39
     obtain ⟨y297, hy297⟩ : ∃ y_ : List ByteArray, y_ = (x5_2 ++ y294) := ⟨_, rfl⟩
     replace H : (semigroupref07_Access.l1 k2 y287 y297 y283 x7_1 (wrap64 (x8_2 + 1)) a0_0 a0_1 l0_2 l0_3) = some (r1, r2) := by first | (rw [hy297]; with_reducible exact H) | (have H2_ := (Option.bind_some _ _).symm.trans H; rw [hy297]; with_reducible exact H2_) | (have H2_ := (Option.bind_some _ _).symm.trans H; with_reducible exact H2_) | with_reducible exact H | (rw [hy297]; exact H) | exact H
     have Ny297 := Aside0.mk hy297
     clear hy297
     have H' := Aside0.mk H
     clear H
     have hcz40_0 : wr.cell? ⟨gb268, 0, none⟩ = some (.int .i64 a0_0) := (blk_cell BK268.out 0).trans rfl
     have hcz40_1 : wr.cell? ⟨gb268, 1, none⟩ = some (.int .i64 a0_1) := (blk_cell BK268.out 1).trans rfl
     have hcz40_2 : wr.cell? ⟨gb268, 2, none⟩ = some (.slice A0_2 l0_2.length c0_2) := (blk_cell BK268.out 2).trans rfl
     have hcz40_3 : wr.cell? ⟨gb268, 3, none⟩ = some (.slice A0_3 l0_3.length c0_3) := (blk_cell BK268.out 3).trans rfl
     have hfz40_0 := blk_frozen BK268.out 0
     have hfz40_1 := blk_frozen BK268.out 1
     have hfz40_2 := blk_frozen BK268.out 2
     have hfz40_3 := blk_frozen BK268.out 3
     try go_wp2
     have n0_ := Aside0.mk (Kd.R_drew HO_4.out)
     have n1_ := Aside0.mk (Kd.R_drew HO_5.out)
     have n2_ := Aside0.mk (Kd.R_drew HO_6.out)
     have n3_ := Aside0.mk (blk_drew BK268.out)
     have n4_ := Aside0.mk (below_drew1 HB.out)
     clear HO_4
     clear HO_5
     clear HO_6
     clear BK268
     clear HB
     have HO_4 := n0_
     have HO_5 := n1_
     have HO_6 := n2_
     have BK268 := n3_
     have HB := n4_
     clear n0_ n1_ n2_ n3_ n4_
     obtain ⟨Ao42, co42, eo42⟩ := Kd.R_slice HO_4.out
     (first | subst eo42 | (injection eo42 with f1_ f2_ f3_; have f4_ := f1_.symm; have f5_ := f3_.symm; clear f1_ f2_ f3_; subst f4_; subst f5_))
     have p279 : 0 ≤ (x7_1 : Int) := of_decide_eq_true (by first | (with_reducible assumption) | assumption)
     have q279 : x7_1 < (x4_2.length : Int) := of_decide_eq_true (by first | (with_reducible assumption) | assumption)
     obtain ⟨ad279, e279, hx279_0⟩ := Kd.at_int (Kd.R_reads' HO_4.out).2.2 x7_1 p279 q279
     cases e279
     replace p279 := eq_true p279
     replace q279 := eq_true q279
     have p280 : 0 ≤ ((rd x4_2 x7_1) : Int) := of_decide_eq_true (by first | (with_reducible assumption) | assumption)
     have q280 : (rd x4_2 x7_1) < (l0_3.length : Int) := of_decide_eq_true (by first | (with_reducible assumption) | assumption)
     obtain ⟨ad280, A280_0, c280_0, e280, hx280_0, hl280_0, hi280_0⟩ := at_L1 HR0_3.out (rd x4_2 x7_1) p280 q280
     have hw280_0 := hx280_0
     cases e280
     (try replace hx280_0 := (HB.out.cell (World.block_lt_of_cell? w _ hx280_0)).trans hx280_0)
     have HR280_0 := Aside0.mk hi280_0
     have HC280_0 := Aside0.mk hl280_0
     clear hi280_0 hl280_0
     replace p280 := eq_true p280
     replace q280 := eq_true q280
     have p281 : 0 ≤ (x8_2 : Int) := of_decide_eq_true (by first | (with_reducible assumption) | assumption)
     have q281 : x8_2 < ((rd_L1 l0_3 (rd x4_2 x7_1)).length : Int) := of_decide_eq_true (by first | (with_reducible assumption) | assumption)
     obtain ⟨ad281, e281, hx281_0⟩ := Kd.at_int HR280_0.out x8_2 p281 q281
     have hw281_0 := hx281_0
     cases e281
     (try replace hx281_0 := (HB.out.cell (World.block_lt_of_cell? w _ hx281_0)).trans hx281_0)
     replace p281 := eq_true p281
     replace q281 := eq_true q281
     refine start_ (n := 12) (S := fun w' => w'.cell? ⟨gb268, 0, none⟩ = some (.int .i64 a0_0) ∧ w'.cell? ⟨gb268, 1, none⟩ = some (.int .i64 a0_1) ∧ w'.cell? ⟨gb268, 2, none⟩ = some (.slice A0_2 l0_2.length c0_2) ∧ w'.cell? ⟨gb268, 3, none⟩ = some (.slice (some ad280) l0_3.length c0_3) ∧ w'.cell? (ad279.add (x7_1).toNat) = some (.int .i64 (rd x4_2 x7_1)) ∧ w'.cell? (ad280.add ((rd x4_2 x7_1)).toNat) = some (.slice (some ad281) (rd_L1 l0_3 (rd x4_2 x7_1)).length c280_0) ∧ w'.cell? (ad281.add (x8_2).toNat) = some (.int .i64 (rd (rd_L1 l0_3 (rd x4_2 x7_1)) x8_2))) (ds := []) #[false, false, false, false, false, false, false, false, false, false, false, false] (by kernel_rfl) rfl rfl ⟨(blk_cell BK268.out 0).trans rfl, (blk_cell BK268.out 1).trans rfl, (blk_cell BK268.out 2).trans rfl, (blk_cell BK268.out 3).trans rfl, hx279_0, ((HB.out.cell (World.block_lt_of_cell? w _ hw280_0)).trans hw280_0), ((HB.out.cell (World.block_lt_of_cell? w _ hw281_0)).trans hw281_0)⟩ (fun hHeld => ?_); refine with_tabW semigroupref07_Access.tab10 semigroupref07_Access.bits10 (fun HT_ HW_ => ?_)
     generalize wr.drew = w41 at HO_4 HO_5 HO_6 BK268 HB HR280_0 hx279_0 hx280_0 hx281_0 hHeld ⊢
     refine pure_ (i := 0) (N := some 34) (v := ?_) (a' := ?_) #[true, false, false, false, false, false, false, false, false, false, false, false] rfl rfl (any_of HT_.out (by kernel_rfl)) (fun _ _ _ h => h) (Or.inl ⟨by rfl, ?_⟩) ?_ ?_
     rotate_left
     (focus
     intro w'
     go_simp
     with_reducible rfl
     )
     rotate_left
     (focus
     simp only [Act.put, List.setIfInBounds_toArray, List.set_cons_zero, List.set_cons_succ, i64_w, i32_w]
     rfl
     )
     refine pure_ (i := 2) (N := some 36) (v := ?_) (a' := ?_) #[true, false, true, false, false, false, false, false, false, false, false, false] rfl rfl (any_of HT_.out (by kernel_rfl)) (fun _ _ _ h => h) (Or.inl ⟨by rfl, ?_⟩) ?_ ?_
     rotate_left
     (focus
     intro w'
     go_simp
     with_reducible rfl
     )
     rotate_left
     (focus
     simp only [Act.put, List.setIfInBounds_toArray, List.set_cons_zero, List.set_cons_succ, i64_w, i32_w]
     rfl
     )
     refine pure_ (i := 3) (N := some 37) (v := ?_) (a' := ?_) #[true, false, true, true, false, false, false, false, false, false, false, false] rfl rfl (any_of HT_.out (by kernel_rfl)) (fun _ _ _ h => h) (Or.inl ⟨by rfl, ?_⟩) ?_ ?_
     rotate_left
     (focus
     intro w'
     go_simp
     with_reducible rfl
     )
     rotate_left
     (focus
     simp only [Act.put, List.setIfInBounds_toArray, List.set_cons_zero, List.set_cons_succ, i64_w, i32_w]
     rfl
     )
     refine pure_ (i := 4) (N := some 38) (v := ?_) (a' := ?_) #[true, false, true, true, true, false, false, false, false, false, false, false] rfl rfl (any_of HT_.out (by kernel_rfl)) (fun _ _ _ h => h) (Or.inl ⟨by rfl, ?_⟩) ?_ ?_
     rotate_left
     (focus
     intro w'
     go_simp
     with_reducible rfl
     )
     rotate_left
     (focus
     simp only [Act.put, List.setIfInBounds_toArray, List.set_cons_zero, List.set_cons_succ, i64_w, i32_w]
     rfl
     )
     refine pure_ (i := 8) (N := some 42) (v := ?_) (a' := ?_) #[true, false, true, true, true, false, false, false, true, false, false, false] rfl rfl (any_of HT_.out (by kernel_rfl)) (fun _ _ _ h => h) (Or.inl ⟨by rfl, ?_⟩) ?_ ?_
     rotate_left
     (focus
     intro w'
     go_simp
     with_reducible rfl
     )
     rotate_left
     (focus
     simp only [Act.put, List.setIfInBounds_toArray, List.set_cons_zero, List.set_cons_succ, i64_w, i32_w]
     rfl
     )
     refine take_ (i := 1) (N := some 35) (v := ?_) (a' := ?_) #[true, true, true, true, true, false, false, false, true, false, false, false] rfl rfl (take_ofW HT_.out HW_.out (by kernel_rfl)) (fun _ _ _ h => h) (Or.inl ⟨by rfl, ?_⟩) hHeld ?_ ?_
     rotate_left
     (focus
     rintro w' ⟨s0, s1, s2, s3, s4, s5, s6⟩
     go_simp
     with_reducible rfl
     )
     rotate_left
     (focus
     simp only [Act.put, List.setIfInBounds_toArray, List.set_cons_zero, List.set_cons_succ, i64_w, i32_w]
     rfl
     )
     refine take_ (i := 5) (N := some 39) (v := ?_) (a' := ?_) #[true, true, true, true, true, true, false, false, true, false, false, false] rfl rfl (take_ofW HT_.out HW_.out (by kernel_rfl)) (fun _ _ _ h => h) (Or.inl ⟨by rfl, ?_⟩) hHeld ?_ ?_
     rotate_left
     (focus
     rintro w' ⟨s0, s1, s2, s3, s4, s5, s6⟩
     go_simp
     with_reducible rfl
     )
     rotate_left
     (focus
     simp only [Act.put, List.setIfInBounds_toArray, List.set_cons_zero, List.set_cons_succ, i64_w, i32_w]
     rfl
     )
     refine pure_ (i := 6) (N := some 40) (v := ?_) (a' := ?_) #[true, true, true, true, true, true, true, false, true, false, false, false] rfl rfl (any_of HT_.out (by kernel_rfl)) (fun _ _ _ h => h) (Or.inl ⟨by rfl, ?_⟩) ?_ ?_
     rotate_left
     (focus
     intro w'
     go_simp
     with_reducible rfl
     )
     rotate_left
     (focus
     simp only [Act.put, List.setIfInBounds_toArray, List.set_cons_zero, List.set_cons_succ, i64_w, i32_w]
     rfl
     )
     refine take_ (i := 7) (N := some 41) (v := ?_) (a' := ?_) #[true, true, true, true, true, true, true, true, true, false, false, false] rfl rfl (take_ofW HT_.out HW_.out (by kernel_rfl)) (fun _ _ _ h => h) (Or.inl ⟨by rfl, ?_⟩) hHeld ?_ ?_
     rotate_left
     (focus
     rintro w' ⟨s0, s1, s2, s3, s4, s5, s6⟩
     go_simp
     with_reducible rfl
     )
     rotate_left
     (focus
     simp only [Act.put, List.setIfInBounds_toArray, List.set_cons_zero, List.set_cons_succ, i64_w, i32_w]
     rfl
     )
     refine pure_ (i := 9) (N := some 43) (v := ?_) (a' := ?_) #[true, true, true, true, true, true, true, true, true, true, false, false] rfl rfl (any_of HT_.out (by kernel_rfl)) (fun _ _ _ h => h) (Or.inl ⟨by rfl, ?_⟩) ?_ ?_
     rotate_left
     (focus
     intro w'
     go_simp
     with_reducible rfl
     )
     rotate_left
     (focus
     simp only [Act.put, List.setIfInBounds_toArray, List.set_cons_zero, List.set_cons_succ, i64_w, i32_w]
     rfl
     )
     refine take_ (i := 10) (N := some 44) (v := ?_) (a' := ?_) #[true, true, true, true, true, true, true, true, true, true, true, false] rfl rfl (take_ofW HT_.out HW_.out (by kernel_rfl)) (fun _ _ _ h => h) (Or.inl ⟨by rfl, ?_⟩) hHeld ?_ ?_
     rotate_left
     (focus
     rintro w' ⟨s0, s1, s2, s3, s4, s5, s6⟩
     go_simp
     with_reducible rfl
     )
     rotate_left
     (focus
     simp only [Act.put, List.setIfInBounds_toArray, List.set_cons_zero, List.set_cons_succ, i64_w, i32_w]
     rfl
     )
     refine pure_ (i := 11) (N := some 9) (v := ?_) (a' := ?_) #[true, true, true, true, true, true, true, true, true, true, true, true] rfl rfl (any_of HT_.out (by kernel_rfl)) (fun _ _ _ h => h) (Or.inl ⟨by rfl, ?_⟩) ?_ ?_
     rotate_left
     (focus
     intro w'
     go_simp
     with_reducible rfl
     )
     rotate_left
     (focus
     simp only [Act.put, List.setIfInBounds_toArray, List.set_cons_zero, List.set_cons_succ, i64_w, i32_w]
     rfl
     )
     refine done_ (done_of HT_.out (by kernel_rfl)) ?_
     have p282 : 0 ≤ ((rd (rd_L1 l0_3 (rd x4_2 x7_1)) x8_2) : Int) := of_decide_eq_true (by first | (with_reducible assumption) | assumption)
     have q282 : (rd (rd_L1 l0_3 (rd x4_2 x7_1)) x8_2) < (x6_2.length : Int) := of_decide_eq_true (by first | (with_reducible assumption) | assumption)
     obtain ⟨ad282, e282, hx282_0⟩ := Kd.at_bool (Kd.R_reads' HO_6.out).2.2 (rd (rd_L1 l0_3 (rd x4_2 x7_1)) x8_2) p282 q282
     (try rw [← Nbq30.out] at hx282_0)
     obtain rfl : (⟨go6, 0, none⟩ : Addr) = ad282 := (by injection e282)
     (first | simp only [add_plain] at hx282_0 | simp only [add_at] at hx282_0 | simp only [Addr.add, Nat.zero_add] at hx282_0 | skip)
     replace p282 := eq_true p282
     replace q282 := eq_true q282
     have p35 : 0 ≤ ((rd (rd_L1 l0_3 (rd x4_2 x7_1)) x8_2) : Int) := of_decide_eq_true (by first | (with_reducible assumption) | assumption)
     have q35 : ((rd (rd_L1 l0_3 (rd x4_2 x7_1)) x8_2) : Int) < ((x6_2.length : Int) : Int) := of_decide_eq_true (by first | (with_reducible assumption) | assumption)
     obtain ⟨hx35_0, hf35_0⟩ := Kd.R_celln false HO_6.out ((rd (rd_L1 l0_3 (rd x4_2 x7_1)) x8_2) : Int) p35 q35
     replace p35 := eq_true p35
     replace q35 := eq_true q35
     obtain ⟨hy43_, hz43_⟩ := Kd.R_celln false HO_6.out ((rd (rd_L1 l0_3 (rd x4_2 x7_1)) x8_2) : Int) (of_decide_eq_true (by first | (with_reducible assumption) | assumption)) (of_decide_eq_true (by first | (with_reducible assumption) | assumption))
     have HP43 := Kd.R_putg HO_6.out ((rd (rd_L1 l0_3 (rd x4_2 x7_1)) x8_2) : Int) true
     try go_wp2_with (first | ((with_reducible refine gate_store (t := 4) (p := 52) rfl ?_); refine store_event (t := 4) (p := 52) (v := ?vo_w44) (w1 := (w41.setCell ⟨go6, ((rd (rd_L1 l0_3 (rd x4_2 x7_1)) x8_2) : Int).toNat, none⟩ (.bool true))) ?hg ?ho ?hn ?hr ?_; (case ho => rfl); (case hg => rfl); (case hn => rfl); (case hr => first | (go_simp; done) | (go_simp; rfl)); intro w44 hw; have hg : w41.grownBy w44 (some go6) := (by rw [hw]; exact HP43.2); have hp_ : Kd.R Kd.bool 4 w44 w.heap.size (fun _ => True) (.slice (some ⟨go6, 0, none⟩) x6_2.length co6) y283 := (by rw [hw, Ny283.out]; exact HP43.1); clear HP43; have n0_ := Aside0.mk (Kd.R_over' (v := (.slice (some ⟨go6, 0, none⟩) x6_2.length co6)) (uR HO_4.out) (Kd.R_typed HO_6.out) (by decide) hg); have n1_ := Aside0.mk (Kd.R_over' (v := (.slice (some ⟨go6, 0, none⟩) x6_2.length co6)) (uR HO_5.out) (Kd.R_typed HO_6.out) (by decide) hg); have n2_ := Aside0.mk (hp_); have n3_ := Aside0.mk (blk_grown (g := gb268) (o := .cells #[.int .i64 a0_0, .int .i64 a0_1, .slice A0_2 l0_2.length c0_2, .slice (some ad280) l0_3.length c0_3] 25 (0, 0)) (uB BK268.out) hg (Kd.R_ne HO_6.out BK268.out (by decide))); have n4_ := Aside0.mk ((by rw [hw]; exact below_set (HB.out) GB6.out : Below w.heap.size w w44)); clear HO_4; clear HO_5; clear HO_6; clear BK268; clear HB; have HO_4 := n0_; have HO_5 := n1_; have HO_6 := n2_; have BK268 := n3_; have HB := n4_; clear n0_ n1_ n2_ n3_ n4_; clear hg hw hp_; obtain ⟨Ao45, co45, eo45⟩ := Kd.R_slice HO_5.out; subst eo45))
     have n0_ := Aside0.mk (Kd.R_drew HO_4.out)
     have n1_ := Aside0.mk (Kd.R_drew HO_5.out)
     have n2_ := Aside0.mk (Kd.R_drew HO_6.out)
     have n3_ := Aside0.mk (blk_drew BK268.out)
     have n4_ := Aside0.mk (below_drew1 HB.out)
     clear HO_4
     clear HO_5
     clear HO_6
     clear BK268
     clear HB
     have HO_4 := n0_
     have HO_5 := n1_
     have HO_6 := n2_
     have BK268 := n3_
     have HB := n4_
     clear n0_ n1_ n2_ n3_ n4_
     have p290 : 0 ≤ (x7_1 : Int) := of_decide_eq_true (by first | (with_reducible assumption) | assumption)
     have q290 : x7_1 < (x5_2.length : Int) := of_decide_eq_true (by first | (with_reducible assumption) | assumption)
     obtain ⟨ad290, e290, hx290_0⟩ := Kd.at_string (Kd.R_reads' HO_5.out).2.2 x7_1 p290 q290
     cases e290
     replace p290 := eq_true p290
     replace q290 := eq_true q290
     refine start_ (n := 19) (S := fun w' => w'.cell? (ad290.add (x7_1).toNat) = some (.string (rdOf ByteArray.empty x5_2 x7_1))) (ds := [16]) #[false, false, false, false, false, false, false, false, false, false, false, false, false, false, false, false, false, false, false] (by kernel_rfl) rfl rfl (hx290_0) (fun hHeld => ?_); refine with_tabW semigroupref07_Access.tab13 semigroupref07_Access.bits13 (fun HT_ HW_ => ?_)
     generalize w44.drew = w46 at HO_4 HO_5 HO_6 BK268 HB hx290_0 hHeld ⊢
     refine pure_ (i := 0) (N := some 53) (v := ?_) (a' := ?_) #[true, false, false, false, false, false, false, false, false, false, false, false, false, false, false, false, false, false, false] rfl rfl (any_of HT_.out (by kernel_rfl)) (fun _ _ _ h => h) (Or.inl ⟨by rfl, ?_⟩) ?_ ?_
     rotate_left
     (focus
     intro w'
     go_simp
     with_reducible rfl
     )
     rotate_left
     (focus
     simp only [Act.put, List.setIfInBounds_toArray, List.set_cons_zero, List.set_cons_succ, i64_w, i32_w]
     rfl
     )
     refine pure_ (i := 1) (N := some 54) (v := ?_) (a' := ?_) #[true, true, false, false, false, false, false, false, false, false, false, false, false, false, false, false, false, false, false] rfl rfl (any_of HT_.out (by kernel_rfl)) (fun _ _ _ h => h) (Or.inl ⟨by rfl, ?_⟩) ?_ ?_
     rotate_left
     (focus
     intro w'
     go_simp
     with_reducible rfl
     )
     rotate_left
     (focus
     simp only [Act.put, List.setIfInBounds_toArray, List.set_cons_zero, List.set_cons_succ, i64_w, i32_w]
     rfl
     )
     refine pure_ (i := 4) (N := some 57) (v := ?_) (a' := ?_) #[true, true, false, false, true, false, false, false, false, false, false, false, false, false, false, false, false, false, false] rfl rfl (any_of HT_.out (by kernel_rfl)) (fun _ _ _ h => h) (Or.inl ⟨by rfl, ?_⟩) ?_ ?_
     rotate_left
     (focus
     intro w'
     go_simp
     with_reducible rfl
     )
     rotate_left
     (focus
     simp only [Act.put, List.setIfInBounds_toArray, List.set_cons_zero, List.set_cons_succ, i64_w, i32_w]
     rfl
     )
     refine pure_ (i := 5) (N := some 58) (v := ?_) (a' := ?_) #[true, true, false, false, true, true, false, false, false, false, false, false, false, false, false, false, false, false, false] rfl rfl (any_of HT_.out (by kernel_rfl)) (fun _ _ _ h => h) (Or.inl ⟨by rfl, ?_⟩) ?_ ?_
     rotate_left
     (focus
     intro w'
     go_simp
     with_reducible rfl
     )
     rotate_left
     (focus
     simp only [Act.put, List.setIfInBounds_toArray, List.set_cons_zero, List.set_cons_succ, i64_w, i32_w]
     rfl
     )
     refine pure_ (i := 6) (N := some 59) (v := ?_) (a' := ?_) #[true, true, false, false, true, true, true, false, false, false, false, false, false, false, false, false, false, false, false] rfl rfl (any_of HT_.out (by kernel_rfl)) (fun _ _ _ h => h) (Or.inl ⟨by rfl, ?_⟩) ?_ ?_
     rotate_left
     (focus
     intro w'
     go_simp
     with_reducible rfl
     )
     rotate_left
     (focus
     simp only [Act.put, List.setIfInBounds_toArray, List.set_cons_zero, List.set_cons_succ, i64_w, i32_w]
     rfl
     )
     refine pure_ (i := 7) (N := some 60) (v := ?_) (a' := ?_) #[true, true, false, false, true, true, true, true, false, false, false, false, false, false, false, false, false, false, false] rfl rfl (any_of HT_.out (by kernel_rfl)) (fun _ _ _ h => h) (Or.inl ⟨by rfl, ?_⟩) ?_ ?_
     rotate_left
     (focus
     intro w'
     go_simp
     with_reducible rfl
     )
     rotate_left
     (focus
     simp only [Act.put, List.setIfInBounds_toArray, List.set_cons_zero, List.set_cons_succ, i64_w, i32_w]
     rfl
     )
     refine pure_ (i := 9) (N := some 62) (v := ?_) (a' := ?_) #[true, true, false, false, true, true, true, true, false, true, false, false, false, false, false, false, false, false, false] rfl rfl (any_of HT_.out (by kernel_rfl)) (fun _ _ _ h => h) (Or.inl ⟨by rfl, ?_⟩) ?_ ?_
     rotate_left
     (focus
     intro w'
     go_simp
     with_reducible rfl
     )
     rotate_left
     (focus
     simp only [Act.put, List.setIfInBounds_toArray, List.set_cons_zero, List.set_cons_succ, i64_w, i32_w]
     rfl
     )
     refine pure_ (i := 10) (N := some 63) (v := ?_) (a' := ?_) #[true, true, false, false, true, true, true, true, false, true, true, false, false, false, false, false, false, false, false] rfl rfl (any_of HT_.out (by kernel_rfl)) (fun _ _ _ h => h) (Or.inl ⟨by rfl, ?_⟩) ?_ ?_
     rotate_left
     (focus
     intro w'
     go_simp
     with_reducible rfl
     )
     rotate_left
     (focus
     simp only [Act.put, List.setIfInBounds_toArray, List.set_cons_zero, List.set_cons_succ, i64_w, i32_w]
     rfl
     )
     refine pure_ (i := 11) (N := some 64) (v := ?_) (a' := ?_) #[true, true, false, false, true, true, true, true, false, true, true, true, false, false, false, false, false, false, false] rfl rfl (any_of HT_.out (by kernel_rfl)) (fun _ _ _ h => h) (Or.inl ⟨by rfl, ?_⟩) ?_ ?_
     rotate_left
     (focus
     intro w'
     go_simp
     with_reducible rfl
     )
     rotate_left
     (focus
     simp only [Act.put, List.setIfInBounds_toArray, List.set_cons_zero, List.set_cons_succ, i64_w, i32_w]
     rfl
     )
     refine take_ (i := 8) (N := some 61) (v := ?_) (a' := ?_) #[true, true, false, false, true, true, true, true, true, true, true, true, false, false, false, false, false, false, false] rfl rfl (take_ofW HT_.out HW_.out (by kernel_rfl)) (fun _ _ _ h => h) (Or.inl ⟨by rfl, ?_⟩) hHeld ?_ ?_
     rotate_left
     (focus
     intro w' s0
     go_simp
     with_reducible rfl
     )
     rotate_left
     (focus
     simp only [Act.put, List.setIfInBounds_toArray, List.set_cons_zero, List.set_cons_succ, i64_w, i32_w]
     rfl
     )
     refine join_ (σ := Value × Value × Value × Value) 3 #[true, true, true, true, true, true, true, true, true, true, true, true, true, true, true, true, false, false, false] (fun s_ => [(55, s_.1), (56, s_.2.1), (65, s_.2.2.1), (66, .string (strOfNums y291)), (68, s_.2.2.2), (67, .string ((rdOf ByteArray.empty x5_2 x7_1) ++ (strOfNums y291)))]) (fun s_ w' => (w'.cell? (ad290.add (x7_1).toNat) = some (.string (rdOf ByteArray.empty x5_2 x7_1))) ∧ (Kd.R (Kd.int .i64) 3 w' w.heap.size (fun k_ => some k_ ≠ (s_.2.1 : Value).ownBlock) s_.1 y284) ∧ (Kd.R (Kd.int .i64) 3 w' w.heap.size (fun k_ => some k_ ≠ (s_.1 : Value).ownBlock) s_.2.1 y287) ∧ (Kd.R (Kd.int .u8) 5 w' w.heap.size (fun _ => True) s_.2.2.1 y291) ∧ (Kd.R Kd.string 9 w' w.heap.size (fun k_ => some k_ ≠ (.slice (some ad290) x5_2.length co45 : Value).ownBlock) s_.2.2.2 y294) ∧ (Kd.R Kd.string 9 w' w.heap.size (fun k_ => some k_ ≠ (s_.2.2.2 : Value).ownBlock) (.slice (some ad290) x5_2.length co45) x5_2) ∧ (Kd.R Kd.bool 4 w' w.heap.size (fun _ => True) (.slice (some ⟨go6, 0, none⟩) x6_2.length co6) y283) ∧ (w'.heap[gb268]? = some (.cells #[.int .i64 a0_0, .int .i64 a0_1, .slice A0_2 l0_2.length c0_2, .slice (some ad280) l0_3.length c0_3] 25 (0, 0))) ∧ (Below w.heap.size w w')) ?_ ?_
     rotate_left
     (focus
     intro hJ2_3_12_13_15
     refine join_ (σ := Value × Value × Value) 4 #[true, true, true, true, true, true, true, true, true, true, true, true, true, true, true, false, false, false, false] (fun s_ => [(55, s_.1), (56, s_.2.1), (65, s_.2.2), (66, .string (strOfNums y291)), (67, .string ((rdOf ByteArray.empty x5_2 x7_1) ++ (strOfNums y291)))]) (fun s_ w' => (w'.cell? (ad290.add (x7_1).toNat) = some (.string (rdOf ByteArray.empty x5_2 x7_1))) ∧ (Kd.R (Kd.int .i64) 3 w' w.heap.size (fun k_ => some k_ ≠ (s_.2.1 : Value).ownBlock) s_.1 y284) ∧ (Kd.R (Kd.int .i64) 3 w' w.heap.size (fun k_ => some k_ ≠ (s_.1 : Value).ownBlock) s_.2.1 y287) ∧ (Kd.R (Kd.int .u8) 5 w' w.heap.size (fun _ => True) s_.2.2 y291) ∧ (Kd.R Kd.string 9 w' w.heap.size (fun _ => True) (.slice (some ad290) x5_2.length co45) x5_2) ∧ (Kd.R Kd.bool 4 w' w.heap.size (fun _ => True) (.slice (some ⟨go6, 0, none⟩) x6_2.length co6) y283) ∧ (w'.heap[gb268]? = some (.cells #[.int .i64 a0_0, .int .i64 a0_1, .slice A0_2 l0_2.length c0_2, .slice (some ad280) l0_3.length c0_3] 25 (0, 0))) ∧ (Below w.heap.size w w')) ?_ ?_
     rotate_left
     (focus
     intro hJ2_3_12_13
     refine join_ (σ := Value × Value × Value) 4 #[true, true, true, false, true, true, true, true, true, true, true, true, true, true, true, true, false, false, false] (fun s_ => [(55, s_.1), (65, s_.2.1), (66, .string (strOfNums y291)), (68, s_.2.2), (67, .string ((rdOf ByteArray.empty x5_2 x7_1) ++ (strOfNums y291)))]) (fun s_ w' => (w'.cell? (ad290.add (x7_1).toNat) = some (.string (rdOf ByteArray.empty x5_2 x7_1))) ∧ (Kd.R (Kd.int .i64) 3 w' w.heap.size (fun k_ => some k_ ≠ (.slice (some ad279) x4_2.length co42 : Value).ownBlock) s_.1 y284) ∧ (Kd.R (Kd.int .u8) 5 w' w.heap.size (fun _ => True) s_.2.1 y291) ∧ (Kd.R Kd.string 9 w' w.heap.size (fun k_ => some k_ ≠ (.slice (some ad290) x5_2.length co45 : Value).ownBlock) s_.2.2 y294) ∧ (Kd.R (Kd.int .i64) 3 w' w.heap.size (fun k_ => some k_ ≠ (s_.1 : Value).ownBlock) (.slice (some ad279) x4_2.length co42) x4_2) ∧ (Kd.R Kd.string 9 w' w.heap.size (fun k_ => some k_ ≠ (s_.2.2 : Value).ownBlock) (.slice (some ad290) x5_2.length co45) x5_2) ∧ (Kd.R Kd.bool 4 w' w.heap.size (fun _ => True) (.slice (some ⟨go6, 0, none⟩) x6_2.length co6) y283) ∧ (w'.heap[gb268]? = some (.cells #[.int .i64 a0_0, .int .i64 a0_1, .slice A0_2 l0_2.length c0_2, .slice (some ad280) l0_3.length c0_3] 25 (0, 0))) ∧ (Below w.heap.size w w')) ?_ ?_
     rotate_left
     (focus
     intro hJ2_12_13_15
     refine join_ (σ := Value × Value × Value) 6 #[true, true, true, true, true, true, true, true, true, true, true, true, true, false, false, false, false, false, false] (fun s_ => [(55, s_.1), (56, s_.2.1), (65, s_.2.2)]) (fun s_ w' => (w'.cell? (ad290.add (x7_1).toNat) = some (.string (rdOf ByteArray.empty x5_2 x7_1))) ∧ (Kd.R (Kd.int .i64) 3 w' w.heap.size (fun k_ => some k_ ≠ (s_.2.1 : Value).ownBlock) s_.1 y284) ∧ (Kd.R (Kd.int .i64) 3 w' w.heap.size (fun k_ => some k_ ≠ (s_.1 : Value).ownBlock) s_.2.1 y287) ∧ (Kd.R (Kd.int .u8) 5 w' w.heap.size (fun _ => True) s_.2.2 y291) ∧ (Kd.R Kd.string 9 w' w.heap.size (fun _ => True) (.slice (some ad290) x5_2.length co45) x5_2) ∧ (Kd.R Kd.bool 4 w' w.heap.size (fun _ => True) (.slice (some ⟨go6, 0, none⟩) x6_2.length co6) y283) ∧ (w'.heap[gb268]? = some (.cells #[.int .i64 a0_0, .int .i64 a0_1, .slice A0_2 l0_2.length c0_2, .slice (some ad280) l0_3.length c0_3] 25 (0, 0))) ∧ (Below w.heap.size w w')) ?_ ?_
     rotate_left
     (focus
     intro hJ2_3_12
     refine join_ (σ := Value × Value) 5 #[true, true, true, false, true, true, true, true, true, true, true, true, true, true, true, false, false, false, false] (fun s_ => [(55, s_.1), (65, s_.2), (66, .string (strOfNums y291)), (67, .string ((rdOf ByteArray.empty x5_2 x7_1) ++ (strOfNums y291)))]) (fun s_ w' => (w'.cell? (ad290.add (x7_1).toNat) = some (.string (rdOf ByteArray.empty x5_2 x7_1))) ∧ (Kd.R (Kd.int .i64) 3 w' w.heap.size (fun k_ => some k_ ≠ (.slice (some ad279) x4_2.length co42 : Value).ownBlock) s_.1 y284) ∧ (Kd.R (Kd.int .u8) 5 w' w.heap.size (fun _ => True) s_.2 y291) ∧ (Kd.R (Kd.int .i64) 3 w' w.heap.size (fun k_ => some k_ ≠ (s_.1 : Value).ownBlock) (.slice (some ad279) x4_2.length co42) x4_2) ∧ (Kd.R Kd.string 9 w' w.heap.size (fun _ => True) (.slice (some ad290) x5_2.length co45) x5_2) ∧ (Kd.R Kd.bool 4 w' w.heap.size (fun _ => True) (.slice (some ⟨go6, 0, none⟩) x6_2.length co6) y283) ∧ (w'.heap[gb268]? = some (.cells #[.int .i64 a0_0, .int .i64 a0_1, .slice A0_2 l0_2.length c0_2, .slice (some ad280) l0_3.length c0_3] 25 (0, 0))) ∧ (Below w.heap.size w w')) ?_ ?_
     rotate_left
     (focus
     intro hJ2_12_13
     refine join_ (σ := Value × Value) 5 #[true, true, false, false, true, true, true, true, true, true, true, true, true, true, true, true, false, false, false] (fun s_ => [(65, s_.1), (66, .string (strOfNums y291)), (68, s_.2), (67, .string ((rdOf ByteArray.empty x5_2 x7_1) ++ (strOfNums y291)))]) (fun s_ w' => (w'.cell? (ad290.add (x7_1).toNat) = some (.string (rdOf ByteArray.empty x5_2 x7_1))) ∧ (Kd.R (Kd.int .u8) 5 w' w.heap.size (fun _ => True) s_.1 y291) ∧ (Kd.R Kd.string 9 w' w.heap.size (fun k_ => some k_ ≠ (.slice (some ad290) x5_2.length co45 : Value).ownBlock) s_.2 y294) ∧ (Kd.R (Kd.int .i64) 3 w' w.heap.size (fun _ => True) (.slice (some ad279) x4_2.length co42) x4_2) ∧ (Kd.R Kd.string 9 w' w.heap.size (fun k_ => some k_ ≠ (s_.2 : Value).ownBlock) (.slice (some ad290) x5_2.length co45) x5_2) ∧ (Kd.R Kd.bool 4 w' w.heap.size (fun _ => True) (.slice (some ⟨go6, 0, none⟩) x6_2.length co6) y283) ∧ (w'.heap[gb268]? = some (.cells #[.int .i64 a0_0, .int .i64 a0_1, .slice A0_2 l0_2.length c0_2, .slice (some ad280) l0_3.length c0_3] 25 (0, 0))) ∧ (Below w.heap.size w w')) ?_ ?_
     rotate_left
     (focus
     intro hJ12_13_15
     refine join_ (σ := Value × Value) 7 #[true, true, true, true, true, true, true, true, true, true, true, true, false, false, false, false, false, false, false] (fun s_ => [(55, s_.1), (56, s_.2)]) (fun s_ w' => (w'.cell? (ad290.add (x7_1).toNat) = some (.string (rdOf ByteArray.empty x5_2 x7_1))) ∧ (Kd.R (Kd.int .i64) 3 w' w.heap.size (fun k_ => some k_ ≠ (s_.2 : Value).ownBlock) s_.1 y284) ∧ (Kd.R (Kd.int .i64) 3 w' w.heap.size (fun k_ => some k_ ≠ (s_.1 : Value).ownBlock) s_.2 y287) ∧ (Kd.R Kd.string 9 w' w.heap.size (fun _ => True) (.slice (some ad290) x5_2.length co45) x5_2) ∧ (Kd.R Kd.bool 4 w' w.heap.size (fun _ => True) (.slice (some ⟨go6, 0, none⟩) x6_2.length co6) y283) ∧ (w'.heap[gb268]? = some (.cells #[.int .i64 a0_0, .int .i64 a0_1, .slice A0_2 l0_2.length c0_2, .slice (some ad280) l0_3.length c0_3] 25 (0, 0))) ∧ (Below w.heap.size w w')) ?_ ?_
     rotate_left
     (focus
     intro hJ2_3
     refine join_ (σ := Value × Value) 7 #[true, true, true, false, true, true, true, true, true, true, true, true, true, false, false, false, false, false, false] (fun s_ => [(55, s_.1), (65, s_.2)]) (fun s_ w' => (w'.cell? (ad290.add (x7_1).toNat) = some (.string (rdOf ByteArray.empty x5_2 x7_1))) ∧ (Kd.R (Kd.int .i64) 3 w' w.heap.size (fun k_ => some k_ ≠ (.slice (some ad279) x4_2.length co42 : Value).ownBlock) s_.1 y284) ∧ (Kd.R (Kd.int .u8) 5 w' w.heap.size (fun _ => True) s_.2 y291) ∧ (Kd.R (Kd.int .i64) 3 w' w.heap.size (fun k_ => some k_ ≠ (s_.1 : Value).ownBlock) (.slice (some ad279) x4_2.length co42) x4_2) ∧ (Kd.R Kd.string 9 w' w.heap.size (fun _ => True) (.slice (some ad290) x5_2.length co45) x5_2) ∧ (Kd.R Kd.bool 4 w' w.heap.size (fun _ => True) (.slice (some ⟨go6, 0, none⟩) x6_2.length co6) y283) ∧ (w'.heap[gb268]? = some (.cells #[.int .i64 a0_0, .int .i64 a0_1, .slice A0_2 l0_2.length c0_2, .slice (some ad280) l0_3.length c0_3] 25 (0, 0))) ∧ (Below w.heap.size w w')) ?_ ?_
     rotate_left
     (focus
     intro hJ2_12
     refine join_ (σ := Value) 6 #[true, true, false, false, true, true, true, true, true, true, true, true, true, true, true, false, false, false, false] (fun s_ => [(65, s_), (66, .string (strOfNums y291)), (67, .string ((rdOf ByteArray.empty x5_2 x7_1) ++ (strOfNums y291)))]) (fun s_ w' => (w'.cell? (ad290.add (x7_1).toNat) = some (.string (rdOf ByteArray.empty x5_2 x7_1))) ∧ (Kd.R (Kd.int .u8) 5 w' w.heap.size (fun _ => True) s_ y291) ∧ (Kd.R (Kd.int .i64) 3 w' w.heap.size (fun _ => True) (.slice (some ad279) x4_2.length co42) x4_2) ∧ (Kd.R Kd.string 9 w' w.heap.size (fun _ => True) (.slice (some ad290) x5_2.length co45) x5_2) ∧ (Kd.R Kd.bool 4 w' w.heap.size (fun _ => True) (.slice (some ⟨go6, 0, none⟩) x6_2.length co6) y283) ∧ (w'.heap[gb268]? = some (.cells #[.int .i64 a0_0, .int .i64 a0_1, .slice A0_2 l0_2.length c0_2, .slice (some ad280) l0_3.length c0_3] 25 (0, 0))) ∧ (Below w.heap.size w w')) ?_ ?_
     rotate_left
     (focus
     intro hJ12_13
     refine join_ (σ := Value) 8 #[true, true, true, false, true, true, true, true, true, true, true, true, false, false, false, false, false, false, false] (fun s_ => [(55, s_)]) (fun s_ w' => (w'.cell? (ad290.add (x7_1).toNat) = some (.string (rdOf ByteArray.empty x5_2 x7_1))) ∧ (Kd.R (Kd.int .i64) 3 w' w.heap.size (fun k_ => some k_ ≠ (.slice (some ad279) x4_2.length co42 : Value).ownBlock) s_ y284) ∧ (Kd.R (Kd.int .i64) 3 w' w.heap.size (fun k_ => some k_ ≠ (s_ : Value).ownBlock) (.slice (some ad279) x4_2.length co42) x4_2) ∧ (Kd.R Kd.string 9 w' w.heap.size (fun _ => True) (.slice (some ad290) x5_2.length co45) x5_2) ∧ (Kd.R Kd.bool 4 w' w.heap.size (fun _ => True) (.slice (some ⟨go6, 0, none⟩) x6_2.length co6) y283) ∧ (w'.heap[gb268]? = some (.cells #[.int .i64 a0_0, .int .i64 a0_1, .slice A0_2 l0_2.length c0_2, .slice (some ad280) l0_3.length c0_3] 25 (0, 0))) ∧ (Below w.heap.size w w')) ?_ ?_
     rotate_left
     (focus
     intro hJ2
     refine join_ (σ := Value) 8 #[true, true, false, false, true, true, true, true, true, true, true, true, true, false, false, false, false, false, false] (fun s_ => [(65, s_)]) (fun s_ w' => (w'.cell? (ad290.add (x7_1).toNat) = some (.string (rdOf ByteArray.empty x5_2 x7_1))) ∧ (Kd.R (Kd.int .u8) 5 w' w.heap.size (fun _ => True) s_ y291) ∧ (Kd.R (Kd.int .i64) 3 w' w.heap.size (fun _ => True) (.slice (some ad279) x4_2.length co42) x4_2) ∧ (Kd.R Kd.string 9 w' w.heap.size (fun _ => True) (.slice (some ad290) x5_2.length co45) x5_2) ∧ (Kd.R Kd.bool 4 w' w.heap.size (fun _ => True) (.slice (some ⟨go6, 0, none⟩) x6_2.length co6) y283) ∧ (w'.heap[gb268]? = some (.cells #[.int .i64 a0_0, .int .i64 a0_1, .slice A0_2 l0_2.length c0_2, .slice (some ad280) l0_3.length c0_3] 25 (0, 0))) ∧ (Below w.heap.size w w')) ?_ ?_
     rotate_left
     (focus
     intro hJ12
     refine two_ (i := 2) (j := 12) (Ni := some 55) (Nj := some 65) #[true, true, true, false, true, true, true, true, true, true, true, true, false, false, false, false, false, false, false] #[true, true, false, false, true, true, true, true, true, true, true, true, true, false, false, false, false, false, false] rfl rfl rfl rfl (two_of HT_.out (by kernel_rfl)) (by decide) (by decide) (fun K hK => ?_) (fun K hK => ?_)
     (focus
     skip
     refine Kd.R_lit_step (Kd.int .i64) _ 3 ?hg (N := 55) ?hd (xs := ([rd (rd_L1 l0_3 (rd x4_2 x7_1)) x8_2] : List Int)) (inner := [.int .i64 (rd (rd_L1 l0_3 (rd x4_2 x7_1)) x8_2)]) (ok := fun _ => True) (okp := fun _ => True) ?hr ?hp (fun _ hk => hk) trivial (Below.refl _ _) (Nat.le_refl _) (by simp) ?_; (case hd => rfl); (case hg => rfl); (case hr => first | (go_simp; done) | (go_simp; rfl)); (case hp => exact (Reps.one (show Kd.M (Kd.int .i64) _ _ _ (rd (rd_L1 l0_3 (rd x4_2 x7_1)) x8_2) [.int .i64 (rd (rd_L1 l0_3 (rd x4_2 x7_1)) x8_2)] from rfl) (Reps.none _ _)))
     intro v285 w47 ho48 hb hg_ hnew_
     have HS0_ := (hb.cell (World.block_lt_of_cell? _ _ (hHeld))).trans (hHeld)
     clear hg_ hnew_
     (first | rw [← Ny284.out] at ho48 | (simp only [Int.reduceToNat] at ho48; rw [← Ny284.out] at ho48))
     have n0_ := Aside0.mk (Kd.R_elder' (uR HO_4.out) (Kd.R_base ho48) hb)
     have n1_ := Aside0.mk (Kd.R_below (uR HO_5.out) hb)
     have n2_ := Aside0.mk (Kd.R_below (uR HO_6.out) hb)
     have n3_ := Aside0.mk (Kd.R_lower (Kd.R_new' ho48 (Kd.R_lt (uR HO_4.out))) (below_size (by repeat (first | (with_reducible first | exact HB.out | apply below_alloc | apply pw_below_drewN | apply below_drew1 | refine below_set ?_ GE268.out) | exact HB.out))))
     have n4_ := Aside0.mk (blk_below (g := gb268) (o := .cells #[.int .i64 a0_0, .int .i64 a0_1, .slice A0_2 l0_2.length c0_2, .slice (some ad280) l0_3.length c0_3] 25 (0, 0)) (uB BK268.out) hb)
     have n5_ := Aside0.mk (below_step (by repeat (first | (with_reducible first | exact HB.out | apply below_alloc | apply pw_below_drewN | apply below_drew1 | refine below_set ?_ GE268.out) | exact HB.out)) hb)
     clear HO_4
     clear HO_5
     clear HO_6
     clear BK268
     clear HB
     have HO_4 := n0_
     have HO_5 := n1_
     have HO_6 := n2_
     have HO286 := n3_
     have BK268 := n4_
     have HB := n5_
     clear n0_ n1_ n2_ n3_ n4_ n5_
     clear hb ho48
     refine hK.out _ _ (HS0_) (fun hHeld => ?_)
     clear hK K
     refine norm_ (a' := ?_) ?_ ?_
     rotate_left
     (focus
     show Act.put _ (some 55) _ = _
     simp only [Act.put, List.setIfInBounds_toArray, List.set_cons_zero, List.set_cons_succ, i64_w, i32_w]
     rfl
     )
     exact norm_ (by first | (simp only [putAll, Act.put, List.setIfInBounds_toArray, List.set_cons_zero, List.set_cons_succ]; done) | (simp only [putAll, Act.put, List.setIfInBounds_toArray, List.set_cons_zero, List.set_cons_succ]; rfl)) (hJ2 (v285) _ ⟨hHeld, (uR (Kd.R_mono HO286.out (fun _ hk => hk.2))), (uR (Kd.R_mono HO_4.out (fun _ hk => hk.2))), (uR HO_5.out), (uR HO_6.out), (uB BK268.out), (by repeat (first | (with_reducible first | exact HB.out | apply below_alloc | apply pw_below_drewN | apply below_drew1 | refine below_set ?_ GE268.out) | exact HB.out))⟩)
     )
     (focus
     skip
     refine Kd.R_lit_step (Kd.int .u8) _ 5 ?hg (N := 65) ?hd (xs := ([(wrap64 (97 + x8_2)) % 256] : List Int)) (inner := [.int .u8 ((wrap64 (97 + x8_2)) % 256)]) (ok := fun _ => True) (okp := fun _ => True) ?hr ?hp (fun _ hk => hk) trivial (Below.refl _ _) (Nat.le_refl _) (by simp) ?_; (case hd => rfl); (case hg => rfl); (case hr => first | (go_simp; done) | (go_simp; rfl)); (case hp => exact (Reps.one (show Kd.M (Kd.int .u8) _ _ _ ((wrap64 (97 + x8_2)) % 256) [.int .u8 ((wrap64 (97 + x8_2)) % 256)] from rfl) (Reps.none _ _)))
     intro v292 w47 ho48 hb hg_ hnew_
     have HS0_ := (hb.cell (World.block_lt_of_cell? _ _ (hHeld))).trans (hHeld)
     clear hg_ hnew_
     (first | rw [← Ny291.out] at ho48 | (simp only [Int.reduceToNat] at ho48; rw [← Ny291.out] at ho48))
     have n0_ := Aside0.mk (Kd.R_below (uR HO_4.out) hb)
     have n1_ := Aside0.mk (Kd.R_below (uR HO_5.out) hb)
     have n2_ := Aside0.mk (Kd.R_below (uR HO_6.out) hb)
     have n3_ := Aside0.mk (Kd.R_lower ho48 (below_size (by repeat (first | (with_reducible first | exact HB.out | apply below_alloc | apply pw_below_drewN | apply below_drew1 | refine below_set ?_ GE268.out) | exact HB.out))))
     have n4_ := Aside0.mk (blk_below (g := gb268) (o := .cells #[.int .i64 a0_0, .int .i64 a0_1, .slice A0_2 l0_2.length c0_2, .slice (some ad280) l0_3.length c0_3] 25 (0, 0)) (uB BK268.out) hb)
     have n5_ := Aside0.mk (below_step (by repeat (first | (with_reducible first | exact HB.out | apply below_alloc | apply pw_below_drewN | apply below_drew1 | refine below_set ?_ GE268.out) | exact HB.out)) hb)
     clear HO_4
     clear HO_5
     clear HO_6
     clear BK268
     clear HB
     have HO_4 := n0_
     have HO_5 := n1_
     have HO_6 := n2_
     have HO293 := n3_
     have BK268 := n4_
     have HB := n5_
     clear n0_ n1_ n2_ n3_ n4_ n5_
     clear hb ho48
     refine hK.out _ _ (HS0_) (fun hHeld => ?_)
     clear hK K
     refine norm_ (a' := ?_) ?_ ?_
     rotate_left
     (focus
     show Act.put _ (some 65) _ = _
     simp only [Act.put, List.setIfInBounds_toArray, List.set_cons_zero, List.set_cons_succ, i64_w, i32_w]
     rfl
     )
     exact norm_ (by first | (simp only [putAll, Act.put, List.setIfInBounds_toArray, List.set_cons_zero, List.set_cons_succ]; done) | (simp only [putAll, Act.put, List.setIfInBounds_toArray, List.set_cons_zero, List.set_cons_succ]; rfl)) (hJ12 (v292) _ ⟨hHeld, (uR HO293.out), (uR HO_4.out), (uR HO_5.out), (uR HO_6.out), (uB BK268.out), (by repeat (first | (with_reducible first | exact HB.out | apply below_alloc | apply pw_below_drewN | apply below_drew1 | refine below_set ?_ GE268.out) | exact HB.out))⟩)
     )
     )
     (focus
     skip
     rintro v292 w49 ⟨hS_, h0_, h1_, h2_, h3_, h4_, h5_⟩
     have n0_ : Aside0 (Kd.R (Kd.int .u8) 5 w49 w.heap.size (fun _ => True) v292 y291) := ⟨h0_⟩
     have n1_ : Aside0 (Kd.R (Kd.int .i64) 3 w49 w.heap.size (fun _ => True) (.slice (some ad279) x4_2.length co42) x4_2) := ⟨h1_⟩
     have n2_ : Aside0 (Kd.R Kd.string 9 w49 w.heap.size (fun _ => True) (.slice (some ad290) x5_2.length co45) x5_2) := ⟨h2_⟩
     have n3_ : Aside0 (Kd.R Kd.bool 4 w49 w.heap.size (fun _ => True) (.slice (some ⟨go6, 0, none⟩) x6_2.length co6) y283) := ⟨h3_⟩
     have n4_ : Aside0 (w49.heap[gb268]? = some (.cells #[.int .i64 a0_0, .int .i64 a0_1, .slice A0_2 l0_2.length c0_2, .slice (some ad280) l0_3.length c0_3] 25 (0, 0))) := ⟨h4_⟩
     have n5_ : Aside0 (Below w.heap.size w w49) := ⟨h5_⟩
     clear HO_4
     clear HO_5
     clear HO_6
     clear BK268
     clear HB
     clear h0_ h1_ h2_ h3_ h4_ h5_
     have HO293 := n0_
     have HO_4 := n1_
     have HO_5 := n2_
     have HO_6 := n3_
     have BK268 := n4_
     have HB := n5_
     clear n0_ n1_ n2_ n3_ n4_ n5_
     have hHeld : w49.cell? (ad290.add (x7_1).toNat) = some (.string (rdOf ByteArray.empty x5_2 x7_1)) := hS_
     refine norm_ (a' := ?_) ?_ ?_
     rotate_left
     (focus
     simp only [putAll, Act.put, List.setIfInBounds_toArray, List.set_cons_zero, List.set_cons_succ]
     rfl
     )
     refine two_ (i := 2) (j := 13) (Ni := some 55) (Nj := some 66) #[true, true, true, false, true, true, true, true, true, true, true, true, true, false, false, false, false, false, false] #[true, true, false, false, true, true, true, true, true, true, true, true, true, true, false, false, false, false, false] rfl rfl rfl rfl (two_of HT_.out (by kernel_rfl)) (by decide) (by decide) (fun K hK => ?_) (fun K hK => ?_)
     (focus
     skip
     refine Kd.R_lit_step (Kd.int .i64) _ 3 ?hg (N := 55) ?hd (xs := ([rd (rd_L1 l0_3 (rd x4_2 x7_1)) x8_2] : List Int)) (inner := [.int .i64 (rd (rd_L1 l0_3 (rd x4_2 x7_1)) x8_2)]) (ok := fun _ => True) (okp := fun _ => True) ?hr ?hp (fun _ hk => hk) trivial (Below.refl _ _) (Nat.le_refl _) (by simp) ?_; (case hd => rfl); (case hg => rfl); (case hr => first | (go_simp; done) | (go_simp; rfl)); (case hp => exact (Reps.one (show Kd.M (Kd.int .i64) _ _ _ (rd (rd_L1 l0_3 (rd x4_2 x7_1)) x8_2) [.int .i64 (rd (rd_L1 l0_3 (rd x4_2 x7_1)) x8_2)] from rfl) (Reps.none _ _)))
     intro v285 w50 ho51 hb hg_ hnew_
     have HS0_ := (hb.cell (World.block_lt_of_cell? _ _ (hHeld))).trans (hHeld)
     clear hg_ hnew_
     (first | rw [← Ny284.out] at ho51 | (simp only [Int.reduceToNat] at ho51; rw [← Ny284.out] at ho51))
     have n0_ := Aside0.mk (Kd.R_elder' (uR HO_4.out) (Kd.R_base ho51) hb)
     have n1_ := Aside0.mk (Kd.R_below (uR HO_5.out) hb)
     have n2_ := Aside0.mk (Kd.R_below (uR HO_6.out) hb)
     have n3_ := Aside0.mk (Kd.R_below (uR HO293.out) hb)
     have n4_ := Aside0.mk (Kd.R_lower (Kd.R_new' ho51 (Kd.R_lt (uR HO_4.out))) (below_size (by repeat (first | (with_reducible first | exact HB.out | apply below_alloc | apply pw_below_drewN | apply below_drew1 | refine below_set ?_ GE268.out) | exact HB.out))))
     have n5_ := Aside0.mk (blk_below (g := gb268) (o := .cells #[.int .i64 a0_0, .int .i64 a0_1, .slice A0_2 l0_2.length c0_2, .slice (some ad280) l0_3.length c0_3] 25 (0, 0)) (uB BK268.out) hb)
     have n6_ := Aside0.mk (below_step (by repeat (first | (with_reducible first | exact HB.out | apply below_alloc | apply pw_below_drewN | apply below_drew1 | refine below_set ?_ GE268.out) | exact HB.out)) hb)
     clear HO_4
     clear HO_5
     clear HO_6
     clear HO293
     clear BK268
     clear HB
     have HO_4 := n0_
     have HO_5 := n1_
     have HO_6 := n2_
     have HO293 := n3_
     have HO286 := n4_
     have BK268 := n5_
     have HB := n6_
     clear n0_ n1_ n2_ n3_ n4_ n5_ n6_
     clear hb ho51
     refine hK.out _ _ (HS0_) (fun hHeld => ?_)
     clear hK K
     refine norm_ (a' := ?_) ?_ ?_
     rotate_left
     (focus
     show Act.put _ (some 55) _ = _
     simp only [Act.put, List.setIfInBounds_toArray, List.set_cons_zero, List.set_cons_succ, i64_w, i32_w]
     rfl
     )
     exact norm_ (by first | (simp only [putAll, Act.put, List.setIfInBounds_toArray, List.set_cons_zero, List.set_cons_succ]; done) | (simp only [putAll, Act.put, List.setIfInBounds_toArray, List.set_cons_zero, List.set_cons_succ]; rfl)) (hJ2_12 (v285, v292) _ ⟨hHeld, (uR (Kd.R_mono HO286.out (fun _ hk => hk.2))), (uR HO293.out), (uR (Kd.R_mono HO_4.out (fun _ hk => hk.2))), (uR HO_5.out), (uR HO_6.out), (uB BK268.out), (by repeat (first | (with_reducible first | exact HB.out | apply below_alloc | apply pw_below_drewN | apply below_drew1 | refine below_set ?_ GE268.out) | exact HB.out))⟩)
     )
     (focus
     skip
     have hcv50 := own_string (P := Try.prog) Try.underlying56 Try.underlying5 Try.underlying9 (Kd.own_of_R HO293.out)
     refine value_ (w1 := ?_) (v := ?_) (by rfl) rfl ?_ ?_
     rotate_left 2
     (focus
     go_simp
     constructor
     (focus
     rfl
     )
     (focus
     rfl
     )
     )
     clear hcv50
     refine hK.out _ _ (hHeld) (fun hHeld => ?_)
     clear hK K
     refine norm_ (a' := ?_) ?_ ?_
     rotate_left
     (focus
     show Act.put _ (some 66) _ = _
     simp only [Act.put, List.setIfInBounds_toArray, List.set_cons_zero, List.set_cons_succ, i64_w, i32_w]
     rfl
     )
     refine pure_ (i := 14) (N := some 67) (v := ?_) (a' := ?_) #[true, true, false, false, true, true, true, true, true, true, true, true, true, true, true, false, false, false, false] rfl rfl (any_of HT_.out (by kernel_rfl)) (fun _ _ _ h => h) (Or.inl ⟨by rfl, ?_⟩) ?_ ?_
     rotate_left
     (focus
     intro w'
     go_simp
     with_reducible rfl
     )
     rotate_left
     (focus
     simp only [Act.put, List.setIfInBounds_toArray, List.set_cons_zero, List.set_cons_succ, i64_w, i32_w]
     rfl
     )
     exact norm_ (by first | (simp only [putAll, Act.put, List.setIfInBounds_toArray, List.set_cons_zero, List.set_cons_succ]; done) | (simp only [putAll, Act.put, List.setIfInBounds_toArray, List.set_cons_zero, List.set_cons_succ]; rfl)) (hJ12_13 (v292) _ ⟨hHeld, (uR HO293.out), (uR HO_4.out), (uR HO_5.out), (uR HO_6.out), (uB BK268.out), (by repeat (first | (with_reducible first | exact HB.out | apply below_alloc | apply pw_below_drewN | apply below_drew1 | refine below_set ?_ GE268.out) | exact HB.out))⟩)
     )
     )
     )
     (focus
     skip
     rintro v285 w49 ⟨hS_, h0_, h1_, h2_, h3_, h4_, h5_⟩
     have n0_ : Aside0 (Kd.R (Kd.int .i64) 3 w49 w.heap.size (fun k_ => some k_ ≠ (.slice (some ad279) x4_2.length co42 : Value).ownBlock) v285 y284) := ⟨h0_⟩
     have n1_ : Aside0 (Kd.R (Kd.int .i64) 3 w49 w.heap.size (fun k_ => some k_ ≠ (v285 : Value).ownBlock) (.slice (some ad279) x4_2.length co42) x4_2) := ⟨h1_⟩
     have n2_ : Aside0 (Kd.R Kd.string 9 w49 w.heap.size (fun _ => True) (.slice (some ad290) x5_2.length co45) x5_2) := ⟨h2_⟩
     have n3_ : Aside0 (Kd.R Kd.bool 4 w49 w.heap.size (fun _ => True) (.slice (some ⟨go6, 0, none⟩) x6_2.length co6) y283) := ⟨h3_⟩
     have n4_ : Aside0 (w49.heap[gb268]? = some (.cells #[.int .i64 a0_0, .int .i64 a0_1, .slice A0_2 l0_2.length c0_2, .slice (some ad280) l0_3.length c0_3] 25 (0, 0))) := ⟨h4_⟩
     have n5_ : Aside0 (Below w.heap.size w w49) := ⟨h5_⟩
     clear HO_4
     clear HO_5
     clear HO_6
     clear BK268
     clear HB
     clear h0_ h1_ h2_ h3_ h4_ h5_
     have HO286 := n0_
     have HO_4 := n1_
     have HO_5 := n2_
     have HO_6 := n3_
     have BK268 := n4_
     have HB := n5_
     clear n0_ n1_ n2_ n3_ n4_ n5_
     have hHeld : w49.cell? (ad290.add (x7_1).toNat) = some (.string (rdOf ByteArray.empty x5_2 x7_1)) := hS_
     obtain ⟨Ao51, co51, eo51⟩ := Kd.R_slice HO286.out
     (first | subst eo51 | (injection eo51 with f1_ f2_ f3_; have f4_ := f1_.symm; have f5_ := f3_.symm; clear f1_ f2_ f3_; subst f4_; subst f5_))
     refine norm_ (a' := ?_) ?_ ?_
     rotate_left
     (focus
     simp only [putAll, Act.put, List.setIfInBounds_toArray, List.set_cons_zero, List.set_cons_succ]
     rfl
     )
     refine two_ (i := 3) (j := 12) (Ni := some 56) (Nj := some 65) #[true, true, true, true, true, true, true, true, true, true, true, true, false, false, false, false, false, false, false] #[true, true, true, false, true, true, true, true, true, true, true, true, true, false, false, false, false, false, false] rfl rfl rfl rfl (two_of HT_.out (by kernel_rfl)) (by decide) (by decide) (fun K hK => ?_) (fun K hK => ?_)
     (focus
     skip
     refine Kd.R_append_rows_step (Kd.int .i64) (w0 := w) w.heap.size (by rfl) (.tmp 53) (.tmp 55) 38 3 (.int .i64 0) 8 rfl Try.underlying38 info3 rfl (by decide) (by omega) (.slice (some ad279) x4_2.length co42) x4_2 y284 _ _ _ (fun k_ => some k_ ≠ (.slice Ao51 y284.length co51 : Value).ownBlock) (fun _ => False) rfl rfl ?aO ?aR (fun _ _ h => h) (fun _ h => h.elim) ?aF ?aB ?aS ?aL ?_
     (case aR => repeat (first | exact (Kd.R_reads' HO286.out).2.2 | (with_reducible refine Kd.C_alloc ?_ _) | (with_reducible refine Kd.C_drewN ?_ _) | (with_reducible refine Kd.C_drew ?_)))
     (case aB => exact (by repeat (first | (with_reducible first | exact HB.out | apply below_alloc | apply pw_below_drewN | apply below_drew1 | refine below_set ?_ GE268.out) | exact HB.out)))
     (case aF => exact (fun k_ hk => Kd.fresh' (Kd.R_lt (uR HO286.out)) k_ hk))
     (case aO => exact (uR HO_4.out))
     (case aS => exact (below_size (by repeat (first | (with_reducible first | exact HB.out | apply below_alloc | apply pw_below_drewN | apply below_drew1 | refine below_set ?_ GE268.out) | exact HB.out))))
     (case aL => have := LMc36.out; omega)
     intro v288 w50 ho hb hg hat
     have HS0_ := cell_grown hg (hHeld) (by first | (rw [add_block]; exact (ne_typed (Kd.R_typed HO_5.out) (Kd.R_typed HO_4.out) (by decide) _ rfl)) | (show some (Addr.add _ _).block ≠ _; rw [add_block]; exact (ne_typed (Kd.R_typed HO_5.out) (Kd.R_typed HO_4.out) (by decide) _ rfl)) | exact (ne_typed (Kd.R_typed HO_5.out) (Kd.R_typed HO_4.out) (by decide) _ rfl))
     rw [← Ny287.out] at ho
     have n0_ := Aside0.mk (Kd.R_over' (uR HO_5.out) (Kd.R_typed (uR HO_4.out)) (by decide) hg)
     have n1_ := Aside0.mk (Kd.R_over' (uR HO_6.out) (Kd.R_typed (uR HO_4.out)) (by decide) hg)
     have n2_ := Aside0.mk (blk_grown (g := gb268) (o := .cells #[.int .i64 a0_0, .int .i64 a0_1, .slice A0_2 l0_2.length c0_2, .slice (some ad280) l0_3.length c0_3] 25 (0, 0)) (uB BK268.out) hg (Kd.R_ne HO_4.out BK268.out (by decide)))
     have n3_ := Aside0.mk (Kd.R_after (ok := (fun _ => True)) (uR (Kd.R_mono HO286.out (fun _ hk => ⟨trivial, hk⟩))) hg hat)
     have n4_ := Aside0.mk (hb)
     have n5_ := Aside0.mk (ho)
     clear HO_5
     clear HO_6
     clear BK268
     clear HO286
     clear HB
     clear HO_4
     have HO_5 := n0_
     have HO_6 := n1_
     have BK268 := n2_
     have HO286 := n3_
     have HB := n4_
     have HO289 := n5_
     clear n0_ n1_ n2_ n3_ n4_ n5_
     clear ho hb hg hat
     refine hK.out _ _ (HS0_) (fun hHeld => ?_)
     clear hK K
     refine norm_ (a' := ?_) ?_ ?_
     rotate_left
     (focus
     show Act.put _ (some 56) _ = _
     simp only [Act.put, List.setIfInBounds_toArray, List.set_cons_zero, List.set_cons_succ, i64_w, i32_w]
     rfl
     )
     exact norm_ (by first | (simp only [putAll, Act.put, List.setIfInBounds_toArray, List.set_cons_zero, List.set_cons_succ]; done) | (simp only [putAll, Act.put, List.setIfInBounds_toArray, List.set_cons_zero, List.set_cons_succ]; rfl)) (hJ2_3 (.slice Ao51 y284.length co51, v288) _ ⟨hHeld, (uR (Kd.R_mono HO286.out (fun _ hk => hk.2))), (uR HO289.out), (uR HO_5.out), (uR HO_6.out), (uB BK268.out), (by repeat (first | (with_reducible first | exact HB.out | apply below_alloc | apply pw_below_drewN | apply below_drew1 | refine below_set ?_ GE268.out) | exact HB.out))⟩)
     )
     (focus
     skip
     refine Kd.R_lit_step (Kd.int .u8) _ 5 ?hg (N := 65) ?hd (xs := ([(wrap64 (97 + x8_2)) % 256] : List Int)) (inner := [.int .u8 ((wrap64 (97 + x8_2)) % 256)]) (ok := fun _ => True) (okp := fun _ => True) ?hr ?hp (fun _ hk => hk) trivial (Below.refl _ _) (Nat.le_refl _) (by simp) ?_; (case hd => rfl); (case hg => rfl); (case hr => first | (go_simp; done) | (go_simp; rfl)); (case hp => exact (Reps.one (show Kd.M (Kd.int .u8) _ _ _ ((wrap64 (97 + x8_2)) % 256) [.int .u8 ((wrap64 (97 + x8_2)) % 256)] from rfl) (Reps.none _ _)))
     intro v292 w50 ho51 hb hg_ hnew_
     have HS0_ := (hb.cell (World.block_lt_of_cell? _ _ (hHeld))).trans (hHeld)
     clear hg_ hnew_
     (first | rw [← Ny291.out] at ho51 | (simp only [Int.reduceToNat] at ho51; rw [← Ny291.out] at ho51))
     have n0_ := Aside0.mk (Kd.R_below (uR HO_4.out) hb)
     have n1_ := Aside0.mk (Kd.R_below (uR HO_5.out) hb)
     have n2_ := Aside0.mk (Kd.R_below (uR HO_6.out) hb)
     have n3_ := Aside0.mk (Kd.R_below (uR HO286.out) hb)
     have n4_ := Aside0.mk (Kd.R_lower ho51 (below_size (by repeat (first | (with_reducible first | exact HB.out | apply below_alloc | apply pw_below_drewN | apply below_drew1 | refine below_set ?_ GE268.out) | exact HB.out))))
     have n5_ := Aside0.mk (blk_below (g := gb268) (o := .cells #[.int .i64 a0_0, .int .i64 a0_1, .slice A0_2 l0_2.length c0_2, .slice (some ad280) l0_3.length c0_3] 25 (0, 0)) (uB BK268.out) hb)
     have n6_ := Aside0.mk (below_step (by repeat (first | (with_reducible first | exact HB.out | apply below_alloc | apply pw_below_drewN | apply below_drew1 | refine below_set ?_ GE268.out) | exact HB.out)) hb)
     clear HO_4
     clear HO_5
     clear HO_6
     clear HO286
     clear BK268
     clear HB
     have HO_4 := n0_
     have HO_5 := n1_
     have HO_6 := n2_
     have HO286 := n3_
     have HO293 := n4_
     have BK268 := n5_
     have HB := n6_
     clear n0_ n1_ n2_ n3_ n4_ n5_ n6_
     clear hb ho51
     refine hK.out _ _ (HS0_) (fun hHeld => ?_)
     clear hK K
     refine norm_ (a' := ?_) ?_ ?_
     rotate_left
     (focus
     show Act.put _ (some 65) _ = _
     simp only [Act.put, List.setIfInBounds_toArray, List.set_cons_zero, List.set_cons_succ, i64_w, i32_w]
     rfl
     )
     exact norm_ (by first | (simp only [putAll, Act.put, List.setIfInBounds_toArray, List.set_cons_zero, List.set_cons_succ]; done) | (simp only [putAll, Act.put, List.setIfInBounds_toArray, List.set_cons_zero, List.set_cons_succ]; rfl)) (hJ2_12 (.slice Ao51 y284.length co51, v292) _ ⟨hHeld, (uR HO286.out), (uR HO293.out), (uR HO_4.out), (uR HO_5.out), (uR HO_6.out), (uB BK268.out), (by repeat (first | (with_reducible first | exact HB.out | apply below_alloc | apply pw_below_drewN | apply below_drew1 | refine below_set ?_ GE268.out) | exact HB.out))⟩)
     )
     )
     )
     (focus
     skip
     rintro v292 w50 ⟨hS_, h0_, h1_, h2_, h3_, h4_, h5_⟩
     have n0_ : Aside0 (Kd.R (Kd.int .u8) 5 w50 w.heap.size (fun _ => True) v292 y291) := ⟨h0_⟩
     have n1_ : Aside0 (Kd.R (Kd.int .i64) 3 w50 w.heap.size (fun _ => True) (.slice (some ad279) x4_2.length co42) x4_2) := ⟨h1_⟩
     have n2_ : Aside0 (Kd.R Kd.string 9 w50 w.heap.size (fun _ => True) (.slice (some ad290) x5_2.length co45) x5_2) := ⟨h2_⟩
     have n3_ : Aside0 (Kd.R Kd.bool 4 w50 w.heap.size (fun _ => True) (.slice (some ⟨go6, 0, none⟩) x6_2.length co6) y283) := ⟨h3_⟩
     have n4_ : Aside0 (w50.heap[gb268]? = some (.cells #[.int .i64 a0_0, .int .i64 a0_1, .slice A0_2 l0_2.length c0_2, .slice (some ad280) l0_3.length c0_3] 25 (0, 0))) := ⟨h4_⟩
     have n5_ : Aside0 (Below w.heap.size w w50) := ⟨h5_⟩
     clear HO_4
     clear HO_5
     clear HO_6
     clear BK268
     clear HB
     clear h0_ h1_ h2_ h3_ h4_ h5_
     have HO293 := n0_
     have HO_4 := n1_
     have HO_5 := n2_
     have HO_6 := n3_
     have BK268 := n4_
     have HB := n5_
     clear n0_ n1_ n2_ n3_ n4_ n5_
     have hHeld : w50.cell? (ad290.add (x7_1).toNat) = some (.string (rdOf ByteArray.empty x5_2 x7_1)) := hS_
     refine norm_ (a' := ?_) ?_ ?_
     rotate_left
     (focus
     simp only [putAll, Act.put, List.setIfInBounds_toArray, List.set_cons_zero, List.set_cons_succ]
     rfl
     )
     refine two_ (i := 2) (j := 15) (Ni := some 55) (Nj := some 68) #[true, true, true, false, true, true, true, true, true, true, true, true, true, true, true, false, false, false, false] #[true, true, false, false, true, true, true, true, true, true, true, true, true, true, true, true, false, false, false] rfl rfl rfl rfl (two_of HT_.out (by kernel_rfl)) (by decide) (by decide) (fun K hK => ?_) (fun K hK => ?_)
     (focus
     skip
     refine Kd.R_lit_step (Kd.int .i64) _ 3 ?hg (N := 55) ?hd (xs := ([rd (rd_L1 l0_3 (rd x4_2 x7_1)) x8_2] : List Int)) (inner := [.int .i64 (rd (rd_L1 l0_3 (rd x4_2 x7_1)) x8_2)]) (ok := fun _ => True) (okp := fun _ => True) ?hr ?hp (fun _ hk => hk) trivial (Below.refl _ _) (Nat.le_refl _) (by simp) ?_; (case hd => rfl); (case hg => rfl); (case hr => first | (go_simp; done) | (go_simp; rfl)); (case hp => exact (Reps.one (show Kd.M (Kd.int .i64) _ _ _ (rd (rd_L1 l0_3 (rd x4_2 x7_1)) x8_2) [.int .i64 (rd (rd_L1 l0_3 (rd x4_2 x7_1)) x8_2)] from rfl) (Reps.none _ _)))
     intro v285 w51 ho52 hb hg_ hnew_
     have HS0_ := (hb.cell (World.block_lt_of_cell? _ _ (hHeld))).trans (hHeld)
     clear hg_ hnew_
     (first | rw [← Ny284.out] at ho52 | (simp only [Int.reduceToNat] at ho52; rw [← Ny284.out] at ho52))
     have n0_ := Aside0.mk (Kd.R_elder' (uR HO_4.out) (Kd.R_base ho52) hb)
     have n1_ := Aside0.mk (Kd.R_below (uR HO_5.out) hb)
     have n2_ := Aside0.mk (Kd.R_below (uR HO_6.out) hb)
     have n3_ := Aside0.mk (Kd.R_below (uR HO293.out) hb)
     have n4_ := Aside0.mk (Kd.R_lower (Kd.R_new' ho52 (Kd.R_lt (uR HO_4.out))) (below_size (by repeat (first | (with_reducible first | exact HB.out | apply below_alloc | apply pw_below_drewN | apply below_drew1 | refine below_set ?_ GE268.out) | exact HB.out))))
     have n5_ := Aside0.mk (blk_below (g := gb268) (o := .cells #[.int .i64 a0_0, .int .i64 a0_1, .slice A0_2 l0_2.length c0_2, .slice (some ad280) l0_3.length c0_3] 25 (0, 0)) (uB BK268.out) hb)
     have n6_ := Aside0.mk (below_step (by repeat (first | (with_reducible first | exact HB.out | apply below_alloc | apply pw_below_drewN | apply below_drew1 | refine below_set ?_ GE268.out) | exact HB.out)) hb)
     clear HO_4
     clear HO_5
     clear HO_6
     clear HO293
     clear BK268
     clear HB
     have HO_4 := n0_
     have HO_5 := n1_
     have HO_6 := n2_
     have HO293 := n3_
     have HO286 := n4_
     have BK268 := n5_
     have HB := n6_
     clear n0_ n1_ n2_ n3_ n4_ n5_ n6_
     clear hb ho52
     refine hK.out _ _ (HS0_) (fun hHeld => ?_)
     clear hK K
     refine norm_ (a' := ?_) ?_ ?_
     rotate_left
     (focus
     show Act.put _ (some 55) _ = _
     simp only [Act.put, List.setIfInBounds_toArray, List.set_cons_zero, List.set_cons_succ, i64_w, i32_w]
     rfl
     )
     exact norm_ (by first | (simp only [putAll, Act.put, List.setIfInBounds_toArray, List.set_cons_zero, List.set_cons_succ]; done) | (simp only [putAll, Act.put, List.setIfInBounds_toArray, List.set_cons_zero, List.set_cons_succ]; rfl)) (hJ2_12_13 (v285, v292) _ ⟨hHeld, (uR (Kd.R_mono HO286.out (fun _ hk => hk.2))), (uR HO293.out), (uR (Kd.R_mono HO_4.out (fun _ hk => hk.2))), (uR HO_5.out), (uR HO_6.out), (uB BK268.out), (by repeat (first | (with_reducible first | exact HB.out | apply below_alloc | apply pw_below_drewN | apply below_drew1 | refine below_set ?_ GE268.out) | exact HB.out))⟩)
     )
     (focus
     skip
     refine Kd.R_lit_step Kd.string _ 9 ?hg (N := 68) ?hd (xs := ([(rdOf ByteArray.empty x5_2 x7_1) ++ (strOfNums y291)] : List ByteArray)) (inner := [.string ((rdOf ByteArray.empty x5_2 x7_1) ++ (strOfNums y291))]) (ok := fun _ => True) (okp := fun _ => True) ?hr ?hp (fun _ hk => hk) trivial (Below.refl _ _) (Nat.le_refl _) (by simp) ?_; (case hd => rfl); (case hg => rfl); (case hr => first | (go_simp; done) | (go_simp; rfl)); (case hp => exact (Reps.one (show Kd.M Kd.string _ _ _ ((rdOf ByteArray.empty x5_2 x7_1) ++ (strOfNums y291)) [.string ((rdOf ByteArray.empty x5_2 x7_1) ++ (strOfNums y291))] from rfl) (Reps.none _ _)))
     intro v295 w51 ho52 hb hg_ hnew_
     have HS0_ := (hb.cell (World.block_lt_of_cell? _ _ (hHeld))).trans (hHeld)
     clear hg_ hnew_
     (first | rw [← Ny294.out] at ho52 | (simp only [Int.reduceToNat] at ho52; rw [← Ny294.out] at ho52))
     have n0_ := Aside0.mk (Kd.R_below (uR HO_4.out) hb)
     have n1_ := Aside0.mk (Kd.R_elder' (uR HO_5.out) (Kd.R_base ho52) hb)
     have n2_ := Aside0.mk (Kd.R_below (uR HO_6.out) hb)
     have n3_ := Aside0.mk (Kd.R_below (uR HO293.out) hb)
     have n4_ := Aside0.mk (Kd.R_lower (Kd.R_new' ho52 (Kd.R_lt (uR HO_5.out))) (below_size (by repeat (first | (with_reducible first | exact HB.out | apply below_alloc | apply pw_below_drewN | apply below_drew1 | refine below_set ?_ GE268.out) | exact HB.out))))
     have n5_ := Aside0.mk (blk_below (g := gb268) (o := .cells #[.int .i64 a0_0, .int .i64 a0_1, .slice A0_2 l0_2.length c0_2, .slice (some ad280) l0_3.length c0_3] 25 (0, 0)) (uB BK268.out) hb)
     have n6_ := Aside0.mk (below_step (by repeat (first | (with_reducible first | exact HB.out | apply below_alloc | apply pw_below_drewN | apply below_drew1 | refine below_set ?_ GE268.out) | exact HB.out)) hb)
     clear HO_4
     clear HO_5
     clear HO_6
     clear HO293
     clear BK268
     clear HB
     have HO_4 := n0_
     have HO_5 := n1_
     have HO_6 := n2_
     have HO293 := n3_
     have HO296 := n4_
     have BK268 := n5_
     have HB := n6_
     clear n0_ n1_ n2_ n3_ n4_ n5_ n6_
     clear hb ho52
     refine hK.out _ _ (HS0_) (fun hHeld => ?_)
     clear hK K
     refine norm_ (a' := ?_) ?_ ?_
     rotate_left
     (focus
     show Act.put _ (some 68) _ = _
     simp only [Act.put, List.setIfInBounds_toArray, List.set_cons_zero, List.set_cons_succ, i64_w, i32_w]
     rfl
     )
     exact norm_ (by first | (simp only [putAll, Act.put, List.setIfInBounds_toArray, List.set_cons_zero, List.set_cons_succ]; done) | (simp only [putAll, Act.put, List.setIfInBounds_toArray, List.set_cons_zero, List.set_cons_succ]; rfl)) (hJ12_13_15 (v292, v295) _ ⟨hHeld, (uR HO293.out), (uR (Kd.R_mono HO296.out (fun _ hk => hk.2))), (uR HO_4.out), (uR (Kd.R_mono HO_5.out (fun _ hk => hk.2))), (uR HO_6.out), (uB BK268.out), (by repeat (first | (with_reducible first | exact HB.out | apply below_alloc | apply pw_below_drewN | apply below_drew1 | refine below_set ?_ GE268.out) | exact HB.out))⟩)
     )
     )
     )
     (focus
     skip
     rintro ⟨v285, v292⟩ w51 ⟨hS_, h0_, h1_, h2_, h3_, h4_, h5_, h6_⟩
     have n0_ : Aside0 (Kd.R (Kd.int .i64) 3 w51 w.heap.size (fun k_ => some k_ ≠ (.slice (some ad279) x4_2.length co42 : Value).ownBlock) v285 y284) := ⟨h0_⟩
     have n1_ : Aside0 (Kd.R (Kd.int .u8) 5 w51 w.heap.size (fun _ => True) v292 y291) := ⟨h1_⟩
     have n2_ : Aside0 (Kd.R (Kd.int .i64) 3 w51 w.heap.size (fun k_ => some k_ ≠ (v285 : Value).ownBlock) (.slice (some ad279) x4_2.length co42) x4_2) := ⟨h2_⟩
     have n3_ : Aside0 (Kd.R Kd.string 9 w51 w.heap.size (fun _ => True) (.slice (some ad290) x5_2.length co45) x5_2) := ⟨h3_⟩
     have n4_ : Aside0 (Kd.R Kd.bool 4 w51 w.heap.size (fun _ => True) (.slice (some ⟨go6, 0, none⟩) x6_2.length co6) y283) := ⟨h4_⟩
     have n5_ : Aside0 (w51.heap[gb268]? = some (.cells #[.int .i64 a0_0, .int .i64 a0_1, .slice A0_2 l0_2.length c0_2, .slice (some ad280) l0_3.length c0_3] 25 (0, 0))) := ⟨h5_⟩
     have n6_ : Aside0 (Below w.heap.size w w51) := ⟨h6_⟩
     clear HO_4
     clear HO_5
     clear HO_6
     clear BK268
     clear HB
     clear h0_ h1_ h2_ h3_ h4_ h5_ h6_
     have HO286 := n0_
     have HO293 := n1_
     have HO_4 := n2_
     have HO_5 := n3_
     have HO_6 := n4_
     have BK268 := n5_
     have HB := n6_
     clear n0_ n1_ n2_ n3_ n4_ n5_ n6_
     have hHeld : w51.cell? (ad290.add (x7_1).toNat) = some (.string (rdOf ByteArray.empty x5_2 x7_1)) := hS_
     obtain ⟨Ao53, co53, eo53⟩ := Kd.R_slice HO286.out
     (first | subst eo53 | (injection eo53 with f1_ f2_ f3_; have f4_ := f1_.symm; have f5_ := f3_.symm; clear f1_ f2_ f3_; subst f4_; subst f5_))
     refine norm_ (a' := ?_) ?_ ?_
     rotate_left
     (focus
     simp only [putAll, Act.put, List.setIfInBounds_toArray, List.set_cons_zero, List.set_cons_succ]
     rfl
     )
     refine two_ (i := 3) (j := 13) (Ni := some 56) (Nj := some 66) #[true, true, true, true, true, true, true, true, true, true, true, true, true, false, false, false, false, false, false] #[true, true, true, false, true, true, true, true, true, true, true, true, true, true, false, false, false, false, false] rfl rfl rfl rfl (two_of HT_.out (by kernel_rfl)) (by decide) (by decide) (fun K hK => ?_) (fun K hK => ?_)
     (focus
     skip
     refine Kd.R_append_rows_step (Kd.int .i64) (w0 := w) w.heap.size (by rfl) (.tmp 53) (.tmp 55) 38 3 (.int .i64 0) 8 rfl Try.underlying38 info3 rfl (by decide) (by omega) (.slice (some ad279) x4_2.length co42) x4_2 y284 _ _ _ (fun k_ => some k_ ≠ (.slice Ao53 y284.length co53 : Value).ownBlock) (fun _ => False) rfl rfl ?aO ?aR (fun _ _ h => h) (fun _ h => h.elim) ?aF ?aB ?aS ?aL ?_
     (case aR => repeat (first | exact (Kd.R_reads' HO286.out).2.2 | (with_reducible refine Kd.C_alloc ?_ _) | (with_reducible refine Kd.C_drewN ?_ _) | (with_reducible refine Kd.C_drew ?_)))
     (case aB => exact (by repeat (first | (with_reducible first | exact HB.out | apply below_alloc | apply pw_below_drewN | apply below_drew1 | refine below_set ?_ GE268.out) | exact HB.out)))
     (case aF => exact (fun k_ hk => Kd.fresh' (Kd.R_lt (uR HO286.out)) k_ hk))
     (case aO => exact (uR HO_4.out))
     (case aS => exact (below_size (by repeat (first | (with_reducible first | exact HB.out | apply below_alloc | apply pw_below_drewN | apply below_drew1 | refine below_set ?_ GE268.out) | exact HB.out))))
     (case aL => have := LMc36.out; omega)
     intro v288 w52 ho hb hg hat
     have HS0_ := cell_grown hg (hHeld) (by first | (rw [add_block]; exact (ne_typed (Kd.R_typed HO_5.out) (Kd.R_typed HO_4.out) (by decide) _ rfl)) | (show some (Addr.add _ _).block ≠ _; rw [add_block]; exact (ne_typed (Kd.R_typed HO_5.out) (Kd.R_typed HO_4.out) (by decide) _ rfl)) | exact (ne_typed (Kd.R_typed HO_5.out) (Kd.R_typed HO_4.out) (by decide) _ rfl))
     rw [← Ny287.out] at ho
     have n0_ := Aside0.mk (Kd.R_over' (uR HO_5.out) (Kd.R_typed (uR HO_4.out)) (by decide) hg)
     have n1_ := Aside0.mk (Kd.R_over' (uR HO_6.out) (Kd.R_typed (uR HO_4.out)) (by decide) hg)
     have n2_ := Aside0.mk (blk_grown (g := gb268) (o := .cells #[.int .i64 a0_0, .int .i64 a0_1, .slice A0_2 l0_2.length c0_2, .slice (some ad280) l0_3.length c0_3] 25 (0, 0)) (uB BK268.out) hg (Kd.R_ne HO_4.out BK268.out (by decide)))
     have n3_ := Aside0.mk (Kd.R_after (ok := (fun _ => True)) (uR (Kd.R_mono HO286.out (fun _ hk => ⟨trivial, hk⟩))) hg hat)
     have n4_ := Aside0.mk (Kd.R_over' (uR HO293.out) (Kd.R_typed (uR HO_4.out)) (by decide) hg)
     have n5_ := Aside0.mk (hb)
     have n6_ := Aside0.mk (ho)
     clear HO_5
     clear HO_6
     clear BK268
     clear HO286
     clear HO293
     clear HB
     clear HO_4
     have HO_5 := n0_
     have HO_6 := n1_
     have BK268 := n2_
     have HO286 := n3_
     have HO293 := n4_
     have HB := n5_
     have HO289 := n6_
     clear n0_ n1_ n2_ n3_ n4_ n5_ n6_
     clear ho hb hg hat
     refine hK.out _ _ (HS0_) (fun hHeld => ?_)
     clear hK K
     refine norm_ (a' := ?_) ?_ ?_
     rotate_left
     (focus
     show Act.put _ (some 56) _ = _
     simp only [Act.put, List.setIfInBounds_toArray, List.set_cons_zero, List.set_cons_succ, i64_w, i32_w]
     rfl
     )
     exact norm_ (by first | (simp only [putAll, Act.put, List.setIfInBounds_toArray, List.set_cons_zero, List.set_cons_succ]; done) | (simp only [putAll, Act.put, List.setIfInBounds_toArray, List.set_cons_zero, List.set_cons_succ]; rfl)) (hJ2_3_12 (.slice Ao53 y284.length co53, v288, v292) _ ⟨hHeld, (uR (Kd.R_mono HO286.out (fun _ hk => hk.2))), (uR HO289.out), (uR HO293.out), (uR HO_5.out), (uR HO_6.out), (uB BK268.out), (by repeat (first | (with_reducible first | exact HB.out | apply below_alloc | apply pw_below_drewN | apply below_drew1 | refine below_set ?_ GE268.out) | exact HB.out))⟩)
     )
     (focus
     skip
     have hcv52 := own_string (P := Try.prog) Try.underlying56 Try.underlying5 Try.underlying9 (Kd.own_of_R HO293.out)
     refine value_ (w1 := ?_) (v := ?_) (by rfl) rfl ?_ ?_
     rotate_left 2
     (focus
     go_simp
     constructor
     (focus
     rfl
     )
     (focus
     rfl
     )
     )
     clear hcv52
     refine hK.out _ _ (hHeld) (fun hHeld => ?_)
     clear hK K
     refine norm_ (a' := ?_) ?_ ?_
     rotate_left
     (focus
     show Act.put _ (some 66) _ = _
     simp only [Act.put, List.setIfInBounds_toArray, List.set_cons_zero, List.set_cons_succ, i64_w, i32_w]
     rfl
     )
     refine pure_ (i := 14) (N := some 67) (v := ?_) (a' := ?_) #[true, true, true, false, true, true, true, true, true, true, true, true, true, true, true, false, false, false, false] rfl rfl (any_of HT_.out (by kernel_rfl)) (fun _ _ _ h => h) (Or.inl ⟨by rfl, ?_⟩) ?_ ?_
     rotate_left
     (focus
     intro w'
     go_simp
     with_reducible rfl
     )
     rotate_left
     (focus
     simp only [Act.put, List.setIfInBounds_toArray, List.set_cons_zero, List.set_cons_succ, i64_w, i32_w]
     rfl
     )
     exact norm_ (by first | (simp only [putAll, Act.put, List.setIfInBounds_toArray, List.set_cons_zero, List.set_cons_succ]; done) | (simp only [putAll, Act.put, List.setIfInBounds_toArray, List.set_cons_zero, List.set_cons_succ]; rfl)) (hJ2_12_13 (.slice Ao53 y284.length co53, v292) _ ⟨hHeld, (uR HO286.out), (uR HO293.out), (uR HO_4.out), (uR HO_5.out), (uR HO_6.out), (uB BK268.out), (by repeat (first | (with_reducible first | exact HB.out | apply below_alloc | apply pw_below_drewN | apply below_drew1 | refine below_set ?_ GE268.out) | exact HB.out))⟩)
     )
     )
     )
     (focus
     skip
     rintro ⟨v285, v288⟩ w51 ⟨hS_, h0_, h1_, h2_, h3_, h4_, h5_⟩
     have n0_ : Aside0 (Kd.R (Kd.int .i64) 3 w51 w.heap.size (fun k_ => some k_ ≠ (v288 : Value).ownBlock) v285 y284) := ⟨h0_⟩
     have n1_ : Aside0 (Kd.R (Kd.int .i64) 3 w51 w.heap.size (fun k_ => some k_ ≠ (v285 : Value).ownBlock) v288 y287) := ⟨h1_⟩
     have n2_ : Aside0 (Kd.R Kd.string 9 w51 w.heap.size (fun _ => True) (.slice (some ad290) x5_2.length co45) x5_2) := ⟨h2_⟩
     have n3_ : Aside0 (Kd.R Kd.bool 4 w51 w.heap.size (fun _ => True) (.slice (some ⟨go6, 0, none⟩) x6_2.length co6) y283) := ⟨h3_⟩
     have n4_ : Aside0 (w51.heap[gb268]? = some (.cells #[.int .i64 a0_0, .int .i64 a0_1, .slice A0_2 l0_2.length c0_2, .slice (some ad280) l0_3.length c0_3] 25 (0, 0))) := ⟨h4_⟩
     have n5_ : Aside0 (Below w.heap.size w w51) := ⟨h5_⟩
     clear HO_4
     clear HO_5
     clear HO_6
     clear BK268
     clear HB
     clear h0_ h1_ h2_ h3_ h4_ h5_
     have HO286 := n0_
     have HO289 := n1_
     have HO_5 := n2_
     have HO_6 := n3_
     have BK268 := n4_
     have HB := n5_
     clear n0_ n1_ n2_ n3_ n4_ n5_
     have hHeld : w51.cell? (ad290.add (x7_1).toNat) = some (.string (rdOf ByteArray.empty x5_2 x7_1)) := hS_
     refine norm_ (a' := ?_) ?_ ?_
     rotate_left
     (focus
     simp only [putAll, Act.put, List.setIfInBounds_toArray, List.set_cons_zero, List.set_cons_succ]
     rfl
     )
     refine one_ (i := 12) (N := some 65) #[true, true, true, true, true, true, true, true, true, true, true, true, true, false, false, false, false, false, false] rfl rfl (one_of HT_.out (by kernel_rfl)) (by decide) (fun K hK => ?_)
     refine Kd.R_lit_step (Kd.int .u8) _ 5 ?hg (N := 65) ?hd (xs := ([(wrap64 (97 + x8_2)) % 256] : List Int)) (inner := [.int .u8 ((wrap64 (97 + x8_2)) % 256)]) (ok := fun _ => True) (okp := fun _ => True) ?hr ?hp (fun _ hk => hk) trivial (Below.refl _ _) (Nat.le_refl _) (by simp) ?_; (case hd => rfl); (case hg => rfl); (case hr => first | (go_simp; done) | (go_simp; rfl)); (case hp => exact (Reps.one (show Kd.M (Kd.int .u8) _ _ _ ((wrap64 (97 + x8_2)) % 256) [.int .u8 ((wrap64 (97 + x8_2)) % 256)] from rfl) (Reps.none _ _)))
     intro v292 w52 ho53 hb hg_ hnew_
     have HS0_ := (hb.cell (World.block_lt_of_cell? _ _ (hHeld))).trans (hHeld)
     clear hg_ hnew_
     (first | rw [← Ny291.out] at ho53 | (simp only [Int.reduceToNat] at ho53; rw [← Ny291.out] at ho53))
     have n0_ := Aside0.mk (Kd.R_below (uR HO_5.out) hb)
     have n1_ := Aside0.mk (Kd.R_below (uR HO_6.out) hb)
     have n2_ := Aside0.mk (Kd.R_below (uR HO286.out) hb)
     have n3_ := Aside0.mk (Kd.R_below (uR HO289.out) hb)
     have n4_ := Aside0.mk (Kd.R_lower ho53 (below_size (by repeat (first | (with_reducible first | exact HB.out | apply below_alloc | apply pw_below_drewN | apply below_drew1 | refine below_set ?_ GE268.out) | exact HB.out))))
     have n5_ := Aside0.mk (blk_below (g := gb268) (o := .cells #[.int .i64 a0_0, .int .i64 a0_1, .slice A0_2 l0_2.length c0_2, .slice (some ad280) l0_3.length c0_3] 25 (0, 0)) (uB BK268.out) hb)
     have n6_ := Aside0.mk (below_step (by repeat (first | (with_reducible first | exact HB.out | apply below_alloc | apply pw_below_drewN | apply below_drew1 | refine below_set ?_ GE268.out) | exact HB.out)) hb)
     clear HO_5
     clear HO_6
     clear HO286
     clear HO289
     clear BK268
     clear HB
     have HO_5 := n0_
     have HO_6 := n1_
     have HO286 := n2_
     have HO289 := n3_
     have HO293 := n4_
     have BK268 := n5_
     have HB := n6_
     clear n0_ n1_ n2_ n3_ n4_ n5_ n6_
     clear hb ho53
     refine hK.out _ _ (HS0_) (fun hHeld => ?_)
     clear hK K
     refine norm_ (a' := ?_) ?_ ?_
     rotate_left
     (focus
     show Act.put _ (some 65) _ = _
     simp only [Act.put, List.setIfInBounds_toArray, List.set_cons_zero, List.set_cons_succ, i64_w, i32_w]
     rfl
     )
     exact norm_ (by first | (simp only [putAll, Act.put, List.setIfInBounds_toArray, List.set_cons_zero, List.set_cons_succ]; done) | (simp only [putAll, Act.put, List.setIfInBounds_toArray, List.set_cons_zero, List.set_cons_succ]; rfl)) (hJ2_3_12 (v285, v288, v292) _ ⟨hHeld, (uR HO286.out), (uR HO289.out), (uR HO293.out), (uR HO_5.out), (uR HO_6.out), (uB BK268.out), (by repeat (first | (with_reducible first | exact HB.out | apply below_alloc | apply pw_below_drewN | apply below_drew1 | refine below_set ?_ GE268.out) | exact HB.out))⟩)
     )
     )
     (focus
     skip
     rintro ⟨v292, v295⟩ w52 ⟨hS_, h0_, h1_, h2_, h3_, h4_, h5_, h6_⟩
     have n0_ : Aside0 (Kd.R (Kd.int .u8) 5 w52 w.heap.size (fun _ => True) v292 y291) := ⟨h0_⟩
     have n1_ : Aside0 (Kd.R Kd.string 9 w52 w.heap.size (fun k_ => some k_ ≠ (.slice (some ad290) x5_2.length co45 : Value).ownBlock) v295 y294) := ⟨h1_⟩
     have n2_ : Aside0 (Kd.R (Kd.int .i64) 3 w52 w.heap.size (fun _ => True) (.slice (some ad279) x4_2.length co42) x4_2) := ⟨h2_⟩
     have n3_ : Aside0 (Kd.R Kd.string 9 w52 w.heap.size (fun k_ => some k_ ≠ (v295 : Value).ownBlock) (.slice (some ad290) x5_2.length co45) x5_2) := ⟨h3_⟩
     have n4_ : Aside0 (Kd.R Kd.bool 4 w52 w.heap.size (fun _ => True) (.slice (some ⟨go6, 0, none⟩) x6_2.length co6) y283) := ⟨h4_⟩
     have n5_ : Aside0 (w52.heap[gb268]? = some (.cells #[.int .i64 a0_0, .int .i64 a0_1, .slice A0_2 l0_2.length c0_2, .slice (some ad280) l0_3.length c0_3] 25 (0, 0))) := ⟨h5_⟩
     have n6_ : Aside0 (Below w.heap.size w w52) := ⟨h6_⟩
     clear HO_4
     clear HO_5
     clear HO_6
     clear BK268
     clear HB
     clear h0_ h1_ h2_ h3_ h4_ h5_ h6_
     have HO293 := n0_
     have HO296 := n1_
     have HO_4 := n2_
     have HO_5 := n3_
     have HO_6 := n4_
     have BK268 := n5_
     have HB := n6_
     clear n0_ n1_ n2_ n3_ n4_ n5_ n6_
     have hHeld : w52.cell? (ad290.add (x7_1).toNat) = some (.string (rdOf ByteArray.empty x5_2 x7_1)) := hS_
     refine norm_ (a' := ?_) ?_ ?_
     rotate_left
     (focus
     simp only [putAll, Act.put, List.setIfInBounds_toArray, List.set_cons_zero, List.set_cons_succ]
     rfl
     )
     refine one_ (i := 2) (N := some 55) #[true, true, true, false, true, true, true, true, true, true, true, true, true, true, true, true, false, false, false] rfl rfl (one_of HT_.out (by kernel_rfl)) (by decide) (fun K hK => ?_)
     refine Kd.R_lit_step (Kd.int .i64) _ 3 ?hg (N := 55) ?hd (xs := ([rd (rd_L1 l0_3 (rd x4_2 x7_1)) x8_2] : List Int)) (inner := [.int .i64 (rd (rd_L1 l0_3 (rd x4_2 x7_1)) x8_2)]) (ok := fun _ => True) (okp := fun _ => True) ?hr ?hp (fun _ hk => hk) trivial (Below.refl _ _) (Nat.le_refl _) (by simp) ?_; (case hd => rfl); (case hg => rfl); (case hr => first | (go_simp; done) | (go_simp; rfl)); (case hp => exact (Reps.one (show Kd.M (Kd.int .i64) _ _ _ (rd (rd_L1 l0_3 (rd x4_2 x7_1)) x8_2) [.int .i64 (rd (rd_L1 l0_3 (rd x4_2 x7_1)) x8_2)] from rfl) (Reps.none _ _)))
     intro v285 w53 ho54 hb hg_ hnew_
     have HS0_ := (hb.cell (World.block_lt_of_cell? _ _ (hHeld))).trans (hHeld)
     clear hg_ hnew_
     (first | rw [← Ny284.out] at ho54 | (simp only [Int.reduceToNat] at ho54; rw [← Ny284.out] at ho54))
     have n0_ := Aside0.mk (Kd.R_elder' (uR HO_4.out) (Kd.R_base ho54) hb)
     have n1_ := Aside0.mk (Kd.R_below (uR HO_5.out) hb)
     have n2_ := Aside0.mk (Kd.R_below (uR HO_6.out) hb)
     have n3_ := Aside0.mk (Kd.R_below (uR HO293.out) hb)
     have n4_ := Aside0.mk (Kd.R_below (uR HO296.out) hb)
     have n5_ := Aside0.mk (Kd.R_lower (Kd.R_new' ho54 (Kd.R_lt (uR HO_4.out))) (below_size (by repeat (first | (with_reducible first | exact HB.out | apply below_alloc | apply pw_below_drewN | apply below_drew1 | refine below_set ?_ GE268.out) | exact HB.out))))
     have n6_ := Aside0.mk (blk_below (g := gb268) (o := .cells #[.int .i64 a0_0, .int .i64 a0_1, .slice A0_2 l0_2.length c0_2, .slice (some ad280) l0_3.length c0_3] 25 (0, 0)) (uB BK268.out) hb)
     have n7_ := Aside0.mk (below_step (by repeat (first | (with_reducible first | exact HB.out | apply below_alloc | apply pw_below_drewN | apply below_drew1 | refine below_set ?_ GE268.out) | exact HB.out)) hb)
     clear HO_4
     clear HO_5
     clear HO_6
     clear HO293
     clear HO296
     clear BK268
     clear HB
     have HO_4 := n0_
     have HO_5 := n1_
     have HO_6 := n2_
     have HO293 := n3_
     have HO296 := n4_
     have HO286 := n5_
     have BK268 := n6_
     have HB := n7_
     clear n0_ n1_ n2_ n3_ n4_ n5_ n6_ n7_
     clear hb ho54
     refine hK.out _ _ (HS0_) (fun hHeld => ?_)
     clear hK K
     refine norm_ (a' := ?_) ?_ ?_
     rotate_left
     (focus
     show Act.put _ (some 55) _ = _
     simp only [Act.put, List.setIfInBounds_toArray, List.set_cons_zero, List.set_cons_succ, i64_w, i32_w]
     rfl
     )
     exact norm_ (by first | (simp only [putAll, Act.put, List.setIfInBounds_toArray, List.set_cons_zero, List.set_cons_succ]; done) | (simp only [putAll, Act.put, List.setIfInBounds_toArray, List.set_cons_zero, List.set_cons_succ]; rfl)) (hJ2_12_13_15 (v285, v292, v295) _ ⟨hHeld, (uR (Kd.R_mono HO286.out (fun _ hk => hk.2))), (uR HO293.out), (uR HO296.out), (uR (Kd.R_mono HO_4.out (fun _ hk => hk.2))), (uR HO_5.out), (uR HO_6.out), (uB BK268.out), (by repeat (first | (with_reducible first | exact HB.out | apply below_alloc | apply pw_below_drewN | apply below_drew1 | refine below_set ?_ GE268.out) | exact HB.out))⟩)
     )
     )
     (focus
     skip
     rintro ⟨v285, v292⟩ w52 ⟨hS_, h0_, h1_, h2_, h3_, h4_, h5_, h6_⟩
     have n0_ : Aside0 (Kd.R (Kd.int .i64) 3 w52 w.heap.size (fun k_ => some k_ ≠ (.slice (some ad279) x4_2.length co42 : Value).ownBlock) v285 y284) := ⟨h0_⟩
     have n1_ : Aside0 (Kd.R (Kd.int .u8) 5 w52 w.heap.size (fun _ => True) v292 y291) := ⟨h1_⟩
     have n2_ : Aside0 (Kd.R (Kd.int .i64) 3 w52 w.heap.size (fun k_ => some k_ ≠ (v285 : Value).ownBlock) (.slice (some ad279) x4_2.length co42) x4_2) := ⟨h2_⟩
     have n3_ : Aside0 (Kd.R Kd.string 9 w52 w.heap.size (fun _ => True) (.slice (some ad290) x5_2.length co45) x5_2) := ⟨h3_⟩
     have n4_ : Aside0 (Kd.R Kd.bool 4 w52 w.heap.size (fun _ => True) (.slice (some ⟨go6, 0, none⟩) x6_2.length co6) y283) := ⟨h4_⟩
     have n5_ : Aside0 (w52.heap[gb268]? = some (.cells #[.int .i64 a0_0, .int .i64 a0_1, .slice A0_2 l0_2.length c0_2, .slice (some ad280) l0_3.length c0_3] 25 (0, 0))) := ⟨h5_⟩
     have n6_ : Aside0 (Below w.heap.size w w52) := ⟨h6_⟩
     clear HO_4
     clear HO_5
     clear HO_6
     clear BK268
     clear HB
     clear h0_ h1_ h2_ h3_ h4_ h5_ h6_
     have HO286 := n0_
     have HO293 := n1_
     have HO_4 := n2_
     have HO_5 := n3_
     have HO_6 := n4_
     have BK268 := n5_
     have HB := n6_
     clear n0_ n1_ n2_ n3_ n4_ n5_ n6_
     have hHeld : w52.cell? (ad290.add (x7_1).toNat) = some (.string (rdOf ByteArray.empty x5_2 x7_1)) := hS_
     obtain ⟨Ao54, co54, eo54⟩ := Kd.R_slice HO286.out
     (first | subst eo54 | (injection eo54 with f1_ f2_ f3_; have f4_ := f1_.symm; have f5_ := f3_.symm; clear f1_ f2_ f3_; subst f4_; subst f5_))
     refine norm_ (a' := ?_) ?_ ?_
     rotate_left
     (focus
     simp only [putAll, Act.put, List.setIfInBounds_toArray, List.set_cons_zero, List.set_cons_succ]
     rfl
     )
     refine two_ (i := 3) (j := 15) (Ni := some 56) (Nj := some 68) #[true, true, true, true, true, true, true, true, true, true, true, true, true, true, true, false, false, false, false] #[true, true, true, false, true, true, true, true, true, true, true, true, true, true, true, true, false, false, false] rfl rfl rfl rfl (two_of HT_.out (by kernel_rfl)) (by decide) (by decide) (fun K hK => ?_) (fun K hK => ?_)
     (focus
     skip
     refine Kd.R_append_rows_step (Kd.int .i64) (w0 := w) w.heap.size (by rfl) (.tmp 53) (.tmp 55) 38 3 (.int .i64 0) 8 rfl Try.underlying38 info3 rfl (by decide) (by omega) (.slice (some ad279) x4_2.length co42) x4_2 y284 _ _ _ (fun k_ => some k_ ≠ (.slice Ao54 y284.length co54 : Value).ownBlock) (fun _ => False) rfl rfl ?aO ?aR (fun _ _ h => h) (fun _ h => h.elim) ?aF ?aB ?aS ?aL ?_
     (case aR => repeat (first | exact (Kd.R_reads' HO286.out).2.2 | (with_reducible refine Kd.C_alloc ?_ _) | (with_reducible refine Kd.C_drewN ?_ _) | (with_reducible refine Kd.C_drew ?_)))
     (case aB => exact (by repeat (first | (with_reducible first | exact HB.out | apply below_alloc | apply pw_below_drewN | apply below_drew1 | refine below_set ?_ GE268.out) | exact HB.out)))
     (case aF => exact (fun k_ hk => Kd.fresh' (Kd.R_lt (uR HO286.out)) k_ hk))
     (case aO => exact (uR HO_4.out))
     (case aS => exact (below_size (by repeat (first | (with_reducible first | exact HB.out | apply below_alloc | apply pw_below_drewN | apply below_drew1 | refine below_set ?_ GE268.out) | exact HB.out))))
     (case aL => have := LMc36.out; omega)
     intro v288 w53 ho hb hg hat
     have HS0_ := cell_grown hg (hHeld) (by first | (rw [add_block]; exact (ne_typed (Kd.R_typed HO_5.out) (Kd.R_typed HO_4.out) (by decide) _ rfl)) | (show some (Addr.add _ _).block ≠ _; rw [add_block]; exact (ne_typed (Kd.R_typed HO_5.out) (Kd.R_typed HO_4.out) (by decide) _ rfl)) | exact (ne_typed (Kd.R_typed HO_5.out) (Kd.R_typed HO_4.out) (by decide) _ rfl))
     rw [← Ny287.out] at ho
     have n0_ := Aside0.mk (Kd.R_over' (uR HO_5.out) (Kd.R_typed (uR HO_4.out)) (by decide) hg)
     have n1_ := Aside0.mk (Kd.R_over' (uR HO_6.out) (Kd.R_typed (uR HO_4.out)) (by decide) hg)
     have n2_ := Aside0.mk (blk_grown (g := gb268) (o := .cells #[.int .i64 a0_0, .int .i64 a0_1, .slice A0_2 l0_2.length c0_2, .slice (some ad280) l0_3.length c0_3] 25 (0, 0)) (uB BK268.out) hg (Kd.R_ne HO_4.out BK268.out (by decide)))
     have n3_ := Aside0.mk (Kd.R_after (ok := (fun _ => True)) (uR (Kd.R_mono HO286.out (fun _ hk => ⟨trivial, hk⟩))) hg hat)
     have n4_ := Aside0.mk (Kd.R_over' (uR HO293.out) (Kd.R_typed (uR HO_4.out)) (by decide) hg)
     have n5_ := Aside0.mk (hb)
     have n6_ := Aside0.mk (ho)
     clear HO_5
     clear HO_6
     clear BK268
     clear HO286
     clear HO293
     clear HB
     clear HO_4
     have HO_5 := n0_
     have HO_6 := n1_
     have BK268 := n2_
     have HO286 := n3_
     have HO293 := n4_
     have HB := n5_
     have HO289 := n6_
     clear n0_ n1_ n2_ n3_ n4_ n5_ n6_
     clear ho hb hg hat
     refine hK.out _ _ (HS0_) (fun hHeld => ?_)
     clear hK K
     refine norm_ (a' := ?_) ?_ ?_
     rotate_left
     (focus
     show Act.put _ (some 56) _ = _
     simp only [Act.put, List.setIfInBounds_toArray, List.set_cons_zero, List.set_cons_succ, i64_w, i32_w]
     rfl
     )
     exact norm_ (by first | (simp only [putAll, Act.put, List.setIfInBounds_toArray, List.set_cons_zero, List.set_cons_succ]; done) | (simp only [putAll, Act.put, List.setIfInBounds_toArray, List.set_cons_zero, List.set_cons_succ]; rfl)) (hJ2_3_12_13 (.slice Ao54 y284.length co54, v288, v292) _ ⟨hHeld, (uR (Kd.R_mono HO286.out (fun _ hk => hk.2))), (uR HO289.out), (uR HO293.out), (uR HO_5.out), (uR HO_6.out), (uB BK268.out), (by repeat (first | (with_reducible first | exact HB.out | apply below_alloc | apply pw_below_drewN | apply below_drew1 | refine below_set ?_ GE268.out) | exact HB.out))⟩)
     )
     (focus
     skip
     refine Kd.R_lit_step Kd.string _ 9 ?hg (N := 68) ?hd (xs := ([(rdOf ByteArray.empty x5_2 x7_1) ++ (strOfNums y291)] : List ByteArray)) (inner := [.string ((rdOf ByteArray.empty x5_2 x7_1) ++ (strOfNums y291))]) (ok := fun _ => True) (okp := fun _ => True) ?hr ?hp (fun _ hk => hk) trivial (Below.refl _ _) (Nat.le_refl _) (by simp) ?_; (case hd => rfl); (case hg => rfl); (case hr => first | (go_simp; done) | (go_simp; rfl)); (case hp => exact (Reps.one (show Kd.M Kd.string _ _ _ ((rdOf ByteArray.empty x5_2 x7_1) ++ (strOfNums y291)) [.string ((rdOf ByteArray.empty x5_2 x7_1) ++ (strOfNums y291))] from rfl) (Reps.none _ _)))
     intro v295 w53 ho54 hb hg_ hnew_
     have HS0_ := (hb.cell (World.block_lt_of_cell? _ _ (hHeld))).trans (hHeld)
     clear hg_ hnew_
     (first | rw [← Ny294.out] at ho54 | (simp only [Int.reduceToNat] at ho54; rw [← Ny294.out] at ho54))
     have n0_ := Aside0.mk (Kd.R_below (uR HO_4.out) hb)
     have n1_ := Aside0.mk (Kd.R_elder' (uR HO_5.out) (Kd.R_base ho54) hb)
     have n2_ := Aside0.mk (Kd.R_below (uR HO_6.out) hb)
     have n3_ := Aside0.mk (Kd.R_below (uR HO286.out) hb)
     have n4_ := Aside0.mk (Kd.R_below (uR HO293.out) hb)
     have n5_ := Aside0.mk (Kd.R_lower (Kd.R_new' ho54 (Kd.R_lt (uR HO_5.out))) (below_size (by repeat (first | (with_reducible first | exact HB.out | apply below_alloc | apply pw_below_drewN | apply below_drew1 | refine below_set ?_ GE268.out) | exact HB.out))))
     have n6_ := Aside0.mk (blk_below (g := gb268) (o := .cells #[.int .i64 a0_0, .int .i64 a0_1, .slice A0_2 l0_2.length c0_2, .slice (some ad280) l0_3.length c0_3] 25 (0, 0)) (uB BK268.out) hb)
     have n7_ := Aside0.mk (below_step (by repeat (first | (with_reducible first | exact HB.out | apply below_alloc | apply pw_below_drewN | apply below_drew1 | refine below_set ?_ GE268.out) | exact HB.out)) hb)
     clear HO_4
     clear HO_5
     clear HO_6
     clear HO286
     clear HO293
     clear BK268
     clear HB
     have HO_4 := n0_
     have HO_5 := n1_
     have HO_6 := n2_
     have HO286 := n3_
     have HO293 := n4_
     have HO296 := n5_
     have BK268 := n6_
     have HB := n7_
     clear n0_ n1_ n2_ n3_ n4_ n5_ n6_ n7_
     clear hb ho54
     refine hK.out _ _ (HS0_) (fun hHeld => ?_)
     clear hK K
     refine norm_ (a' := ?_) ?_ ?_
     rotate_left
     (focus
     show Act.put _ (some 68) _ = _
     simp only [Act.put, List.setIfInBounds_toArray, List.set_cons_zero, List.set_cons_succ, i64_w, i32_w]
     rfl
     )
     exact norm_ (by first | (simp only [putAll, Act.put, List.setIfInBounds_toArray, List.set_cons_zero, List.set_cons_succ]; done) | (simp only [putAll, Act.put, List.setIfInBounds_toArray, List.set_cons_zero, List.set_cons_succ]; rfl)) (hJ2_12_13_15 (.slice Ao54 y284.length co54, v292, v295) _ ⟨hHeld, (uR HO286.out), (uR HO293.out), (uR (Kd.R_mono HO296.out (fun _ hk => hk.2))), (uR HO_4.out), (uR (Kd.R_mono HO_5.out (fun _ hk => hk.2))), (uR HO_6.out), (uB BK268.out), (by repeat (first | (with_reducible first | exact HB.out | apply below_alloc | apply pw_below_drewN | apply below_drew1 | refine below_set ?_ GE268.out) | exact HB.out))⟩)
     )
     )
     )
     (focus
     skip
     rintro ⟨v285, v288, v292⟩ w53 ⟨hS_, h0_, h1_, h2_, h3_, h4_, h5_, h6_⟩
     have n0_ : Aside0 (Kd.R (Kd.int .i64) 3 w53 w.heap.size (fun k_ => some k_ ≠ (v288 : Value).ownBlock) v285 y284) := ⟨h0_⟩
     have n1_ : Aside0 (Kd.R (Kd.int .i64) 3 w53 w.heap.size (fun k_ => some k_ ≠ (v285 : Value).ownBlock) v288 y287) := ⟨h1_⟩
     have n2_ : Aside0 (Kd.R (Kd.int .u8) 5 w53 w.heap.size (fun _ => True) v292 y291) := ⟨h2_⟩
     have n3_ : Aside0 (Kd.R Kd.string 9 w53 w.heap.size (fun _ => True) (.slice (some ad290) x5_2.length co45) x5_2) := ⟨h3_⟩
     have n4_ : Aside0 (Kd.R Kd.bool 4 w53 w.heap.size (fun _ => True) (.slice (some ⟨go6, 0, none⟩) x6_2.length co6) y283) := ⟨h4_⟩
     have n5_ : Aside0 (w53.heap[gb268]? = some (.cells #[.int .i64 a0_0, .int .i64 a0_1, .slice A0_2 l0_2.length c0_2, .slice (some ad280) l0_3.length c0_3] 25 (0, 0))) := ⟨h5_⟩
     have n6_ : Aside0 (Below w.heap.size w w53) := ⟨h6_⟩
     clear HO_4
     clear HO_5
     clear HO_6
     clear BK268
     clear HB
     clear h0_ h1_ h2_ h3_ h4_ h5_ h6_
     have HO286 := n0_
     have HO289 := n1_
     have HO293 := n2_
     have HO_5 := n3_
     have HO_6 := n4_
     have BK268 := n5_
     have HB := n6_
     clear n0_ n1_ n2_ n3_ n4_ n5_ n6_
     have hHeld : w53.cell? (ad290.add (x7_1).toNat) = some (.string (rdOf ByteArray.empty x5_2 x7_1)) := hS_
     refine norm_ (a' := ?_) ?_ ?_
     rotate_left
     (focus
     simp only [putAll, Act.put, List.setIfInBounds_toArray, List.set_cons_zero, List.set_cons_succ]
     rfl
     )
     refine one_ (i := 13) (N := some 66) #[true, true, true, true, true, true, true, true, true, true, true, true, true, true, false, false, false, false, false] rfl rfl (one_of HT_.out (by kernel_rfl)) (by decide) (fun K hK => ?_)
     have hcv54 := own_string (P := Try.prog) Try.underlying56 Try.underlying5 Try.underlying9 (Kd.own_of_R HO293.out)
     refine value_ (w1 := ?_) (v := ?_) (by rfl) rfl ?_ ?_
     rotate_left 2
     (focus
     go_simp
     constructor
     (focus
     rfl
     )
     (focus
     rfl
     )
     )
     clear hcv54
     refine hK.out _ _ (hHeld) (fun hHeld => ?_)
     clear hK K
     refine norm_ (a' := ?_) ?_ ?_
     rotate_left
     (focus
     show Act.put _ (some 66) _ = _
     simp only [Act.put, List.setIfInBounds_toArray, List.set_cons_zero, List.set_cons_succ, i64_w, i32_w]
     rfl
     )
     refine pure_ (i := 14) (N := some 67) (v := ?_) (a' := ?_) #[true, true, true, true, true, true, true, true, true, true, true, true, true, true, true, false, false, false, false] rfl rfl (any_of HT_.out (by kernel_rfl)) (fun _ _ _ h => h) (Or.inl ⟨by rfl, ?_⟩) ?_ ?_
     rotate_left
     (focus
     intro w'
     go_simp
     with_reducible rfl
     )
     rotate_left
     (focus
     simp only [Act.put, List.setIfInBounds_toArray, List.set_cons_zero, List.set_cons_succ, i64_w, i32_w]
     rfl
     )
     exact norm_ (by first | (simp only [putAll, Act.put, List.setIfInBounds_toArray, List.set_cons_zero, List.set_cons_succ]; done) | (simp only [putAll, Act.put, List.setIfInBounds_toArray, List.set_cons_zero, List.set_cons_succ]; rfl)) (hJ2_3_12_13 (v285, v288, v292) _ ⟨hHeld, (uR HO286.out), (uR HO289.out), (uR HO293.out), (uR HO_5.out), (uR HO_6.out), (uB BK268.out), (by repeat (first | (with_reducible first | exact HB.out | apply below_alloc | apply pw_below_drewN | apply below_drew1 | refine below_set ?_ GE268.out) | exact HB.out))⟩)
     )
     )
     (focus
     skip
     rintro ⟨v285, v292, v295⟩ w54 ⟨hS_, h0_, h1_, h2_, h3_, h4_, h5_, h6_, h7_⟩
     have n0_ : Aside0 (Kd.R (Kd.int .i64) 3 w54 w.heap.size (fun k_ => some k_ ≠ (.slice (some ad279) x4_2.length co42 : Value).ownBlock) v285 y284) := ⟨h0_⟩
     have n1_ : Aside0 (Kd.R (Kd.int .u8) 5 w54 w.heap.size (fun _ => True) v292 y291) := ⟨h1_⟩
     have n2_ : Aside0 (Kd.R Kd.string 9 w54 w.heap.size (fun k_ => some k_ ≠ (.slice (some ad290) x5_2.length co45 : Value).ownBlock) v295 y294) := ⟨h2_⟩
     have n3_ : Aside0 (Kd.R (Kd.int .i64) 3 w54 w.heap.size (fun k_ => some k_ ≠ (v285 : Value).ownBlock) (.slice (some ad279) x4_2.length co42) x4_2) := ⟨h3_⟩
     have n4_ : Aside0 (Kd.R Kd.string 9 w54 w.heap.size (fun k_ => some k_ ≠ (v295 : Value).ownBlock) (.slice (some ad290) x5_2.length co45) x5_2) := ⟨h4_⟩
     have n5_ : Aside0 (Kd.R Kd.bool 4 w54 w.heap.size (fun _ => True) (.slice (some ⟨go6, 0, none⟩) x6_2.length co6) y283) := ⟨h5_⟩
     have n6_ : Aside0 (w54.heap[gb268]? = some (.cells #[.int .i64 a0_0, .int .i64 a0_1, .slice A0_2 l0_2.length c0_2, .slice (some ad280) l0_3.length c0_3] 25 (0, 0))) := ⟨h6_⟩
     have n7_ : Aside0 (Below w.heap.size w w54) := ⟨h7_⟩
     clear HO_4
     clear HO_5
     clear HO_6
     clear BK268
     clear HB
     clear h0_ h1_ h2_ h3_ h4_ h5_ h6_ h7_
     have HO286 := n0_
     have HO293 := n1_
     have HO296 := n2_
     have HO_4 := n3_
     have HO_5 := n4_
     have HO_6 := n5_
     have BK268 := n6_
     have HB := n7_
     clear n0_ n1_ n2_ n3_ n4_ n5_ n6_ n7_
     have hHeld : w54.cell? (ad290.add (x7_1).toNat) = some (.string (rdOf ByteArray.empty x5_2 x7_1)) := hS_
     obtain ⟨Ao56, co56, eo56⟩ := Kd.R_slice HO286.out
     (first | subst eo56 | (injection eo56 with f1_ f2_ f3_; have f4_ := f1_.symm; have f5_ := f3_.symm; clear f1_ f2_ f3_; subst f4_; subst f5_))
     refine norm_ (a' := ?_) ?_ ?_
     rotate_left
     (focus
     simp only [putAll, Act.put, List.setIfInBounds_toArray, List.set_cons_zero, List.set_cons_succ]
     rfl
     )
     refine one_ (i := 3) (N := some 56) #[true, true, true, true, true, true, true, true, true, true, true, true, true, true, true, true, false, false, false] rfl rfl (one_of HT_.out (by kernel_rfl)) (by decide) (fun K hK => ?_)
     refine Kd.R_append_rows_step (Kd.int .i64) (w0 := w) w.heap.size (by rfl) (.tmp 53) (.tmp 55) 38 3 (.int .i64 0) 8 rfl Try.underlying38 info3 rfl (by decide) (by omega) (.slice (some ad279) x4_2.length co42) x4_2 y284 _ _ _ (fun k_ => some k_ ≠ (.slice Ao56 y284.length co56 : Value).ownBlock) (fun _ => False) rfl rfl ?aO ?aR (fun _ _ h => h) (fun _ h => h.elim) ?aF ?aB ?aS ?aL ?_
     (case aR => repeat (first | exact (Kd.R_reads' HO286.out).2.2 | (with_reducible refine Kd.C_alloc ?_ _) | (with_reducible refine Kd.C_drewN ?_ _) | (with_reducible refine Kd.C_drew ?_)))
     (case aB => exact (by repeat (first | (with_reducible first | exact HB.out | apply below_alloc | apply pw_below_drewN | apply below_drew1 | refine below_set ?_ GE268.out) | exact HB.out)))
     (case aF => exact (fun k_ hk => Kd.fresh' (Kd.R_lt (uR HO286.out)) k_ hk))
     (case aO => exact (uR HO_4.out))
     (case aS => exact (below_size (by repeat (first | (with_reducible first | exact HB.out | apply below_alloc | apply pw_below_drewN | apply below_drew1 | refine below_set ?_ GE268.out) | exact HB.out))))
     (case aL => have := LMc36.out; omega)
     intro v288 w55 ho hb hg hat
     have HS0_ := cell_grown hg (hHeld) (by first | (rw [add_block]; exact (ne_typed (Kd.R_typed HO_5.out) (Kd.R_typed HO_4.out) (by decide) _ rfl)) | (show some (Addr.add _ _).block ≠ _; rw [add_block]; exact (ne_typed (Kd.R_typed HO_5.out) (Kd.R_typed HO_4.out) (by decide) _ rfl)) | exact (ne_typed (Kd.R_typed HO_5.out) (Kd.R_typed HO_4.out) (by decide) _ rfl))
     rw [← Ny287.out] at ho
     have n0_ := Aside0.mk (Kd.R_over' (uR HO_5.out) (Kd.R_typed (uR HO_4.out)) (by decide) hg)
     have n1_ := Aside0.mk (Kd.R_over' (uR HO_6.out) (Kd.R_typed (uR HO_4.out)) (by decide) hg)
     have n2_ := Aside0.mk (blk_grown (g := gb268) (o := .cells #[.int .i64 a0_0, .int .i64 a0_1, .slice A0_2 l0_2.length c0_2, .slice (some ad280) l0_3.length c0_3] 25 (0, 0)) (uB BK268.out) hg (Kd.R_ne HO_4.out BK268.out (by decide)))
     have n3_ := Aside0.mk (Kd.R_after (ok := (fun _ => True)) (uR (Kd.R_mono HO286.out (fun _ hk => ⟨trivial, hk⟩))) hg hat)
     have n4_ := Aside0.mk (Kd.R_over' (uR HO293.out) (Kd.R_typed (uR HO_4.out)) (by decide) hg)
     have n5_ := Aside0.mk (Kd.R_over' (uR HO296.out) (Kd.R_typed (uR HO_4.out)) (by decide) hg)
     have n6_ := Aside0.mk (hb)
     have n7_ := Aside0.mk (ho)
     clear HO_5
     clear HO_6
     clear BK268
     clear HO286
     clear HO293
     clear HO296
     clear HB
     clear HO_4
     have HO_5 := n0_
     have HO_6 := n1_
     have BK268 := n2_
     have HO286 := n3_
     have HO293 := n4_
     have HO296 := n5_
     have HB := n6_
     have HO289 := n7_
     clear n0_ n1_ n2_ n3_ n4_ n5_ n6_ n7_
     clear ho hb hg hat
     refine hK.out _ _ (HS0_) (fun hHeld => ?_)
     clear hK K
     refine norm_ (a' := ?_) ?_ ?_
     rotate_left
     (focus
     show Act.put _ (some 56) _ = _
     simp only [Act.put, List.setIfInBounds_toArray, List.set_cons_zero, List.set_cons_succ, i64_w, i32_w]
     rfl
     )
     exact norm_ (by first | (simp only [putAll, Act.put, List.setIfInBounds_toArray, List.set_cons_zero, List.set_cons_succ]; done) | (simp only [putAll, Act.put, List.setIfInBounds_toArray, List.set_cons_zero, List.set_cons_succ]; rfl)) (hJ2_3_12_13_15 (.slice Ao56 y284.length co56, v288, v292, v295) _ ⟨hHeld, (uR (Kd.R_mono HO286.out (fun _ hk => hk.2))), (uR HO289.out), (uR HO293.out), (uR HO296.out), (uR HO_5.out), (uR HO_6.out), (uB BK268.out), (by repeat (first | (with_reducible first | exact HB.out | apply below_alloc | apply pw_below_drewN | apply below_drew1 | refine below_set ?_ GE268.out) | exact HB.out))⟩)
     )
     )
     (focus
     skip
     rintro ⟨v285, v288, v292⟩ w54 ⟨hS_, h0_, h1_, h2_, h3_, h4_, h5_, h6_⟩
     have n0_ : Aside0 (Kd.R (Kd.int .i64) 3 w54 w.heap.size (fun k_ => some k_ ≠ (v288 : Value).ownBlock) v285 y284) := ⟨h0_⟩
     have n1_ : Aside0 (Kd.R (Kd.int .i64) 3 w54 w.heap.size (fun k_ => some k_ ≠ (v285 : Value).ownBlock) v288 y287) := ⟨h1_⟩
     have n2_ : Aside0 (Kd.R (Kd.int .u8) 5 w54 w.heap.size (fun _ => True) v292 y291) := ⟨h2_⟩
     have n3_ : Aside0 (Kd.R Kd.string 9 w54 w.heap.size (fun _ => True) (.slice (some ad290) x5_2.length co45) x5_2) := ⟨h3_⟩
     have n4_ : Aside0 (Kd.R Kd.bool 4 w54 w.heap.size (fun _ => True) (.slice (some ⟨go6, 0, none⟩) x6_2.length co6) y283) := ⟨h4_⟩
     have n5_ : Aside0 (w54.heap[gb268]? = some (.cells #[.int .i64 a0_0, .int .i64 a0_1, .slice A0_2 l0_2.length c0_2, .slice (some ad280) l0_3.length c0_3] 25 (0, 0))) := ⟨h5_⟩
     have n6_ : Aside0 (Below w.heap.size w w54) := ⟨h6_⟩
     clear HO_4
     clear HO_5
     clear HO_6
     clear BK268
     clear HB
     clear h0_ h1_ h2_ h3_ h4_ h5_ h6_
     have HO286 := n0_
     have HO289 := n1_
     have HO293 := n2_
     have HO_5 := n3_
     have HO_6 := n4_
     have BK268 := n5_
     have HB := n6_
     clear n0_ n1_ n2_ n3_ n4_ n5_ n6_
     have hHeld : w54.cell? (ad290.add (x7_1).toNat) = some (.string (rdOf ByteArray.empty x5_2 x7_1)) := hS_
     refine norm_ (a' := ?_) ?_ ?_
     rotate_left
     (focus
     simp only [putAll, Act.put, List.setIfInBounds_toArray, List.set_cons_zero, List.set_cons_succ]
     rfl
     )
     refine one_ (i := 15) (N := some 68) #[true, true, true, true, true, true, true, true, true, true, true, true, true, true, true, true, false, false, false] rfl rfl (one_of HT_.out (by kernel_rfl)) (by decide) (fun K hK => ?_)
     refine Kd.R_lit_step Kd.string _ 9 ?hg (N := 68) ?hd (xs := ([(rdOf ByteArray.empty x5_2 x7_1) ++ (strOfNums y291)] : List ByteArray)) (inner := [.string ((rdOf ByteArray.empty x5_2 x7_1) ++ (strOfNums y291))]) (ok := fun _ => True) (okp := fun _ => True) ?hr ?hp (fun _ hk => hk) trivial (Below.refl _ _) (Nat.le_refl _) (by simp) ?_; (case hd => rfl); (case hg => rfl); (case hr => first | (go_simp; done) | (go_simp; rfl)); (case hp => exact (Reps.one (show Kd.M Kd.string _ _ _ ((rdOf ByteArray.empty x5_2 x7_1) ++ (strOfNums y291)) [.string ((rdOf ByteArray.empty x5_2 x7_1) ++ (strOfNums y291))] from rfl) (Reps.none _ _)))
     intro v295 w55 ho56 hb hg_ hnew_
     have HS0_ := (hb.cell (World.block_lt_of_cell? _ _ (hHeld))).trans (hHeld)
     clear hg_ hnew_
     (first | rw [← Ny294.out] at ho56 | (simp only [Int.reduceToNat] at ho56; rw [← Ny294.out] at ho56))
     have n0_ := Aside0.mk (Kd.R_elder' (uR HO_5.out) (Kd.R_base ho56) hb)
     have n1_ := Aside0.mk (Kd.R_below (uR HO_6.out) hb)
     have n2_ := Aside0.mk (Kd.R_below (uR HO286.out) hb)
     have n3_ := Aside0.mk (Kd.R_below (uR HO289.out) hb)
     have n4_ := Aside0.mk (Kd.R_below (uR HO293.out) hb)
     have n5_ := Aside0.mk (Kd.R_lower (Kd.R_new' ho56 (Kd.R_lt (uR HO_5.out))) (below_size (by repeat (first | (with_reducible first | exact HB.out | apply below_alloc | apply pw_below_drewN | apply below_drew1 | refine below_set ?_ GE268.out) | exact HB.out))))
     have n6_ := Aside0.mk (blk_below (g := gb268) (o := .cells #[.int .i64 a0_0, .int .i64 a0_1, .slice A0_2 l0_2.length c0_2, .slice (some ad280) l0_3.length c0_3] 25 (0, 0)) (uB BK268.out) hb)
     have n7_ := Aside0.mk (below_step (by repeat (first | (with_reducible first | exact HB.out | apply below_alloc | apply pw_below_drewN | apply below_drew1 | refine below_set ?_ GE268.out) | exact HB.out)) hb)
     clear HO_5
     clear HO_6
     clear HO286
     clear HO289
     clear HO293
     clear BK268
     clear HB
     have HO_5 := n0_
     have HO_6 := n1_
     have HO286 := n2_
     have HO289 := n3_
     have HO293 := n4_
     have HO296 := n5_
     have BK268 := n6_
     have HB := n7_
     clear n0_ n1_ n2_ n3_ n4_ n5_ n6_ n7_
     clear hb ho56
     refine hK.out _ _ (HS0_) (fun hHeld => ?_)
     clear hK K
     refine norm_ (a' := ?_) ?_ ?_
     rotate_left
     (focus
     show Act.put _ (some 68) _ = _
     simp only [Act.put, List.setIfInBounds_toArray, List.set_cons_zero, List.set_cons_succ, i64_w, i32_w]
     rfl
     )
     exact norm_ (by first | (simp only [putAll, Act.put, List.setIfInBounds_toArray, List.set_cons_zero, List.set_cons_succ]; done) | (simp only [putAll, Act.put, List.setIfInBounds_toArray, List.set_cons_zero, List.set_cons_succ]; rfl)) (hJ2_3_12_13_15 (v285, v288, v292, v295) _ ⟨hHeld, (uR HO286.out), (uR HO289.out), (uR HO293.out), (uR (Kd.R_mono HO296.out (fun _ hk => hk.2))), (uR (Kd.R_mono HO_5.out (fun _ hk => hk.2))), (uR HO_6.out), (uB BK268.out), (by repeat (first | (with_reducible first | exact HB.out | apply below_alloc | apply pw_below_drewN | apply below_drew1 | refine below_set ?_ GE268.out) | exact HB.out))⟩)
     )
     )
     rintro ⟨v285, v288, v292, v295⟩ w56 ⟨hS_, h0_, h1_, h2_, h3_, h4_, h5_, h6_, h7_⟩
     have n0_ : Aside0 (Kd.R (Kd.int .i64) 3 w56 w.heap.size (fun k_ => some k_ ≠ (v288 : Value).ownBlock) v285 y284) := ⟨h0_⟩
     have n1_ : Aside0 (Kd.R (Kd.int .i64) 3 w56 w.heap.size (fun k_ => some k_ ≠ (v285 : Value).ownBlock) v288 y287) := ⟨h1_⟩
     have n2_ : Aside0 (Kd.R (Kd.int .u8) 5 w56 w.heap.size (fun _ => True) v292 y291) := ⟨h2_⟩
     have n3_ : Aside0 (Kd.R Kd.string 9 w56 w.heap.size (fun k_ => some k_ ≠ (.slice (some ad290) x5_2.length co45 : Value).ownBlock) v295 y294) := ⟨h3_⟩
     have n4_ : Aside0 (Kd.R Kd.string 9 w56 w.heap.size (fun k_ => some k_ ≠ (v295 : Value).ownBlock) (.slice (some ad290) x5_2.length co45) x5_2) := ⟨h4_⟩
     have n5_ : Aside0 (Kd.R Kd.bool 4 w56 w.heap.size (fun _ => True) (.slice (some ⟨go6, 0, none⟩) x6_2.length co6) y283) := ⟨h5_⟩
     have n6_ : Aside0 (w56.heap[gb268]? = some (.cells #[.int .i64 a0_0, .int .i64 a0_1, .slice A0_2 l0_2.length c0_2, .slice (some ad280) l0_3.length c0_3] 25 (0, 0))) := ⟨h6_⟩
     have n7_ : Aside0 (Below w.heap.size w w56) := ⟨h7_⟩
     clear HO_4
     clear HO_5
     clear HO_6
     clear BK268
     clear HB
     clear h0_ h1_ h2_ h3_ h4_ h5_ h6_ h7_
     have HO286 := n0_
     have HO289 := n1_
     have HO293 := n2_
     have HO296 := n3_
     have HO_5 := n4_
     have HO_6 := n5_
     have BK268 := n6_
     have HB := n7_
     clear n0_ n1_ n2_ n3_ n4_ n5_ n6_ n7_
     have hHeld : w56.cell? (ad290.add (x7_1).toNat) = some (.string (rdOf ByteArray.empty x5_2 x7_1)) := hS_
     obtain ⟨Ao58, co58, eo58⟩ := Kd.R_slice HO296.out
     (first | subst eo58 | (injection eo58 with f1_ f2_ f3_; have f4_ := f1_.symm; have f5_ := f3_.symm; clear f1_ f2_ f3_; subst f4_; subst f5_))
     refine norm_ (a' := ?_) ?_ ?_
     rotate_left
     (focus
     simp only [putAll, Act.put, List.setIfInBounds_toArray, List.set_cons_zero, List.set_cons_succ]
     rfl
     )
     refine last_ (i := 16) (N := some 69) #[true, true, true, true, true, true, true, true, true, true, true, true, true, true, true, true, true, false, false] rfl rfl (one_of HT_.out (by kernel_rfl)) (by decide) (fun K hK => ?_)
     refine Kd.R_append_rows_step Kd.string (w0 := w) w.heap.size (by rfl) (.tmp 57) (.tmp 68) 30 9 (.string ⟨#[]⟩) 16 rfl Try.underlying30 info9 rfl (by decide) (by omega) (.slice (some ad290) x5_2.length co45) x5_2 y294 _ _ _ (fun k_ => some k_ ≠ (.slice Ao58 y294.length co58 : Value).ownBlock) (fun _ => False) rfl rfl ?aO ?aR (fun _ _ h => h) (fun _ h => h.elim) ?aF ?aB ?aS ?aL ?_
     (case aR => repeat (first | exact (Kd.R_reads' HO296.out).2.2 | (with_reducible refine Kd.C_alloc ?_ _) | (with_reducible refine Kd.C_drewN ?_ _) | (with_reducible refine Kd.C_drew ?_)))
     (case aB => exact (by repeat (first | (with_reducible first | exact HB.out | apply below_alloc | apply pw_below_drewN | apply below_drew1 | refine below_set ?_ GE268.out) | exact HB.out)))
     (case aF => exact (fun k_ hk => Kd.fresh' (Kd.R_lt (uR HO296.out)) k_ hk))
     (case aO => exact (uR HO_5.out))
     (case aS => exact (below_size (by repeat (first | (with_reducible first | exact HB.out | apply below_alloc | apply pw_below_drewN | apply below_drew1 | refine below_set ?_ GE268.out) | exact HB.out))))
     (case aL => have := LMc39.out; omega)
     intro v298 w57 ho hb hg hat
     rw [← Ny297.out] at ho
     have n0_ := Aside0.mk (Kd.R_over' (uR HO_6.out) (Kd.R_typed (uR HO_5.out)) (by decide) hg)
     have n1_ := Aside0.mk (blk_grown (g := gb268) (o := .cells #[.int .i64 a0_0, .int .i64 a0_1, .slice A0_2 l0_2.length c0_2, .slice (some ad280) l0_3.length c0_3] 25 (0, 0)) (uB BK268.out) hg (Kd.R_ne HO_5.out BK268.out (by decide)))
     have n2_ := Aside0.mk (Kd.R_over' (uR HO286.out) (Kd.R_typed (uR HO_5.out)) (by decide) hg)
     have n3_ := Aside0.mk (Kd.R_over' (uR HO289.out) (Kd.R_typed (uR HO_5.out)) (by decide) hg)
     have n4_ := Aside0.mk (Kd.R_over' (uR HO293.out) (Kd.R_typed (uR HO_5.out)) (by decide) hg)
     have n5_ := Aside0.mk (Kd.R_after (ok := (fun _ => True)) (uR (Kd.R_mono HO296.out (fun _ hk => ⟨trivial, hk⟩))) hg hat)
     have n6_ := Aside0.mk (hb)
     have n7_ := Aside0.mk (ho)
     clear HO_6
     clear BK268
     clear HO286
     clear HO289
     clear HO293
     clear HO296
     clear HB
     clear HO_5
     have HO_6 := n0_
     have BK268 := n1_
     have HO286 := n2_
     have HO289 := n3_
     have HO293 := n4_
     have HO296 := n5_
     have HB := n6_
     have HO299 := n7_
     clear n0_ n1_ n2_ n3_ n4_ n5_ n6_ n7_
     clear ho hb hg hat
     refine hK.out _ _ ?_
     clear hK K
     refine norm_ (a' := ?_) ?_ ?_
     rotate_left
     (focus
     show Act.put _ (some 69) _ = _
     simp only [Act.put, List.setIfInBounds_toArray, List.set_cons_zero, List.set_cons_succ, i64_w, i32_w]
     rfl
     )
     refine pure_ (i := 17) (N := some 4) (v := ?_) (a' := ?_) #[true, true, true, true, true, true, true, true, true, true, true, true, true, true, true, true, true, true, false] rfl rfl (any_of HT_.out (by kernel_rfl)) (fun _ _ _ h => h) (Or.inl ⟨by rfl, ?_⟩) ?_ ?_
     rotate_left
     (focus
     intro w'
     go_simp
     with_reducible rfl
     )
     rotate_left
     (focus
     simp only [Act.put, List.setIfInBounds_toArray, List.set_cons_zero, List.set_cons_succ, i64_w, i32_w]
     rfl
     )
     refine pure_ (i := 18) (N := some 5) (v := ?_) (a' := ?_) #[true, true, true, true, true, true, true, true, true, true, true, true, true, true, true, true, true, true, true] rfl rfl (any_of HT_.out (by kernel_rfl)) (fun _ _ _ h => h) (Or.inl ⟨by rfl, ?_⟩) ?_ ?_
     rotate_left
     (focus
     intro w'
     go_simp
     with_reducible rfl
     )
     rotate_left
     (focus
     simp only [Act.put, List.setIfInBounds_toArray, List.set_cons_zero, List.set_cons_succ, i64_w, i32_w]
     rfl
     )
     refine done_ (done_of HT_.out (by kernel_rfl)) ?_
     try go_wp2
     (try simp only [← hl6_2])
     go_roundg k2
     case measure => have := HK1.out; have := HK2.out; omega
     case rel => exact ⟨(y287), (y297), (y283), (wrap64 (x8_2 + 1)), (by first | rfl | (simp; done) | (simp [*]; done)), H', ⟨by have := HK1.out; have := HK2.out; omega⟩, ⟨by (try simp only [hl6_1]); (try simp only [hl6_2]); (with_reducible repeat (first | apply Kd.R_alloc | apply Kd.R_drewN | apply Kd.R_drew)); exact Kd.R_mono HO289.out (fun _ hk => trivial)⟩, ⟨by (try simp only [hl6_1]); (try simp only [hl6_2]); (with_reducible repeat (first | apply Kd.R_alloc | apply Kd.R_drewN | apply Kd.R_drew)); exact Kd.R_mono HO299.out (fun _ hk => trivial)⟩, ⟨by (try simp only [hl6_1]); (try simp only [hl6_2]); (with_reducible repeat (first | apply Kd.R_alloc | apply Kd.R_drewN | apply Kd.R_drew)); exact HO_6.out⟩, ⟨by (try simp only [hl6_1]); (try simp only [hl6_2]); (with_reducible repeat (first | refine blk_drewN ?_ _ | refine blk_drew ?_ | refine blk_alloc ?_ _)); exact BK268.out⟩, ⟨by repeat (first | (with_reducible first | exact HB.out | apply below_alloc | apply pw_below_drewN | apply below_drew1 | refine below_set ?_ GE268.out) | exact HB.out)⟩⟩
     )
     (focus
     rw [if_neg c39] at H
     exact absurd H (by simp)
     )
     )
     (focus
     rw [if_neg c38] at H
     exact absurd H (by simp)
     )
     )
     (focus
     rw [if_neg c37] at H
     exact absurd H (by simp)
     )
     )
     (focus
     rw [if_neg c36] at H
     exact absurd H (by simp)
     )
     )
     )
     (focus
     rw [if_neg c29] at H
     exact absurd H (by simp)
     )
     )
     (focus
     rw [if_neg c28] at H
     exact absurd H (by simp)
     )
     )
     (focus
     rw [if_neg c27] at H
     exact absurd H (by simp)
     )
     )
     (focus
     rw [if_neg c26] at H
     exact absurd H (by simp)
     )
     )
     (focus
     rw [if_neg c25] at H
     exact absurd H (by simp)
     )
     )
     (focus
     rw [if_neg c24] at H
     exact absurd H (by simp)
     )
     )
     (focus
     rw [if_neg c23] at H
     exact absurd H (by simp)
     )
     )
     (focus
     rw [if_neg c22] at H
     exact absurd H (by simp)
     )
     )
     (focus
     rw [if_neg c21] at H
     have c21b0 : decide (x8_2 < a0_0) = false := decide_eq_false c21
     clear c21
     have H' := Aside0.mk H
     clear H
     have hcz59_0 : wr.cell? ⟨gb268, 0, none⟩ = some (.int .i64 a0_0) := (blk_cell BK268.out 0).trans rfl
     have hcz59_1 : wr.cell? ⟨gb268, 1, none⟩ = some (.int .i64 a0_1) := (blk_cell BK268.out 1).trans rfl
     have hcz59_2 : wr.cell? ⟨gb268, 2, none⟩ = some (.slice A0_2 l0_2.length c0_2) := (blk_cell BK268.out 2).trans rfl
     have hcz59_3 : wr.cell? ⟨gb268, 3, none⟩ = some (.slice A0_3 l0_3.length c0_3) := (blk_cell BK268.out 3).trans rfl
     have hfz59_0 := blk_frozen BK268.out 0
     have hfz59_1 := blk_frozen BK268.out 1
     have hfz59_2 := blk_frozen BK268.out 2
     have hfz59_3 := blk_frozen BK268.out 3
     go_wp2
     (try simp only [← hl6_1, ← hl6_2])
     go_roundg k2
     case measure => have := HK1.out; have := HK2.out; omega
     case rel => exact ⟨(x4_2), (x5_2), (x6_2), (wrap64 (x7_1 + 1)), (by first | rfl | (simp; done) | (simp [*]; done)), H', ⟨by have := HK1.out; have := HK2.out; omega⟩, ⟨by (try simp only [hl6_1]); (try simp only [hl6_2]); (with_reducible repeat (first | apply Kd.R_alloc | apply Kd.R_drewN | apply Kd.R_drew)); exact HO_4.out⟩, ⟨by (try simp only [hl6_1]); (try simp only [hl6_2]); (with_reducible repeat (first | apply Kd.R_alloc | apply Kd.R_drewN | apply Kd.R_drew)); exact HO_5.out⟩, ⟨by (try simp only [hl6_1]); (try simp only [hl6_2]); (with_reducible repeat (first | apply Kd.R_alloc | apply Kd.R_drewN | apply Kd.R_drew)); exact HO_6.out⟩, ⟨by (try simp only [hl6_1]); (try simp only [hl6_2]); (with_reducible repeat (first | refine blk_drewN ?_ _ | refine blk_drew ?_ | refine blk_alloc ?_ _)); exact BK268.out⟩, ⟨by repeat (first | (with_reducible first | exact HB.out | apply below_alloc | apply pw_below_drewN | apply below_drew1 | refine below_set ?_ GE268.out) | exact HB.out)⟩⟩
     )
   )
   (focus
   rw [if_neg c19] at H
   have c19b0 : decide (x7_1 < (x4_1.length : Int)) = false := decide_eq_false c19
   (try (have c19b0_hl6_1 := c19b0; simp only [hl6_1] at c19b0_hl6_1))
   clear c19
   simp only [Option.some.injEq, Prod.mk.injEq] at H
   obtain ⟨rfl, rfl⟩ := H
   obtain ⟨Ao60, co60, eo60⟩ := Kd.R_slice HO_4.out
   subst eo60
   go_wp2
   go_ret2
   exact ⟨_, _, by first | rfl | (simp [errW_none, errW_some] <;> rfl) | (simp [*, errW_none, errW_some] <;> rfl), (by first | exact (uR HO_4.out) | (simp only [hl6_1]; exact (uR HO_4.out))), (by first | exact (uR HO_5.out) | (simp only [hl6_1]; exact (uR HO_5.out))), by repeat (first | (with_reducible first | exact HB.out | apply below_alloc | apply pw_below_drewN | apply below_drew1 | refine below_set ?_ GE268.out) | exact HB.out)⟩
   )
 )
 (focus
 rw [if_neg c5] at H
 exact absurd H (by simp)
 )
 )
 (focus
 rw [if_neg c4] at H
 exact absurd H (by simp)
 )
 )
 (focus
 rw [if_neg c3] at H
 exact absurd H (by simp)
 )
 )
 (focus
 rw [if_neg c2] at H
 exact absurd H (by simp)
 )
end Go.Proofs.Ytpjbmgoagehjkaa.PDfaInfinite
