import Derived.Test.YtpjbmgoagehjkaaZDfaProductsx0
import Derived.Test.YtpjbmgoagehjkaaZDfaProductsx1
import Derived.Test.YtpjbmgoagehjkaaZDfaProductsx2
namespace Go.Proofs.Ytpjbmgoagehjkaa.PDfaProducts
open Go.RowKit Go.Proofs.YtpjbmgoagehjkaaH Go.Proofs.YtpjbmgoagehjkaaW.PrintWords Go.Proofs.YtpjbmgoagehjkaaW.PrintLast Go.Proofs.YtpjbmgoagehjkaaW.PrintMore
attribute [local go_sem] max2_int min2_int max_two min_two max_three min_three max_four min_four   -- for this text's walks alone
set_option linter.unusedVariables false
set_option linter.unusedSimpArgs false
/-! ### dfa_Words: function 18 -/
mutual
def dfa_Words.j0 : Nat → Int → Bool → Int → Int → List Bool → List (List Int) → Option (List ByteArray)
 | 0, _, _, _, _, _, _ => none
 | k + 1, x1, x22, x120000, x120001, x120002, x120003 => if x22 = true then (some ([] : List ByteArray)) else ((some (([] : List Bool) : List Bool)).bind fun y121 => (if y121.length + x120002.length < 140737488355328 then (dfa_Words.l0 k x1 ([] : List ByteArray) (([(y121 ++ x120002)] : List (List Bool))) 0 x120000 x120001 x120002 x120003) else (none)))
def dfa_Words.l0 : Nat → Int → List ByteArray → List (List Bool) → Int → Int → Int → List Bool → List (List Int) → Option (List ByteArray)
 | 0, _, _, _, _, _, _, _, _ => none
 | k + 1, x1, x5, x6, x7, x120000, x120001, x120002, x120003 => if (x5.length : Int) < x1 then (dfa_Words.j2 k x1 x5 x6 x7 (decide (x7 ≤ 2048)) x120000 x120001 x120002 x120003) else (dfa_Words.j2 k x1 x5 x6 x7 false x120000 x120001 x120002 x120003)
def dfa_Words.j2 : Nat → Int → List ByteArray → List (List Bool) → Int → Bool → Int → Int → List Bool → List (List Int) → Option (List ByteArray)
 | 0, _, _, _, _, _, _, _, _, _ => none
 | k + 1, x1, x5, x6, x7, x35, x120000, x120001, x120002, x120003 => if x35 = true then (if x7 > 0 then (if 0 ≤ (x120002.length : Int) then (if ((x120002.length : Int) : Int).toNat ≤ 281474976710656 then ((some (List.replicate ((x120002.length : Int) : Int).toNat false : List Bool)).bind fun y130 => (dfa_Words.l1 k x1 x5 x6 x7 y130 (y130.length : Int) 0 x120000 x120001 x120002 x120003)) else (none)) else (none)) else (dfa_Words.j5 k x1 x5 x6 x7 x120000 x120001 x120002 x120003)) else (some x5)
def dfa_Words.j5 : Nat → Int → List ByteArray → List (List Bool) → Int → Int → Int → List Bool → List (List Int) → Option (List ByteArray)
 | 0, _, _, _, _, _, _, _, _ => none
 | k + 1, x1, x5, x6, x7, x120000, x120001, x120002, x120003 => if 0 ≤ x7 then (if x7 < (x6.length : Int) then (if 0 ≤ x120001 then (if x120001 < ((rd_L3 x6 x7).length : Int) then (if rdOf false (rd_L3 x6 x7) x120001 = true then (if (x7 : Int).toNat ≤ 281474976710656 then ((dfa_collect.f k x120000 x120001 x120002 x120003 x6 x1 x5 (List.replicate 0 0) x120001 x7).bind fun bt148 => (dfa_Words.l0 k x1 bt148.1 x6 (wrap64 (x7 + 1)) x120000 x120001 x120002 x120003)) else (none)) else (dfa_Words.l0 k x1 x5 x6 (wrap64 (x7 + 1)) x120000 x120001 x120002 x120003)) else (none)) else (none)) else (none)) else (none)
def dfa_Words.l1 : Nat → Int → List ByteArray → List (List Bool) → Int → List Bool → Int → Int → Int → Int → List Bool → List (List Int) → Option (List ByteArray)
 | 0, _, _, _, _, _, _, _, _, _, _, _ => none
 | k + 1, x1, x5, x6, x7, x8, x45, x46, x120000, x120001, x120002, x120003 => if x46 < x45 then (if 0 ≤ x46 then (if x46 < (x120003.length : Int) then (dfa_Words.l2 k x1 x5 x6 x7 x8 x46 x45 x46 (rd_L1 x120003 x46) ((rd_L1 x120003 x46).length : Int) 0 x120000 x120001 x120002 x120003) else (none)) else (none)) else (if x6.length < 5864062014805 then (dfa_Words.j5 k x1 x5 (x6 ++ [x8]) x7 x120000 x120001 x120002 x120003) else (none))
def dfa_Words.l2 : Nat → Int → List ByteArray → List (List Bool) → Int → List Bool → Int → Int → Int → List Int → Int → Int → Int → Int → List Bool → List (List Int) → Option (List ByteArray)
 | 0, _, _, _, _, _, _, _, _, _, _, _, _, _, _, _ => none
 | k + 1, x1, x5, x6, x7, x8, x9, x45, x46, x53, x54, x55, x120000, x120001, x120002, x120003 => if x55 < x54 then (if 0 ≤ x55 then (if x55 < (x53.length : Int) then (if 0 ≤ x9 then (if x9 < (x8.length : Int) then (if rdOf false x8 x9 = true then (dfa_Words.l2 k x1 x5 x6 x7 (x8.set (x9 : Int).toNat true) x9 x45 x46 x53 x54 (wrap64 (x55 + 1)) x120000 x120001 x120002 x120003) else (if 0 ≤ (wrap64 (x7 - 1)) then (if (wrap64 (x7 - 1)) < (x6.length : Int) then (if 0 ≤ (rd x53 x55) then (if (rd x53 x55) < ((rd_L3 x6 (wrap64 (x7 - 1))).length : Int) then (dfa_Words.l2 k x1 x5 x6 x7 (x8.set (x9 : Int).toNat (rdOf false (rd_L3 x6 (wrap64 (x7 - 1))) (rd x53 x55))) x9 x45 x46 x53 x54 (wrap64 (x55 + 1)) x120000 x120001 x120002 x120003) else (none)) else (none)) else (none)) else (none))) else (none)) else (none)) else (none)) else (none)) else (dfa_Words.l1 k x1 x5 x6 x7 x8 x45 (wrap64 (x46 + 1)) x120000 x120001 x120002 x120003)
end
def dfa_Words.f (k : Nat) (a0_0 : Int) (a0_1 : Int) (l0_2 : List Bool) (l0_3 : List (List Int)) (a1 : Int) : Option (List ByteArray) := (dfa_Validate.f k a0_0 a0_1 l0_2 l0_3).bind fun t120 => (if t120 = 0 then (if a1 < 0 then (dfa_Words.j0 k a1 true a0_0 a0_1 l0_2 l0_3) else (dfa_Words.j0 k a1 (decide (a1 > 200)) a0_0 a0_1 l0_2 l0_3)) else (dfa_Words.j0 k a1 true a0_0 a0_1 l0_2 l0_3))
theorem dfa_Words.mono_l : ∀ k, (∀ y0 y1 y2 y3 y4 y5, LeO (dfa_Words.j0 k y0 y1 y2 y3 y4 y5) (dfa_Words.j0 (k + 1) y0 y1 y2 y3 y4 y5)) ∧ (∀ y0 y1 y2 y3 y4 y5 y6 y7, LeO (dfa_Words.l0 k y0 y1 y2 y3 y4 y5 y6 y7) (dfa_Words.l0 (k + 1) y0 y1 y2 y3 y4 y5 y6 y7)) ∧ (∀ y0 y1 y2 y3 y4 y5 y6 y7 y8, LeO (dfa_Words.j2 k y0 y1 y2 y3 y4 y5 y6 y7 y8) (dfa_Words.j2 (k + 1) y0 y1 y2 y3 y4 y5 y6 y7 y8)) ∧ (∀ y0 y1 y2 y3 y4 y5 y6 y7, LeO (dfa_Words.j5 k y0 y1 y2 y3 y4 y5 y6 y7) (dfa_Words.j5 (k + 1) y0 y1 y2 y3 y4 y5 y6 y7)) ∧ (∀ y0 y1 y2 y3 y4 y5 y6 y7 y8 y9 y10, LeO (dfa_Words.l1 k y0 y1 y2 y3 y4 y5 y6 y7 y8 y9 y10) (dfa_Words.l1 (k + 1) y0 y1 y2 y3 y4 y5 y6 y7 y8 y9 y10)) ∧ (∀ y0 y1 y2 y3 y4 y5 y6 y7 y8 y9 y10 y11 y12 y13 y14, LeO (dfa_Words.l2 k y0 y1 y2 y3 y4 y5 y6 y7 y8 y9 y10 y11 y12 y13 y14) (dfa_Words.l2 (k + 1) y0 y1 y2 y3 y4 y5 y6 y7 y8 y9 y10 y11 y12 y13 y14))
 | 0 => ⟨fun _ _ _ _ _ _ r h => by simp [dfa_Words.j0] at h, fun _ _ _ _ _ _ _ _ r h => by simp [dfa_Words.l0] at h, fun _ _ _ _ _ _ _ _ _ r h => by simp [dfa_Words.j2] at h, fun _ _ _ _ _ _ _ _ r h => by simp [dfa_Words.j5] at h, fun _ _ _ _ _ _ _ _ _ _ _ r h => by simp [dfa_Words.l1] at h, fun _ _ _ _ _ _ _ _ _ _ _ _ _ _ _ r h => by simp [dfa_Words.l2] at h⟩
 | k + 1 => by
  obtain ⟨ih0, ih1, ih2, ih3, ih4, ih5⟩ := dfa_Words.mono_l k
  refine ⟨?_, ?_, ?_, ?_, ?_, ?_⟩
  (focus
  intro y0 y1 y2 y3 y4 y5
  unfold dfa_Words.j0
  repeat' first
  | (with_reducible exact ih0 _ _ _ _ _ _)
  | (with_reducible exact ih1 _ _ _ _ _ _ _ _)
  | (with_reducible exact ih2 _ _ _ _ _ _ _ _ _)
  | (with_reducible exact ih3 _ _ _ _ _ _ _ _)
  | (with_reducible exact ih4 _ _ _ _ _ _ _ _ _ _ _)
  | (with_reducible exact ih5 _ _ _ _ _ _ _ _ _ _ _ _ _ _ _)
  | (with_reducible exact dfa_Validate.mono _ _ _ _ _)
  | (with_reducible exact dfa_collect.mono _ _ _ _ _ _ _ _ _ _ _)
  | (with_reducible exact LeO.refl _)
  | (with_reducible exact LeO.none _)
  | (with_reducible refine LeO.ite ?_ ?_)
  | (with_reducible refine LeO.bind ?_ (fun _ => ?_))
  | exact ih0 _ _ _ _ _ _
  | exact ih1 _ _ _ _ _ _ _ _
  | exact ih2 _ _ _ _ _ _ _ _ _
  | exact ih3 _ _ _ _ _ _ _ _
  | exact ih4 _ _ _ _ _ _ _ _ _ _ _
  | exact ih5 _ _ _ _ _ _ _ _ _ _ _ _ _ _ _
  | exact dfa_Validate.mono _ _ _ _ _
  | exact dfa_collect.mono _ _ _ _ _ _ _ _ _ _ _
  | exact LeO.none _
  | refine LeO.ite ?_ ?_
  | refine LeO.bind ?_ (fun _ => ?_)
  )
  (focus
  intro y0 y1 y2 y3 y4 y5 y6 y7
  unfold dfa_Words.l0
  repeat' first
  | (with_reducible exact ih0 _ _ _ _ _ _)
  | (with_reducible exact ih1 _ _ _ _ _ _ _ _)
  | (with_reducible exact ih2 _ _ _ _ _ _ _ _ _)
  | (with_reducible exact ih3 _ _ _ _ _ _ _ _)
  | (with_reducible exact ih4 _ _ _ _ _ _ _ _ _ _ _)
  | (with_reducible exact ih5 _ _ _ _ _ _ _ _ _ _ _ _ _ _ _)
  | (with_reducible exact dfa_Validate.mono _ _ _ _ _)
  | (with_reducible exact dfa_collect.mono _ _ _ _ _ _ _ _ _ _ _)
  | (with_reducible exact LeO.refl _)
  | (with_reducible exact LeO.none _)
  | (with_reducible refine LeO.ite ?_ ?_)
  | (with_reducible refine LeO.bind ?_ (fun _ => ?_))
  | exact ih0 _ _ _ _ _ _
  | exact ih1 _ _ _ _ _ _ _ _
  | exact ih2 _ _ _ _ _ _ _ _ _
  | exact ih3 _ _ _ _ _ _ _ _
  | exact ih4 _ _ _ _ _ _ _ _ _ _ _
  | exact ih5 _ _ _ _ _ _ _ _ _ _ _ _ _ _ _
  | exact dfa_Validate.mono _ _ _ _ _
  | exact dfa_collect.mono _ _ _ _ _ _ _ _ _ _ _
  | exact LeO.none _
  | refine LeO.ite ?_ ?_
  | refine LeO.bind ?_ (fun _ => ?_)
  )
  (focus
  intro y0 y1 y2 y3 y4 y5 y6 y7 y8
  unfold dfa_Words.j2
  repeat' first
  | (with_reducible exact ih0 _ _ _ _ _ _)
  | (with_reducible exact ih1 _ _ _ _ _ _ _ _)
  | (with_reducible exact ih2 _ _ _ _ _ _ _ _ _)
  | (with_reducible exact ih3 _ _ _ _ _ _ _ _)
  | (with_reducible exact ih4 _ _ _ _ _ _ _ _ _ _ _)
  | (with_reducible exact ih5 _ _ _ _ _ _ _ _ _ _ _ _ _ _ _)
  | (with_reducible exact dfa_Validate.mono _ _ _ _ _)
  | (with_reducible exact dfa_collect.mono _ _ _ _ _ _ _ _ _ _ _)
  | (with_reducible exact LeO.refl _)
  | (with_reducible exact LeO.none _)
  | (with_reducible refine LeO.ite ?_ ?_)
  | (with_reducible refine LeO.bind ?_ (fun _ => ?_))
  | exact ih0 _ _ _ _ _ _
  | exact ih1 _ _ _ _ _ _ _ _
  | exact ih2 _ _ _ _ _ _ _ _ _
  | exact ih3 _ _ _ _ _ _ _ _
  | exact ih4 _ _ _ _ _ _ _ _ _ _ _
  | exact ih5 _ _ _ _ _ _ _ _ _ _ _ _ _ _ _
  | exact dfa_Validate.mono _ _ _ _ _
  | exact dfa_collect.mono _ _ _ _ _ _ _ _ _ _ _
  | exact LeO.none _
  | refine LeO.ite ?_ ?_
  | refine LeO.bind ?_ (fun _ => ?_)
  )
  (focus
  intro y0 y1 y2 y3 y4 y5 y6 y7
  unfold dfa_Words.j5
  repeat' first
  | (with_reducible exact ih0 _ _ _ _ _ _)
  | (with_reducible exact ih1 _ _ _ _ _ _ _ _)
  | (with_reducible exact ih2 _ _ _ _ _ _ _ _ _)
  | (with_reducible exact ih3 _ _ _ _ _ _ _ _)
  | (with_reducible exact ih4 _ _ _ _ _ _ _ _ _ _ _)
  | (with_reducible exact ih5 _ _ _ _ _ _ _ _ _ _ _ _ _ _ _)
  | (with_reducible exact dfa_Validate.mono _ _ _ _ _)
  | (with_reducible exact dfa_collect.mono _ _ _ _ _ _ _ _ _ _ _)
  | (with_reducible exact LeO.refl _)
  | (with_reducible exact LeO.none _)
  | (with_reducible refine LeO.ite ?_ ?_)
  | (with_reducible refine LeO.bind ?_ (fun _ => ?_))
  | exact ih0 _ _ _ _ _ _
  | exact ih1 _ _ _ _ _ _ _ _
  | exact ih2 _ _ _ _ _ _ _ _ _
  | exact ih3 _ _ _ _ _ _ _ _
  | exact ih4 _ _ _ _ _ _ _ _ _ _ _
  | exact ih5 _ _ _ _ _ _ _ _ _ _ _ _ _ _ _
  | exact dfa_Validate.mono _ _ _ _ _
  | exact dfa_collect.mono _ _ _ _ _ _ _ _ _ _ _
  | exact LeO.none _
  | refine LeO.ite ?_ ?_
  | refine LeO.bind ?_ (fun _ => ?_)
  )
  (focus
  intro y0 y1 y2 y3 y4 y5 y6 y7 y8 y9 y10
  unfold dfa_Words.l1
  repeat' first
  | (with_reducible exact ih0 _ _ _ _ _ _)
  | (with_reducible exact ih1 _ _ _ _ _ _ _ _)
  | (with_reducible exact ih2 _ _ _ _ _ _ _ _ _)
  | (with_reducible exact ih3 _ _ _ _ _ _ _ _)
  | (with_reducible exact ih4 _ _ _ _ _ _ _ _ _ _ _)
  | (with_reducible exact ih5 _ _ _ _ _ _ _ _ _ _ _ _ _ _ _)
  | (with_reducible exact dfa_Validate.mono _ _ _ _ _)
  | (with_reducible exact dfa_collect.mono _ _ _ _ _ _ _ _ _ _ _)
  | (with_reducible exact LeO.refl _)
  | (with_reducible exact LeO.none _)
  | (with_reducible refine LeO.ite ?_ ?_)
  | (with_reducible refine LeO.bind ?_ (fun _ => ?_))
  | exact ih0 _ _ _ _ _ _
  | exact ih1 _ _ _ _ _ _ _ _
  | exact ih2 _ _ _ _ _ _ _ _ _
  | exact ih3 _ _ _ _ _ _ _ _
  | exact ih4 _ _ _ _ _ _ _ _ _ _ _
  | exact ih5 _ _ _ _ _ _ _ _ _ _ _ _ _ _ _
  | exact dfa_Validate.mono _ _ _ _ _
  | exact dfa_collect.mono _ _ _ _ _ _ _ _ _ _ _
  | exact LeO.none _
  | refine LeO.ite ?_ ?_
  | refine LeO.bind ?_ (fun _ => ?_)
  )
  (focus
  intro y0 y1 y2 y3 y4 y5 y6 y7 y8 y9 y10 y11 y12 y13 y14
  unfold dfa_Words.l2
  repeat' first
  | (with_reducible exact ih0 _ _ _ _ _ _)
  | (with_reducible exact ih1 _ _ _ _ _ _ _ _)
  | (with_reducible exact ih2 _ _ _ _ _ _ _ _ _)
  | (with_reducible exact ih3 _ _ _ _ _ _ _ _)
  | (with_reducible exact ih4 _ _ _ _ _ _ _ _ _ _ _)
  | (with_reducible exact ih5 _ _ _ _ _ _ _ _ _ _ _ _ _ _ _)
  | (with_reducible exact dfa_Validate.mono _ _ _ _ _)
  | (with_reducible exact dfa_collect.mono _ _ _ _ _ _ _ _ _ _ _)
  | (with_reducible exact LeO.refl _)
  | (with_reducible exact LeO.none _)
  | (with_reducible refine LeO.ite ?_ ?_)
  | (with_reducible refine LeO.bind ?_ (fun _ => ?_))
  | exact ih0 _ _ _ _ _ _
  | exact ih1 _ _ _ _ _ _ _ _
  | exact ih2 _ _ _ _ _ _ _ _ _
  | exact ih3 _ _ _ _ _ _ _ _
  | exact ih4 _ _ _ _ _ _ _ _ _ _ _
  | exact ih5 _ _ _ _ _ _ _ _ _ _ _ _ _ _ _
  | exact dfa_Validate.mono _ _ _ _ _
  | exact dfa_collect.mono _ _ _ _ _ _ _ _ _ _ _
  | exact LeO.none _
  | refine LeO.ite ?_ ?_
  | refine LeO.bind ?_ (fun _ => ?_)
  )
theorem dfa_Words.mono : ∀ a0 a1 a2 a3 a4 k, LeO (dfa_Words.f k a0 a1 a2 a3 a4) (dfa_Words.f (k + 1) a0 a1 a2 a3 a4) := by
 intro a0 a1 a2 a3 a4 k
 obtain ⟨ih0, ih1, ih2, ih3, ih4, ih5⟩ := dfa_Words.mono_l k
 unfold dfa_Words.f
 repeat' first
  | (with_reducible exact ih0 _ _ _ _ _ _)
  | (with_reducible exact ih1 _ _ _ _ _ _ _ _)
  | (with_reducible exact ih2 _ _ _ _ _ _ _ _ _)
  | (with_reducible exact ih3 _ _ _ _ _ _ _ _)
  | (with_reducible exact ih4 _ _ _ _ _ _ _ _ _ _ _)
  | (with_reducible exact ih5 _ _ _ _ _ _ _ _ _ _ _ _ _ _ _)
  | (with_reducible exact dfa_Validate.mono _ _ _ _ _)
  | (with_reducible exact dfa_collect.mono _ _ _ _ _ _ _ _ _ _ _)
  | (with_reducible exact LeO.refl _)
  | (with_reducible exact LeO.none _)
  | (with_reducible refine LeO.ite ?_ ?_)
  | (with_reducible refine LeO.bind ?_ (fun _ => ?_))
  | exact ih0 _ _ _ _ _ _
  | exact ih1 _ _ _ _ _ _ _ _
  | exact ih2 _ _ _ _ _ _ _ _ _
  | exact ih3 _ _ _ _ _ _ _ _
  | exact ih4 _ _ _ _ _ _ _ _ _ _ _
  | exact ih5 _ _ _ _ _ _ _ _ _ _ _ _ _ _ _
  | exact dfa_Validate.mono _ _ _ _ _
  | exact dfa_collect.mono _ _ _ _ _ _ _ _ _ _ _
  | exact LeO.none _
  | refine LeO.ite ?_ ?_
  | refine LeO.bind ?_ (fun _ => ?_)
def dfa_Words.T20 : Bool × List (List Nat × List Nat) := (true, [([], []), ([], []), ([0, 1], [0, 1]), ([2], [2]), ([], []), ([4], [4]), ([3, 5], [3, 5]), ([6], [6])])
def dfa_Words.B20 : List Nat := [0, 0, 3, 7, 0, 16, 63, 127]
theorem dfa_Words.tab20 : rtab .any (opsOf Try.f18 20) = dfa_Words.T20 := by kernel_rfl
theorem dfa_Words.bits20 : waitsOk dfa_Words.T20.2 dfa_Words.B20 = true := by kernel_rfl
def dfa_Words.T21 : Bool × List (List Nat × List Nat) := (true, [([], []), ([], []), ([], []), ([], []), ([], []), ([4], [4]), ([], []), ([6], [6]), ([], []), ([0, 1, 2, 3, 5, 7, 8], [0, 1, 2, 3, 5, 7, 8]), ([9, 9, 0, 1, 2, 3, 4, 5, 6, 7, 8, 9], [3, 9])])
def dfa_Words.B21 : List Nat := [0, 0, 0, 0, 0, 16, 0, 64, 0, 511, 1023]
theorem dfa_Words.tab21 : rtab .any (opsOf Try.f18 21) = dfa_Words.T21 := by kernel_rfl
theorem dfa_Words.bits21 : waitsOk dfa_Words.T21.2 dfa_Words.B21 = true := by kernel_rfl
set_option maxHeartbeats 8000000 in
set_option maxRecDepth 100000 in
theorem dfa_Words.calls (k : Nat) (a0_0 : Int) (a0_1 : Int) (A0_2 : Option Addr) (c0_2 : Nat) (l0_2 : List Bool) (A0_3 : Option Addr) (c0_3 : Nat) (l0_3 : List (List Int)) (a1 : Int) (r : List ByteArray) (w : World) (hr0_2 : Kd.C Kd.bool w A0_2 l0_2.length l0_2) (hc0_2 : l0_2.length ≤ c0_2) (hr0_3 : Kd.C (Kd.slice 3 (Kd.int .i64)) w A0_3 l0_3.length l0_3) (hc0_3 : l0_3.length ≤ c0_3) (h : dfa_Words.f k a0_0 a0_1 l0_2 l0_3 a1 = some r) :
 Calls Try.prog 18 #[.agg #[.int .i64 a0_0, .int .i64 a0_1, .slice A0_2 l0_2.length c0_2, .slice A0_3 l0_3.length c0_3], .int .i64 a1] w fun e w' => ∃ v0_ : Value, e = .returned (v0_) ∧ Kd.R Kd.string 9 w' w.heap.size (fun _ => True) v0_ r ∧ Below w.heap.size w w' := by
 have hu25 := Try.underlying25
 have HR0_2 := Aside0.mk hr0_2
 have HC0_2 := Aside0.mk hc0_2
 clear hr0_2 hc0_2
 have HR0_3 := Aside0.mk hr0_3
 have HC0_3 := Aside0.mk hc0_3
 clear hr0_3 hc0_3
 have HB := aM (Below.refl w.heap.size w)
 have H : ((dfa_Validate.f k a0_0 a0_1 l0_2 l0_3).bind fun t120 => (if t120 = 0 then (if a1 < 0 then (dfa_Words.j0 k a1 true a0_0 a0_1 l0_2 l0_3) else (dfa_Words.j0 k a1 (decide (a1 > 200)) a0_0 a0_1 l0_2 l0_3)) else (dfa_Words.j0 k a1 true a0_0 a0_1 l0_2 l0_3))) = some r := h
 clear h
 have HC3 := Aside0.mk H
 clear H
 go_enter Try.func18, Try.ntmps18
 go_upto_region 1 with (first | ((with_reducible refine gate_dst (N := 2) rfl ?_); refine box_event ?hg (N := 2) ?hd (cs := #[.int .i64 a0_0, .int .i64 a0_1, .slice A0_2 l0_2.length c0_2, .slice A0_3 l0_3.length c0_3]) (t := 25) ?hr ?_; (case hd => rfl); (case hg => rfl); (case hr => first | (go_simp; done) | (go_simp; rfl)); intro gb119 hg w4 hbox hb; have n0_ := aM (below_step (by repeat (first | (with_reducible first | exact HB.out | apply bA | apply bN | apply bD) | exact HB.out)) hb); have n1_ := aM (hbox); have n2_ := aM ((by rw [hg]; exact (below_size (by repeat (first | (with_reducible first | exact HB.out | apply bA | apply bN | apply bD) | exact HB.out))) : w.heap.size ≤ gb119)); have n3_ := aM ((by rw [hg]; exact (below_size (by repeat (first | (with_reducible first | exact HB.out | apply bA | apply bN | apply bD) | exact HB.out))) : w.heap.size ≤ gb119)); clear HB; have HB := n0_; have BK119 := n1_; have GW119 := n2_; have GE119 := n3_; clear n0_ n1_ n2_ n3_; clear hb hbox hg))
 (try simp only [Act.put, sA, sB, sC])
 go_cut [22] (fun v22 wc => ∃ (kq : Nat) (x22_2 : Bool), v22 = .bool x22_2 ∧ Aside0 (dfa_Words.j0 kq a1 x22_2 a0_0 a0_1 l0_2 l0_3 = some r) ∧ Aside0 (kq ≤ k) ∧ Aside0 (wc.heap[gb119]? = some (.cells #[.int .i64 a0_0, .int .i64 a0_1, (.slice A0_2 l0_2.length c0_2), (.slice A0_3 l0_3.length c0_3)] 25 (0, 0))) ∧ Aside0 (Below w.heap.size w wc))
 case first =>
  have H := HC3.out
  clear HC3
  replace H := Option.bind_eq_some_iff.mp H
  obtain ⟨t120, A50, H⟩ := H
  replace H : (if t120 = 0 then (if a1 < 0 then (dfa_Words.j0 k a1 true a0_0 a0_1 l0_2 l0_3) else (dfa_Words.j0 k a1 (decide (a1 > 200)) a0_0 a0_1 l0_2 l0_3)) else (dfa_Words.j0 k a1 true a0_0 a0_1 l0_2 l0_3)) = some r := H
  have A5 := Aside0.mk A50
  clear A50
  by_cases c6 : t120 = 0
  (focus
  rw [if_pos c6] at H
  have c6b0 : (t120 == 0) = true := beq_iff_eq.mpr c6
  have c6b1 : (t120 != 0) = false := bne_eq_false_iff_eq.mpr c6
  clear c6
  (first | rw [c6b0] | (simp only [i64_w, i32_w]; rw [c6b0]) | skip)
  by_cases c7 : a1 < 0
  (focus
  rw [if_pos c7] at H
  have c7b0 : decide (a1 < 0) = true := decide_eq_true c7
  clear c7
  have H' := Aside0.mk H
  clear H
  have hcz8_0 : w4.cell? ⟨gb119, 0, none⟩ = some (.int .i64 a0_0) := (blk_cell BK119.out 0).trans rfl
  have hcz8_1 : w4.cell? ⟨gb119, 1, none⟩ = some (.int .i64 a0_1) := (blk_cell BK119.out 1).trans rfl
  have hcz8_2 : w4.cell? ⟨gb119, 2, none⟩ = some (.slice A0_2 l0_2.length c0_2) := (blk_cell BK119.out 2).trans rfl
  have hcz8_3 : w4.cell? ⟨gb119, 3, none⟩ = some (.slice A0_3 l0_3.length c0_3) := (blk_cell BK119.out 3).trans rfl
  have hfz8_0 := blk_frozen BK119.out 0
  have hfz8_1 := blk_frozen BK119.out 1
  have hfz8_2 := blk_frozen BK119.out 2
  have hfz8_3 := blk_frozen BK119.out 3
  go_wp2_with (first | ((with_reducible refine gate_callee (f := 14) rfl ?_); refine goesL_ (some 13) rfl rfl Try.func14 (by kernel_rfl) rfl #[.agg #[.int .i64 a0_0, .int .i64 a0_1, .slice A0_2 l0_2.length c0_2, .slice A0_3 l0_3.length c0_3]] rfl (by (try simp only [List.map_toArray, List.map_cons, List.map_nil]); first | done | rfl | (simp only [List.length_drop, List.length_take]; rfl)) ?_; (with_reducible refine (dfa_Validate.calls k a0_0 a0_1 _ _ l0_2 _ _ l0_3 t120 _ ?side1 ?side2 ?side3 ?side4 A5.out).mono ?_); (case side1 => repeat (first | exact (Kd.C_below HR0_2.out HB.out) | (with_reducible refine Kd.C_alloc ?_ _) | (with_reducible refine Kd.C_drewN ?_ _) | (with_reducible refine Kd.C_drew ?_))); (case side2 => exact HC0_2.out); (case side3 => repeat (first | exact (Kd.C_below HR0_3.out HB.out) | (with_reducible refine Kd.C_alloc ?_ _) | (with_reducible refine Kd.C_drewN ?_ _) | (with_reducible refine Kd.C_drew ?_))); (case side4 => exact HC0_3.out); rintro e w9 ⟨rfl, hb⟩; refine ⟨_, rfl, ?_⟩; have n0_ := aM (blk_below (uB BK119.out) hb); have n1_ := aM (below_step (by repeat (first | (with_reducible first | exact HB.out | apply bA | apply bN | apply bD | refine bS ?_ ‹_›) | exact HB.out)) hb); clear BK119; clear HB; have BK119 := n0_; have HB := n1_; clear n0_ n1_; (try clear hb); (try clear hb2); (try clear hk); (try clear hi)))
  go_meet
  case rel => exact ⟨_, (true), (by first | rfl | (simp; done) | (simp [*]; done)), H', ⟨by first | omega | exact Nat.le_refl _⟩, ⟨by (with_reducible repeat (first | refine kN ?_ | refine kD ?_ | refine kA ?_)); exact BK119.out⟩, ⟨by repeat (first | (with_reducible first | exact HB.out | apply bA | apply bN | apply bD | refine bS ?_ ‹_›) | exact HB.out)⟩⟩
  )
  (focus
  rw [if_neg c7] at H
  have c7b0 : decide (a1 < 0) = false := decide_eq_false c7
  clear c7
  have H' := Aside0.mk H
  clear H
  have hcz10_0 : w4.cell? ⟨gb119, 0, none⟩ = some (.int .i64 a0_0) := (blk_cell BK119.out 0).trans rfl
  have hcz10_1 : w4.cell? ⟨gb119, 1, none⟩ = some (.int .i64 a0_1) := (blk_cell BK119.out 1).trans rfl
  have hcz10_2 : w4.cell? ⟨gb119, 2, none⟩ = some (.slice A0_2 l0_2.length c0_2) := (blk_cell BK119.out 2).trans rfl
  have hcz10_3 : w4.cell? ⟨gb119, 3, none⟩ = some (.slice A0_3 l0_3.length c0_3) := (blk_cell BK119.out 3).trans rfl
  have hfz10_0 := blk_frozen BK119.out 0
  have hfz10_1 := blk_frozen BK119.out 1
  have hfz10_2 := blk_frozen BK119.out 2
  have hfz10_3 := blk_frozen BK119.out 3
  go_wp2_with (first | ((with_reducible refine gate_callee (f := 14) rfl ?_); refine goesL_ (some 13) rfl rfl Try.func14 (by kernel_rfl) rfl #[.agg #[.int .i64 a0_0, .int .i64 a0_1, .slice A0_2 l0_2.length c0_2, .slice A0_3 l0_3.length c0_3]] rfl (by (try simp only [List.map_toArray, List.map_cons, List.map_nil]); first | done | rfl | (simp only [List.length_drop, List.length_take]; rfl)) ?_; (with_reducible refine (dfa_Validate.calls k a0_0 a0_1 _ _ l0_2 _ _ l0_3 t120 _ ?side1 ?side2 ?side3 ?side4 A5.out).mono ?_); (case side1 => repeat (first | exact (Kd.C_below HR0_2.out HB.out) | (with_reducible refine Kd.C_alloc ?_ _) | (with_reducible refine Kd.C_drewN ?_ _) | (with_reducible refine Kd.C_drew ?_))); (case side2 => exact HC0_2.out); (case side3 => repeat (first | exact (Kd.C_below HR0_3.out HB.out) | (with_reducible refine Kd.C_alloc ?_ _) | (with_reducible refine Kd.C_drewN ?_ _) | (with_reducible refine Kd.C_drew ?_))); (case side4 => exact HC0_3.out); rintro e w11 ⟨rfl, hb⟩; refine ⟨_, rfl, ?_⟩; have n0_ := aM (blk_below (uB BK119.out) hb); have n1_ := aM (below_step (by repeat (first | (with_reducible first | exact HB.out | apply bA | apply bN | apply bD | refine bS ?_ ‹_›) | exact HB.out)) hb); clear BK119; clear HB; have BK119 := n0_; have HB := n1_; clear n0_ n1_; (try clear hb); (try clear hb2); (try clear hk); (try clear hi)))
  go_meet
  case rel => exact ⟨_, (decide (a1 > 200)), (by first | rfl | (simp; done) | (simp [*]; done)), H', ⟨by first | omega | exact Nat.le_refl _⟩, ⟨by (with_reducible repeat (first | refine kN ?_ | refine kD ?_ | refine kA ?_)); exact BK119.out⟩, ⟨by repeat (first | (with_reducible first | exact HB.out | apply bA | apply bN | apply bD | refine bS ?_ ‹_›) | exact HB.out)⟩⟩
  )
  )
  (focus
  rw [if_neg c6] at H
  have c6b0 : (t120 == 0) = false := beq_eq_false_iff_ne.mpr c6
  have c6b1 : (t120 != 0) = true := bne_iff_ne.mpr c6
  (first | rw [c6b0] | (simp only [i64_w, i32_w]; rw [c6b0]) | skip)
  have H' := Aside0.mk H
  clear H
  have hcz12_0 : w4.cell? ⟨gb119, 0, none⟩ = some (.int .i64 a0_0) := (blk_cell BK119.out 0).trans rfl
  have hcz12_1 : w4.cell? ⟨gb119, 1, none⟩ = some (.int .i64 a0_1) := (blk_cell BK119.out 1).trans rfl
  have hcz12_2 : w4.cell? ⟨gb119, 2, none⟩ = some (.slice A0_2 l0_2.length c0_2) := (blk_cell BK119.out 2).trans rfl
  have hcz12_3 : w4.cell? ⟨gb119, 3, none⟩ = some (.slice A0_3 l0_3.length c0_3) := (blk_cell BK119.out 3).trans rfl
  have hfz12_0 := blk_frozen BK119.out 0
  have hfz12_1 := blk_frozen BK119.out 1
  have hfz12_2 := blk_frozen BK119.out 2
  have hfz12_3 := blk_frozen BK119.out 3
  go_wp2_with (first | ((with_reducible refine gate_callee (f := 14) rfl ?_); refine goesL_ (some 13) rfl rfl Try.func14 (by kernel_rfl) rfl #[.agg #[.int .i64 a0_0, .int .i64 a0_1, .slice A0_2 l0_2.length c0_2, .slice A0_3 l0_3.length c0_3]] rfl (by (try simp only [List.map_toArray, List.map_cons, List.map_nil]); first | done | rfl | (simp only [List.length_drop, List.length_take]; rfl)) ?_; (with_reducible refine (dfa_Validate.calls k a0_0 a0_1 _ _ l0_2 _ _ l0_3 t120 _ ?side1 ?side2 ?side3 ?side4 A5.out).mono ?_); (case side1 => repeat (first | exact (Kd.C_below HR0_2.out HB.out) | (with_reducible refine Kd.C_alloc ?_ _) | (with_reducible refine Kd.C_drewN ?_ _) | (with_reducible refine Kd.C_drew ?_))); (case side2 => exact HC0_2.out); (case side3 => repeat (first | exact (Kd.C_below HR0_3.out HB.out) | (with_reducible refine Kd.C_alloc ?_ _) | (with_reducible refine Kd.C_drewN ?_ _) | (with_reducible refine Kd.C_drew ?_))); (case side4 => exact HC0_3.out); rintro e w13 ⟨rfl, hb⟩; refine ⟨_, rfl, ?_⟩; have n0_ := aM (blk_below (uB BK119.out) hb); have n1_ := aM (below_step (by repeat (first | (with_reducible first | exact HB.out | apply bA | apply bN | apply bD | refine bS ?_ ‹_›) | exact HB.out)) hb); clear BK119; clear HB; have BK119 := n0_; have HB := n1_; clear n0_ n1_; (try clear hb); (try clear hb2); (try clear hk); (try clear hi)))
  go_meet
  case rel => exact ⟨_, (true), (by first | rfl | (simp; done) | (simp [*]; done)), H', ⟨by first | omega | exact Nat.le_refl _⟩, ⟨by (with_reducible repeat (first | refine kN ?_ | refine kD ?_ | refine kA ?_)); exact BK119.out⟩, ⟨by repeat (first | (with_reducible first | exact HB.out | apply bA | apply bN | apply bD | refine bS ?_ ‹_›) | exact HB.out)⟩⟩
  )
 case rest =>
  clear HC3
  try clear c1
  try clear p2
  try clear c6
  try clear c6b0
  try clear c6b1
  try clear c7
  try clear c7b0
  try clear hcz10_0
  try clear hcz10_1
  try clear hcz10_2
  try clear hcz10_3
  try clear hcz12_0
  try clear hcz12_1
  try clear hcz12_2
  try clear hcz12_3
  try clear hcz8_0
  try clear hcz8_1
  try clear hcz8_2
  try clear hcz8_3
  try clear hfz10_0
  try clear hfz10_1
  try clear hfz10_2
  try clear hfz10_3
  try clear hfz12_0
  try clear hfz12_1
  try clear hfz12_2
  try clear hfz12_3
  try clear hfz8_0
  try clear hfz8_1
  try clear hfz8_2
  try clear hfz8_3
  obtain ⟨kq, x22_2, rfl, HA, HJ2, BK119, HB⟩ := hcut
  cases kq with
  | zero => exact absurd HA.out (by simp [dfa_Words.j0])
  | succ kj2 =>
   have H := HA.out
   clear HA
   simp only [dfa_Words.j0] at H
   by_cases c14 : x22_2 = true
   (focus
   subst c14
   have H1 : (some ([] : List ByteArray)) = some r := by rw [if_pos rfl] at H; exact H
   clear H
   have H := H1
   clear H1
   obtain rfl := Option.some.inj H
   go_wp2
   go_ret
   exact ⟨_, by first | rfl | (simp [errW_none, errW_some] <;> rfl) | (simp [*, errW_none, errW_some] <;> rfl), by first | exact Kd.R_nil _ _ _ _ _ | exact Kd.N_nil _ _ _ _ _ | exact Kd.V_nil _ _ _ _ _ | exact Kd.Q_nil _ _ _ _ _ | exact Kd.S_nil _ _ _ _ _, by repeat (first | (with_reducible first | exact HB.out | apply bA | apply bN | apply bD | refine bS ?_ ‹_›) | exact HB.out)⟩
   )
   (focus
   replace c14 := Bool.eq_false_iff.mpr c14
   subst c14
   have H1 : ((some (([] : List Bool) : List Bool)).bind fun y121 => (if y121.length + l0_2.length < 140737488355328 then (dfa_Words.l0 kj2 a1 ([] : List ByteArray) (([(y121 ++ l0_2)] : List (List Bool))) 0 a0_0 a0_1 l0_2 l0_3) else (none))) = some r := by rw [if_neg (show ¬ (false = true) by decide)] at H; exact H
   clear H
   have H := H1
   clear H1
   obtain ⟨y121, hy121⟩ : ∃ y_ : List Bool, y_ = (([] : List Bool)) := ⟨_, rfl⟩
   replace H : (if y121.length + l0_2.length < 140737488355328 then (dfa_Words.l0 kj2 a1 ([] : List ByteArray) (([(y121 ++ l0_2)] : List (List Bool))) 0 a0_0 a0_1 l0_2 l0_3) else (none)) = some r := by first | (rw [hy121]; with_reducible exact H) | (have H2_ := (Option.bind_some _ _).symm.trans H; rw [hy121]; with_reducible exact H2_) | (have H2_ := (Option.bind_some _ _).symm.trans H; with_reducible exact H2_) | with_reducible exact H | (rw [hy121]; exact H) | exact H
   have Ny121 := Aside0.mk hy121
   clear hy121
   by_cases c15 : y121.length + l0_2.length < 140737488355328
   (focus
   rw [if_pos c15] at H
   have LMc15 := Aside0.mk c15
   clear c15
   obtain ⟨y124, hy124⟩ : ∃ y_ : List Bool, y_ = (y121 ++ l0_2) := ⟨_, rfl⟩
   replace H : (dfa_Words.l0 kj2 a1 ([] : List ByteArray) (([y124] : List (List Bool))) 0 a0_0 a0_1 l0_2 l0_3) = some r := by first | (rw [hy124]; with_reducible exact H) | (have H2_ := (Option.bind_some _ _).symm.trans H; rw [hy124]; with_reducible exact H2_) | (have H2_ := (Option.bind_some _ _).symm.trans H; with_reducible exact H2_) | with_reducible exact H | (rw [hy124]; exact H) | exact H
   have Ny124 := Aside0.mk hy124
   clear hy124
   obtain ⟨y127, hy127⟩ : ∃ y_ : List (List Bool), y_ = (([y124] : List (List Bool))) := ⟨_, rfl⟩
   replace H : (dfa_Words.l0 kj2 a1 ([] : List ByteArray) y127 0 a0_0 a0_1 l0_2 l0_3) = some r := by first | (rw [hy127]; with_reducible exact H) | (have H2_ := (Option.bind_some _ _).symm.trans H; rw [hy127]; with_reducible exact H2_) | (have H2_ := (Option.bind_some _ _).symm.trans H; with_reducible exact H2_) | with_reducible exact H | (rw [hy127]; exact H) | exact H
   have Ny127 := Aside0.mk hy127
   clear hy127
   have H' := Aside0.mk H
   clear H
   go_wp2_with (first | ((with_reducible refine gate_dst (N := 23) rfl ?_); refine Kd.R_lit Kd.bool _ 4 ?hg (N := 23) ?hd (xs := ([] : List Bool)) (inner := []) (ok := fun _ => True) (okp := fun _ => True) ?hr ?hp (fun _ hk => hk) trivial (Below.refl _ _) (Nat.le_refl _) (by simp) ?_; (case hd => rfl); (case hg => rfl); (case hr => first | (go_simp; done) | (go_simp; rfl)); (case hp => exact (Reps.none _ _)); intro v122 w16 ho17 hb hg_ hnew_; clear hg_ hnew_; (first | rw [← Ny121.out] at ho17 | (simp only [Int.reduceToNat] at ho17; rw [← Ny121.out] at ho17)); have n0_ := aM (Kd.R_lower ho17 (below_size (by repeat (first | (with_reducible first | exact HB.out | apply bA | apply bN | apply bD | refine bS ?_ ‹_›) | exact HB.out)))); have n1_ := aM (blk_below (uB BK119.out) hb); have n2_ := aM (below_step (by repeat (first | (with_reducible first | exact HB.out | apply bA | apply bN | apply bD | refine bS ?_ ‹_›) | exact HB.out)) hb); clear BK119; clear HB; have HO123 := n0_; have BK119 := n1_; have HB := n2_; clear n0_ n1_ n2_; clear hb ho17; have hcz18_0 : w16.cell? ⟨gb119, 0, none⟩ = some (.int .i64 a0_0) := (blk_cell BK119.out 0).trans rfl; have hcz18_1 : w16.cell? ⟨gb119, 1, none⟩ = some (.int .i64 a0_1) := (blk_cell BK119.out 1).trans rfl; have hcz18_2 : w16.cell? ⟨gb119, 2, none⟩ = some (.slice A0_2 l0_2.length c0_2) := (blk_cell BK119.out 2).trans rfl; have hcz18_3 : w16.cell? ⟨gb119, 3, none⟩ = some (.slice A0_3 l0_3.length c0_3) := (blk_cell BK119.out 3).trans rfl; have hfz18_0 := blk_frozen BK119.out 0; have hfz18_1 := blk_frozen BK119.out 1; have hfz18_2 := blk_frozen BK119.out 2; have hfz18_3 := blk_frozen BK119.out 3) | ((with_reducible refine gate_builtin (b := .append) (xs := #[.tmp 23, .tmp 25]) rfl ?_); at_builtin; refine Kd.R_append_rows Kd.bool (w0 := w) w.heap.size rfl (.tmp 23) (.tmp 25) 22 4 (.bool false) 1 rfl Try.underlying22 info4 rfl (by decide) (by omega) v122 y121 l0_2 _ _ _ (fun _ => True) (fun _ => False) rfl rfl ?aO ?aR (fun _ _ h => h) (fun _ h => h.elim) ?aF ?aB ?aS ?aL ?_; (case aR => repeat (first | exact (Kd.C_below HR0_2.out HB.out) | (with_reducible refine Kd.C_alloc ?_ _) | (with_reducible refine Kd.C_drewN ?_ _) | (with_reducible refine Kd.C_drew ?_))); (case aB => exact (by repeat (first | (with_reducible first | exact HB.out | apply bA | apply bN | apply bD | refine bS ?_ ‹_›) | exact HB.out))); (case aF => exact (fun _ _ => trivial)); (case aO => exact (uR HO123.out)); (case aS => exact (below_size (by repeat (first | (with_reducible first | exact HB.out | apply bA | apply bN | apply bD | refine bS ?_ ‹_›) | exact HB.out)))); (case aL => have := LMc15.out; omega); intro v125 w19 ho hb hg hat; rw [← Ny124.out] at ho; have n0_ := aM (blk_grown (uB BK119.out) hg (Kd.R_ne HO123.out BK119.out (by decide))); have n1_ := aM (hb); have n2_ := aM (ho); clear BK119; clear HB; clear HO123; have BK119 := n0_; have HB := n1_; have HO126 := n2_; clear n0_ n1_ n2_; clear ho hb hg hat; obtain ⟨Ao20, co20, eo20⟩ := Kd.R_slice HO126.out; subst eo20) | ((with_reducible refine gate_dst (N := 27) rfl ?_); refine Kd.N_lit (Kd.slice 4 Kd.bool) _ 22 ?hg (N' := 27) ?hd (xs := ([y124] : List (List Bool))) (inner := [.slice Ao20 y124.length co20]) (ok := (fun k_ => k_ ≠ gb119)) (okp := (fun k_ => k_ ≠ gb119)) ?hr ?hp (fun _ hk => hk) ((show ∀ k_, w19.heap.size ≤ k_ → (fun k_ => k_ ≠ gb119) k_ from fun k_ hk => Kd.freshB (uB BK119.out) k_ hk) _ (Nat.le_refl _)) (Below.refl _ _) (Nat.le_refl _) (by simp) ?_; (case hd => rfl); (case hg => rfl); (case hr => first | (go_simp; done) | (go_simp; rfl)); (case hp => exact (Reps.one (show Kd.FK (Kd.slice 4 Kd.bool) _ _ y124 [.slice Ao20 y124.length co20] from (FK_of_R (Kd.R_mono (ok' := (fun k_ => k_ ≠ gb119)) (Kd.R_types (HO126.out) BK119.out (by decide)) (fun k_ hk => hk.2)))) (Reps.none _ _))); intro v128 w21 ho22 hb hg_ hnew_; clear hg_ hnew_; (first | rw [← Ny127.out] at ho22 | (simp only [Int.reduceToNat] at ho22; rw [← Ny127.out] at ho22)); have n0_ := aM (Kd.N_lower ho22 (below_size (by repeat (first | (with_reducible first | exact HB.out | apply bA | apply bN | apply bD | refine bS ?_ ‹_›) | exact HB.out)))); have n1_ := aM (blk_below (uB BK119.out) hb); have n2_ := aM (below_step (by repeat (first | (with_reducible first | exact HB.out | apply bA | apply bN | apply bD | refine bS ?_ ‹_›) | exact HB.out)) hb); clear BK119; clear HB; clear HO126; have HO129 := n0_; have BK119 := n1_; have HB := n2_; clear n0_ n1_ n2_; clear hb ho22))
   go_loopg [5, 6, 7] kj2 (fun kq v5 v6 v7 w' => ∃ (x5_2 : List ByteArray) (x6_2 : List (List Bool)) (x7_2 : Int), v7 = .int .i64 x7_2 ∧ Aside0 (dfa_Words.l0 kq a1 x5_2 x6_2 x7_2 a0_0 a0_1 l0_2 l0_3 = some r) ∧ Aside0 (kq ≤ kj2) ∧ Aside0 (Kd.R Kd.string 9 w' w.heap.size (fun _ => True) v5 x5_2) ∧ Aside0 (Kd.N (Kd.slice 4 Kd.bool) 22 w' w.heap.size (fun k_ => some k_ ≠ (v5 : Value).ownBlock ∧ k_ ≠ gb119) v6 x6_2) ∧ Aside0 (w'.heap[gb119]? = some (.cells #[.int .i64 a0_0, .int .i64 a0_1, (.slice A0_2 l0_2.length c0_2), (.slice A0_3 l0_3.length c0_3)] 25 (0, 0))) ∧ Aside0 (Below w.heap.size w w'))
   case atStart => exact ⟨(([] : List ByteArray)), (y127), (0), (by first | rfl | (simp; done) | (simp [*]; done)), H', ⟨Nat.le_refl _⟩, ⟨by first | exact Kd.R_nil _ _ _ _ _ | exact Kd.N_nil _ _ _ _ _ | exact Kd.V_nil _ _ _ _ _ | exact Kd.Q_nil _ _ _ _ _ | exact Kd.S_nil _ _ _ _ _⟩, ⟨by (with_reducible repeat (first | apply Kd.N_alloc | apply Kd.N_drewN | apply Kd.N_drew)); exact Kd.N_mono HO129.out (fun _ hk => ⟨(by simp [Value.ownBlock]), hk⟩)⟩, ⟨by (with_reducible repeat (first | refine kN ?_ | refine kD ?_ | refine kA ?_)); exact BK119.out⟩, ⟨by repeat (first | (with_reducible first | exact HB.out | apply bA | apply bN | apply bD | refine bS ?_ ‹_›) | exact HB.out)⟩⟩
   case round =>
    clear H'
    try clear c1
    try clear p2
    try clear c6
    try clear c6b0
    try clear c6b1
    try clear c7
    try clear c7b0
    try clear c14
    try clear c15
    try clear c18
    try clear hcz10_0
    try clear hcz10_1
    try clear hcz10_2
    try clear hcz10_3
    try clear hcz12_0
    try clear hcz12_1
    try clear hcz12_2
    try clear hcz12_3
    try clear hcz18_0
    try clear hcz18_1
    try clear hcz18_2
    try clear hcz18_3
    try clear hcz8_0
    try clear hcz8_1
    try clear hcz8_2
    try clear hcz8_3
    try clear hfz10_0
    try clear hfz10_1
    try clear hfz10_2
    try clear hfz10_3
    try clear hfz12_0
    try clear hfz12_1
    try clear hfz12_2
    try clear hfz12_3
    try clear hfz18_0
    try clear hfz18_1
    try clear hfz18_2
    try clear hfz18_3
    try clear hfz8_0
    try clear hfz8_1
    try clear hfz8_2
    try clear hfz8_3
    try clear p2
    obtain ⟨x5_2, x6_2, x7_2, rfl, HA, HK2, HO_5, HO_6, BK119, HB⟩ := hrel
    cases gk with
    | zero => exact absurd HA.out (by simp [dfa_Words.l0])
    | succ k2 =>
     have H := HA.out
     clear HA
     simp only [dfa_Words.l0] at H
     have HC23 := Aside0.mk H
     clear H
     go_upto_region 6 with (fail)
     go_cut [35] (fun v35 wc => ∃ (kq : Nat) (x35_22 : Bool), v35 = .bool x35_22 ∧ Aside0 (dfa_Words.j2 kq a1 x5_2 x6_2 x7_2 x35_22 a0_0 a0_1 l0_2 l0_3 = some r) ∧ Aside0 (kq ≤ k2) ∧ Aside0 (Kd.R Kd.string 9 wc w.heap.size (fun _ => True) u5 x5_2) ∧ Aside0 (Kd.N (Kd.slice 4 Kd.bool) 22 wc w.heap.size (fun k_ => some k_ ≠ (u5 : Value).ownBlock ∧ k_ ≠ gb119) u6 x6_2) ∧ Aside0 (wc.heap[gb119]? = some (.cells #[.int .i64 a0_0, .int .i64 a0_1, (.slice A0_2 l0_2.length c0_2), (.slice A0_3 l0_3.length c0_3)] 25 (0, 0))) ∧ Aside0 (Below w.heap.size w wc))
     case first =>
      have H := HC23.out
      clear HC23
      by_cases c24 : (x5_2.length : Int) < a1
      (focus
      rw [if_pos c24] at H
      have c24b0 : decide ((x5_2.length : Int) < a1) = true := decide_eq_true c24
      clear c24
      (first | rw [c24b0] | (simp only [i64_w, i32_w]; rw [c24b0]) | skip)
      have H' := Aside0.mk H
      clear H
      obtain ⟨Ao25, co25, eo25⟩ := Kd.R_slice HO_5.out
      subst eo25
      go_wp2
      go_meet
      case rel => exact ⟨_, (decide (x7_2 ≤ 2048)), (by first | rfl | (simp; done) | (simp [*]; done)), H', ⟨by have := HJ2.out; have := HK2.out; first | omega | exact Nat.le_refl _⟩, ⟨by (with_reducible repeat (first | apply Kd.R_alloc | apply Kd.R_drewN | apply Kd.R_drew)); exact HO_5.out⟩, ⟨by (with_reducible repeat (first | apply Kd.N_alloc | apply Kd.N_drewN | apply Kd.N_drew)); exact HO_6.out⟩, ⟨by (with_reducible repeat (first | refine kN ?_ | refine kD ?_ | refine kA ?_)); exact BK119.out⟩, ⟨by repeat (first | (with_reducible first | exact HB.out | apply bA | apply bN | apply bD | refine bS ?_ ‹_›) | exact HB.out)⟩⟩
      )
      (focus
      rw [if_neg c24] at H
      have c24b0 : decide ((x5_2.length : Int) < a1) = false := decide_eq_false c24
      clear c24
      (first | rw [c24b0] | (simp only [i64_w, i32_w]; rw [c24b0]) | skip)
      have H' := Aside0.mk H
      clear H
      obtain ⟨Ao26, co26, eo26⟩ := Kd.R_slice HO_5.out
      subst eo26
      go_wp2
      go_meet
      case rel => exact ⟨_, (false), (by first | rfl | (simp; done) | (simp [*]; done)), H', ⟨by have := HJ2.out; have := HK2.out; first | omega | exact Nat.le_refl _⟩, ⟨by (with_reducible repeat (first | apply Kd.R_alloc | apply Kd.R_drewN | apply Kd.R_drew)); exact HO_5.out⟩, ⟨by (with_reducible repeat (first | apply Kd.N_alloc | apply Kd.N_drewN | apply Kd.N_drew)); exact HO_6.out⟩, ⟨by (with_reducible repeat (first | refine kN ?_ | refine kD ?_ | refine kA ?_)); exact BK119.out⟩, ⟨by repeat (first | (with_reducible first | exact HB.out | apply bA | apply bN | apply bD | refine bS ?_ ‹_›) | exact HB.out)⟩⟩
      )
     case rest =>
      clear HC23
      try clear c1
      try clear c2
      try clear p2
      try clear c6
      try clear c6b0
      try clear c6b1
      try clear c7
      try clear c7b0
      try clear c14
      try clear c15
      try clear c18
      try clear c24
      try clear c24b0
      try clear hcz10_0
      try clear hcz10_1
      try clear hcz10_2
      try clear hcz10_3
      try clear hcz12_0
      try clear hcz12_1
      try clear hcz12_2
      try clear hcz12_3
      try clear hcz18_0
      try clear hcz18_1
      try clear hcz18_2
      try clear hcz18_3
      try clear hcz8_0
      try clear hcz8_1
      try clear hcz8_2
      try clear hcz8_3
      try clear hfz10_0
      try clear hfz10_1
      try clear hfz10_2
      try clear hfz10_3
      try clear hfz12_0
      try clear hfz12_1
      try clear hfz12_2
      try clear hfz12_3
      try clear hfz18_0
      try clear hfz18_1
      try clear hfz18_2
      try clear hfz18_3
      try clear hfz8_0
      try clear hfz8_1
      try clear hfz8_2
      try clear hfz8_3
      try clear p2
      obtain ⟨kq, x35_22, rfl, HA, HJ22, HO_5, HO_6, BK119, HB⟩ := hcut
      cases kq with
      | zero => exact absurd HA.out (by simp [dfa_Words.j2])
      | succ kj22 =>
       have H := HA.out
       clear HA
       simp only [dfa_Words.j2] at H
       by_cases c27 : x35_22 = true
       (focus
       subst c27
       have H1 : (if x7_2 > 0 then (if 0 ≤ (l0_2.length : Int) then (if ((l0_2.length : Int) : Int).toNat ≤ 281474976710656 then ((some (List.replicate ((l0_2.length : Int) : Int).toNat false : List Bool)).bind fun y130 => (dfa_Words.l1 kj22 a1 x5_2 x6_2 x7_2 y130 (y130.length : Int) 0 a0_0 a0_1 l0_2 l0_3)) else (none)) else (none)) else (dfa_Words.j5 kj22 a1 x5_2 x6_2 x7_2 a0_0 a0_1 l0_2 l0_3)) = some r := by rw [if_pos rfl] at H; exact H
       clear H
       have H := H1
       clear H1
       have HC28 := Aside0.mk H
       clear H
       go_upto_if 39 with (fail)
       go_cut [6] (fun v6 wc => ∃ (kq : Nat) (x6_27 : List (List Bool)), Aside0 (dfa_Words.j5 kq a1 x5_2 x6_27 x7_2 a0_0 a0_1 l0_2 l0_3 = some r) ∧ Aside0 (kq ≤ kj22) ∧ Aside0 (Kd.R Kd.string 9 wc w.heap.size (fun _ => True) u5 x5_2) ∧ Aside0 (Kd.N (Kd.slice 4 Kd.bool) 22 wc w.heap.size (fun k_ => some k_ ≠ (u5 : Value).ownBlock ∧ k_ ≠ gb119) v6 x6_27) ∧ Aside0 (wc.heap[gb119]? = some (.cells #[.int .i64 a0_0, .int .i64 a0_1, (.slice A0_2 l0_2.length c0_2), (.slice A0_3 l0_3.length c0_3)] 25 (0, 0))) ∧ Aside0 (Below w.heap.size w wc))
       case first =>
        have H := HC28.out
        clear HC28
        by_cases c29 : x7_2 > 0
        (focus
        rw [if_pos c29] at H
        have c29b0 : decide (0 < x7_2) = true := decide_eq_true c29
        clear c29
        (first | rw [c29b0] | (simp only [i64_w, i32_w]; rw [c29b0]) | skip)
        by_cases c30 : 0 ≤ (l0_2.length : Int)
        (focus
        rw [if_pos c30] at H
        have c30b0 := eq_true c30
        have c30b1 : decide (0 ≤ (l0_2.length : Int)) = true := decide_eq_true c30
        clear c30
        by_cases c31 : ((l0_2.length : Int) : Int).toNat ≤ 281474976710656
        (focus
        rw [if_pos c31] at H
        have c31b0 := eq_true c31
        have c31b1 : decide (((l0_2.length : Int) : Int).toNat ≤ 281474976710656) = true := decide_eq_true c31
        clear c31
        obtain ⟨y130, hy130⟩ : ∃ y_ : List Bool, y_ = (List.replicate ((l0_2.length : Int) : Int).toNat false) := ⟨_, rfl⟩
        replace H : (dfa_Words.l1 kj22 a1 x5_2 x6_2 x7_2 y130 (y130.length : Int) 0 a0_0 a0_1 l0_2 l0_3) = some r := by first | (rw [hy130]; with_reducible exact H) | (have H2_ := (Option.bind_some _ _).symm.trans H; rw [hy130]; with_reducible exact H2_) | (have H2_ := (Option.bind_some _ _).symm.trans H; with_reducible exact H2_) | with_reducible exact H | (rw [hy130]; exact H) | exact H
        have Ny130 := Aside0.mk hy130
        clear hy130
        have H' := Aside0.mk H
        clear H
        have hcz32_0 : wc.cell? ⟨gb119, 0, none⟩ = some (.int .i64 a0_0) := (blk_cell BK119.out 0).trans rfl
        have hcz32_1 : wc.cell? ⟨gb119, 1, none⟩ = some (.int .i64 a0_1) := (blk_cell BK119.out 1).trans rfl
        have hcz32_2 : wc.cell? ⟨gb119, 2, none⟩ = some (.slice A0_2 l0_2.length c0_2) := (blk_cell BK119.out 2).trans rfl
        have hcz32_3 : wc.cell? ⟨gb119, 3, none⟩ = some (.slice A0_3 l0_3.length c0_3) := (blk_cell BK119.out 3).trans rfl
        have hfz32_0 := blk_frozen BK119.out 0
        have hfz32_1 := blk_frozen BK119.out 1
        have hfz32_2 := blk_frozen BK119.out 2
        have hfz32_3 := blk_frozen BK119.out 3
        go_wp2_with (first | ((with_reducible refine gate_dst (N := 43) rfl ?_); refine Kd.R_make Kd.bool _ 4 rfl (N := 43) rfl 22 _ _ rfl (l0_2.length : Int) rfl rfl Try.underlying22 (.bool false) 1 info4 rfl (by decide) (by omega) false (ok := fun _ => True) (okp := fun _ => True) rfl (fun _ hk => hk) trivial (of_decide_eq_true (by assumption)) (Nat.le_trans (Nat.mul_le_mul_right _ (of_decide_eq_true (by assumption) : (l0_2.length : Int).toNat ≤ 281474976710656)) (by omega)) (Below.refl _ _) (Nat.le_refl _) ?_; intro v131 w33 ho34 hb hg_ hnew_; clear hg_ hnew_; (first | rw [← Ny130.out] at ho34 | (simp only [Int.reduceToNat] at ho34; rw [← Ny130.out] at ho34)); have n0_ := aM (Kd.R_below (uR HO_5.out) hb); have n1_ := aM (Kd.N_elder' (by (with_reducible repeat (first | apply Kd.N_alloc | apply Kd.N_drewN | apply Kd.N_drew)); exact HO_6.out) (Kd.R_base ho34) hb); have n2_ := aM (Kd.R_lower ho34 (below_size (by repeat (first | (with_reducible first | exact HB.out | apply bA | apply bN | apply bD | refine bS ?_ ‹_›) | exact HB.out)))); have n3_ := aM (blk_below (uB BK119.out) hb); have n4_ := aM (below_step (by repeat (first | (with_reducible first | exact HB.out | apply bA | apply bN | apply bD | refine bS ?_ ‹_›) | exact HB.out)) hb); clear HO_5; clear HO_6; clear BK119; clear HB; have HO_5 := n0_; have HO_6 := n1_; have HO132 := n2_; have BK119 := n3_; have HB := n4_; clear n0_ n1_ n2_ n3_ n4_; clear hb ho34; obtain ⟨Ao35, co35, eo35⟩ := Kd.R_slice HO132.out; subst eo35))
        go_loopg [46] kj22 (fun kq v46 w' => ∃ (x8_4 : List Bool) (x46_4 : Int), v46 = .int .i64 x46_4 ∧ Aside0 (dfa_Words.l1 kq a1 x5_2 x6_2 x7_2 x8_4 (y130.length : Int) x46_4 a0_0 a0_1 l0_2 l0_3 = some r) ∧ Aside0 (kq ≤ kj22) ∧ Aside0 (Kd.R Kd.string 9 w' w.heap.size (fun _ => True) u5 x5_2) ∧ Aside0 (Kd.N (Kd.slice 4 Kd.bool) 22 w' w.heap.size (fun k_ => some k_ ≠ (u5 : Value).ownBlock ∧ some k_ ≠ ((.slice Ao35 y130.length co35) : Value).ownBlock ∧ k_ ≠ gb119) u6 x6_2) ∧ Aside0 (Kd.R Kd.bool 4 w' w.heap.size (fun _ => True) (.slice Ao35 y130.length co35) x8_4) ∧ Aside0 (w'.heap[gb119]? = some (.cells #[.int .i64 a0_0, .int .i64 a0_1, (.slice A0_2 l0_2.length c0_2), (.slice A0_3 l0_3.length c0_3)] 25 (0, 0))) ∧ Aside0 (Below w.heap.size w w'))
        case atStart => exact ⟨(y130), (0), (by first | rfl | (simp; done) | (simp [*]; done)), H', ⟨Nat.le_refl _⟩, ⟨by (with_reducible repeat (first | apply Kd.R_alloc | apply Kd.R_drewN | apply Kd.R_drew)); exact HO_5.out⟩, ⟨by (with_reducible repeat (first | apply Kd.N_alloc | apply Kd.N_drewN | apply Kd.N_drew)); exact Kd.N_mono HO_6.out (fun _ hk => ⟨hk.1.1, ⟨hk.2, hk.1.2⟩⟩)⟩, ⟨by (with_reducible repeat (first | apply Kd.R_alloc | apply Kd.R_drewN | apply Kd.R_drew)); exact HO132.out⟩, ⟨by (with_reducible repeat (first | refine kN ?_ | refine kD ?_ | refine kA ?_)); exact BK119.out⟩, ⟨by repeat (first | (with_reducible first | exact HB.out | apply bA | apply bN | apply bD | refine bS ?_ ‹_›) | exact HB.out)⟩⟩
        case round =>
         clear H'
         try clear c1
         try clear c2
         try clear p2
         try clear c3
         try clear c6
         try clear c6b0
         try clear c6b1
         try clear c7
         try clear c7b0
         try clear c14
         try clear c15
         try clear c18
         try clear c24
         try clear c24b0
         try clear c27
         try clear c29
         try clear c29b0
         try clear c30
         try clear c30b0
         try clear c30b1
         try clear c31
         try clear c31b0
         try clear c31b1
         try clear hcz10_0
         try clear hcz10_1
         try clear hcz10_2
         try clear hcz10_3
         try clear hcz12_0
         try clear hcz12_1
         try clear hcz12_2
         try clear hcz12_3
         try clear hcz18_0
         try clear hcz18_1
         try clear hcz18_2
         try clear hcz18_3
         try clear hcz32_0
         try clear hcz32_1
         try clear hcz32_2
         try clear hcz32_3
         try clear hcz8_0
         try clear hcz8_1
         try clear hcz8_2
         try clear hcz8_3
         try clear hfz10_0
         try clear hfz10_1
         try clear hfz10_2
         try clear hfz10_3
         try clear hfz12_0
         try clear hfz12_1
         try clear hfz12_2
         try clear hfz12_3
         try clear hfz18_0
         try clear hfz18_1
         try clear hfz18_2
         try clear hfz18_3
         try clear hfz32_0
         try clear hfz32_1
         try clear hfz32_2
         try clear hfz32_3
         try clear hfz8_0
         try clear hfz8_1
         try clear hfz8_2
         try clear hfz8_3
         try clear p2
         obtain ⟨x8_4, x46_4, rfl, HA, HK4, HO_5, HO_6, HO_8, BK119, HB⟩ := hrel
         have hl8_4 := (Kd.R_reads' HO_8.out).1
         rw [hl8_4] at HO_8
         (try simp only [hl8_4])
         (try simp only [hl8_4] at BK119)
         (try simp only [hl8_4] at HO_5)
         (try simp only [hl8_4] at HO_6)
         cases gk with
         | zero => exact absurd HA.out (by simp [dfa_Words.l1])
         | succ k4 =>
          have H := HA.out
          clear HA
          simp only [dfa_Words.l1] at H
          by_cases c36 : x46_4 < (y130.length : Int)
          (focus
          rw [if_pos c36] at H
          have c36b0 : decide (x46_4 < (y130.length : Int)) = true := decide_eq_true c36
          (try (have c36b0_hl8_4 := c36b0; simp only [hl8_4] at c36b0_hl8_4))
          clear c36
          by_cases c37 : 0 ≤ x46_4
          (focus
          rw [if_pos c37] at H
          have c37b0 : decide (0 ≤ x46_4) = true := decide_eq_true c37
          clear c37
          by_cases c38 : x46_4 < (l0_3.length : Int)
          (focus
          rw [if_pos c38] at H
          have c38b0 : decide (x46_4 < (l0_3.length : Int)) = true := decide_eq_true c38
          (try (have c38b0_hl8_4 := c38b0; simp only [hl8_4] at c38b0_hl8_4))
          clear c38
          have H' := Aside0.mk H
          clear H
          have hcz39_0 : wr.cell? ⟨gb119, 0, none⟩ = some (.int .i64 a0_0) := (blk_cell BK119.out 0).trans rfl
          have hcz39_1 : wr.cell? ⟨gb119, 1, none⟩ = some (.int .i64 a0_1) := (blk_cell BK119.out 1).trans rfl
          have hcz39_2 : wr.cell? ⟨gb119, 2, none⟩ = some (.slice A0_2 l0_2.length c0_2) := (blk_cell BK119.out 2).trans rfl
          have hcz39_3 : wr.cell? ⟨gb119, 3, none⟩ = some (.slice A0_3 l0_3.length c0_3) := (blk_cell BK119.out 3).trans rfl
          have hfz39_0 := blk_frozen BK119.out 0
          have hfz39_1 := blk_frozen BK119.out 1
          have hfz39_2 := blk_frozen BK119.out 2
          have hfz39_3 := blk_frozen BK119.out 3
          have p136 : 0 ≤ (x46_4 : Int) := of_decide_eq_true (by assumption)
          have q136 : x46_4 < (l0_3.length : Int) := of_decide_eq_true (by assumption)
          obtain ⟨ad136, A136_0, c136_0, e136, hx136_0, hl136_0, hi136_0⟩ := at_L1 HR0_3.out x46_4 p136 q136
          cases e136
          (try replace hx136_0 := (HB.out.cell (World.block_lt_of_cell? w _ hx136_0)).trans hx136_0)
          have HR136_0 := Aside0.mk hi136_0
          have HC136_0 := Aside0.mk hl136_0
          clear hi136_0 hl136_0
          replace p136 := eq_true p136
          replace q136 := eq_true q136
          go_wp2
          go_loopg [55] k4 (fun kq v55 w' => ∃ (x8_5 : List Bool) (x55_5 : Int), v55 = .int .i64 x55_5 ∧ Aside0 (dfa_Words.l2 kq a1 x5_2 x6_2 x7_2 x8_5 x46_4 (y130.length : Int) x46_4 (rd_L1 l0_3 x46_4) ((rd_L1 l0_3 x46_4).length : Int) x55_5 a0_0 a0_1 l0_2 l0_3 = some r) ∧ Aside0 (kq ≤ k4) ∧ Aside0 (Kd.R Kd.string 9 w' w.heap.size (fun _ => True) u5 x5_2) ∧ Aside0 (Kd.N (Kd.slice 4 Kd.bool) 22 w' w.heap.size (fun k_ => some k_ ≠ (u5 : Value).ownBlock ∧ some k_ ≠ ((.slice Ao35 x8_4.length co35) : Value).ownBlock ∧ k_ ≠ gb119) u6 x6_2) ∧ Aside0 (Kd.R Kd.bool 4 w' w.heap.size (fun _ => True) (.slice Ao35 x8_4.length co35) x8_5) ∧ Aside0 (w'.heap[gb119]? = some (.cells #[.int .i64 a0_0, .int .i64 a0_1, (.slice A0_2 l0_2.length c0_2), (.slice (some ad136) l0_3.length c0_3)] 25 (0, 0))) ∧ Aside0 (Below w.heap.size w w'))
          case atStart => exact ⟨(x8_4), (0), (by first | rfl | (simp; done) | (simp [*]; done)), H', ⟨Nat.le_refl _⟩, ⟨by (try simp only [hl8_4]); (with_reducible repeat (first | apply Kd.R_alloc | apply Kd.R_drewN | apply Kd.R_drew)); exact HO_5.out⟩, ⟨by (try simp only [hl8_4]); (with_reducible repeat (first | apply Kd.N_alloc | apply Kd.N_drewN | apply Kd.N_drew)); exact HO_6.out⟩, ⟨by (try simp only [hl8_4]); (with_reducible repeat (first | apply Kd.R_alloc | apply Kd.R_drewN | apply Kd.R_drew)); exact HO_8.out⟩, ⟨by (try simp only [hl8_4]); (with_reducible repeat (first | refine kN ?_ | refine kD ?_ | refine kA ?_)); exact BK119.out⟩, ⟨by repeat (first | (with_reducible first | exact HB.out | apply bA | apply bN | apply bD | refine bS ?_ ‹_›) | exact HB.out)⟩⟩
          case round =>
           clear H'
           try clear c1
           try clear p1
           try clear q1
           try clear hx1
           try clear c2
           try clear p2
           try clear c3
           try clear c6
           try clear c6b0
           try clear c6b1
           try clear c7
           try clear c7b0
           try clear c13
           try clear p13
           try clear q13
           try clear hx13
           try clear c14
           try clear c15
           try clear c18
           try clear c24
           try clear c24b0
           try clear c27
           try clear c29
           try clear c29b0
           try clear c30
           try clear c30b0
           try clear c30b1
           try clear c31
           try clear c31b0
           try clear c31b1
           try clear c36
           try clear c36b0
           try clear c37
           try clear c37b0
           try clear c38
           try clear c38b0
           try clear hcz10_0
           try clear hcz10_1
           try clear hcz10_2
           try clear hcz10_3
           try clear hcz12_0
           try clear hcz12_1
           try clear hcz12_2
           try clear hcz12_3
           try clear hcz18_0
           try clear hcz18_1
           try clear hcz18_2
           try clear hcz18_3
           try clear hcz32_0
           try clear hcz32_1
           try clear hcz32_2
           try clear hcz32_3
           try clear hcz39_0
           try clear hcz39_1
           try clear hcz39_2
           try clear hcz39_3
           try clear hcz8_0
           try clear hcz8_1
           try clear hcz8_2
           try clear hcz8_3
           try clear hfz10_0
           try clear hfz10_1
           try clear hfz10_2
           try clear hfz10_3
           try clear hfz12_0
           try clear hfz12_1
           try clear hfz12_2
           try clear hfz12_3
           try clear hfz18_0
           try clear hfz18_1
           try clear hfz18_2
           try clear hfz18_3
           try clear hfz32_0
           try clear hfz32_1
           try clear hfz32_2
           try clear hfz32_3
           try clear hfz39_0
           try clear hfz39_1
           try clear hfz39_2
           try clear hfz39_3
           try clear hfz8_0
           try clear hfz8_1
           try clear hfz8_2
           try clear hfz8_3
           try clear hx136_0
           try clear p136
           try clear p2
           try clear q136
           obtain ⟨x8_5, x55_5, rfl, HA, HK5, HO_5, HO_6, HO_8, BK119, HB⟩ := hrel
           have hl8_5 := (Kd.R_reads' HO_8.out).1
           rw [hl8_5] at HO_8
           (try simp only [hl8_5])
           (try simp only [hl8_5] at BK119)
           (try simp only [hl8_5] at HO_5)
           (try simp only [hl8_5] at HO_6)
           cases gk with
           | zero => exact absurd HA.out (by simp [dfa_Words.l2])
           | succ k5 =>
            have H := HA.out
            clear HA
            simp only [dfa_Words.l2] at H
            by_cases c40 : x55_5 < ((rd_L1 l0_3 x46_4).length : Int)
            (focus
            rw [if_pos c40] at H
            have c40b0 : decide (x55_5 < ((rd_L1 l0_3 x46_4).length : Int)) = true := decide_eq_true c40
            (try (have c40b0_hl8_4 := c40b0; simp only [hl8_4] at c40b0_hl8_4))
            (try (have c40b0_hl8_5 := c40b0; simp only [hl8_5] at c40b0_hl8_5))
            clear c40
            by_cases c41 : 0 ≤ x55_5
            (focus
            rw [if_pos c41] at H
            have c41b0 : decide (0 ≤ x55_5) = true := decide_eq_true c41
            clear c41
            by_cases c42 : x55_5 < ((rd_L1 l0_3 x46_4).length : Int)
            (focus
            rw [if_pos c42] at H
            have c42b0 : decide (x55_5 < ((rd_L1 l0_3 x46_4).length : Int)) = true := decide_eq_true c42
            (try (have c42b0_hl8_4 := c42b0; simp only [hl8_4] at c42b0_hl8_4))
            (try (have c42b0_hl8_5 := c42b0; simp only [hl8_5] at c42b0_hl8_5))
            clear c42
            by_cases c43 : 0 ≤ x46_4
            (focus
            rw [if_pos c43] at H
            have c43b0 : decide (0 ≤ x46_4) = true := decide_eq_true c43
            clear c43
            by_cases c44 : x46_4 < (x8_5.length : Int)
            (focus
            rw [if_pos c44] at H
            have c44b0 : decide (x46_4 < (x8_5.length : Int)) = true := decide_eq_true c44
            (try (have c44b0_hl8_4 := c44b0; simp only [hl8_4] at c44b0_hl8_4))
            (try (have c44b0_hl8_5 := c44b0; simp only [hl8_5] at c44b0_hl8_5))
            clear c44
            obtain ⟨bq45, hbq45⟩ : ∃ b_ : Bool, b_ = (rdOf false x8_5 x46_4) := ⟨_, rfl⟩
            replace H : (if bq45 = true then (dfa_Words.l2 k5 a1 x5_2 x6_2 x7_2 (x8_5.set (x46_4 : Int).toNat true) x46_4 (y130.length : Int) x46_4 (rd_L1 l0_3 x46_4) ((rd_L1 l0_3 x46_4).length : Int) (wrap64 (x55_5 + 1)) a0_0 a0_1 l0_2 l0_3) else (if 0 ≤ (wrap64 (x7_2 - 1)) then (if (wrap64 (x7_2 - 1)) < (x6_2.length : Int) then (if 0 ≤ (rd (rd_L1 l0_3 x46_4) x55_5) then (if (rd (rd_L1 l0_3 x46_4) x55_5) < ((rd_L3 x6_2 (wrap64 (x7_2 - 1))).length : Int) then (dfa_Words.l2 k5 a1 x5_2 x6_2 x7_2 (x8_5.set (x46_4 : Int).toNat (rdOf false (rd_L3 x6_2 (wrap64 (x7_2 - 1))) (rd (rd_L1 l0_3 x46_4) x55_5))) x46_4 (y130.length : Int) x46_4 (rd_L1 l0_3 x46_4) ((rd_L1 l0_3 x46_4).length : Int) (wrap64 (x55_5 + 1)) a0_0 a0_1 l0_2 l0_3) else (none)) else (none)) else (none)) else (none))) = some r := by rw [← hbq45] at H; exact H
            have Nbq45 := Aside0.mk hbq45
            clear hbq45
            by_cases c46 : bq45 = true
            (focus
            subst c46
            have H1 : (dfa_Words.l2 k5 a1 x5_2 x6_2 x7_2 (x8_5.set (x46_4 : Int).toNat true) x46_4 (y130.length : Int) x46_4 (rd_L1 l0_3 x46_4) ((rd_L1 l0_3 x46_4).length : Int) (wrap64 (x55_5 + 1)) a0_0 a0_1 l0_2 l0_3) = some r := by rw [if_pos rfl] at H; exact H
            clear H
            have H := H1
            clear H1
            obtain ⟨y139, hy139⟩ : ∃ y_ : List Bool, y_ = (x8_5.set (x46_4 : Int).toNat true) := ⟨_, rfl⟩
            replace H : (dfa_Words.l2 k5 a1 x5_2 x6_2 x7_2 y139 x46_4 (y130.length : Int) x46_4 (rd_L1 l0_3 x46_4) ((rd_L1 l0_3 x46_4).length : Int) (wrap64 (x55_5 + 1)) a0_0 a0_1 l0_2 l0_3) = some r := by first | (rw [hy139]; with_reducible exact H) | (have H2_ := (Option.bind_some _ _).symm.trans H; rw [hy139]; with_reducible exact H2_) | (have H2_ := (Option.bind_some _ _).symm.trans H; with_reducible exact H2_) | with_reducible exact H | (rw [hy139]; exact H) | exact H
            have Ny139 := Aside0.mk hy139
            clear hy139
            have H' := Aside0.mk H
            clear H
            have p137 : 0 ≤ (x55_5 : Int) := of_decide_eq_true (by assumption)
            have q137 : x55_5 < ((rd_L1 l0_3 x46_4).length : Int) := of_decide_eq_true (by assumption)
            obtain ⟨ad137, e137, hx137_0⟩ := Kd.at_int HR136_0.out x55_5 p137 q137
            cases e137
            (try replace hx137_0 := (HB.out.cell (World.block_lt_of_cell? w _ hx137_0)).trans hx137_0)
            replace p137 := eq_true p137
            replace q137 := eq_true q137
            have p138 : 0 ≤ (x46_4 : Int) := of_decide_eq_true (by assumption)
            have q138 : x46_4 < (x8_5.length : Int) := of_decide_eq_true (by assumption)
            obtain ⟨ad138, e138, hx138_0⟩ := Kd.at_bool (Kd.R_reads' HO_8.out).2.2 x46_4 p138 q138
            (try rw [← Nbq45.out] at hx138_0)
            cases e138
            replace p138 := eq_true p138
            replace q138 := eq_true q138
            have p47 : 0 ≤ (x46_4 : Int) := of_decide_eq_true (by assumption)
            have q47 : (x46_4 : Int) < ((x8_5.length : Int) : Int) := of_decide_eq_true (by assumption)
            obtain ⟨go47, co47, eo47, gb47, gl47, cl47, HG47⟩ := Kd.R_form HO_8.out (by first | omega | (have e_ := (Kd.R_reads' HO_8.out).1; omega))
            (first | cases eo47 | (injection eo47 with ea_ en_ ec_; (first | subst ea_ | (injection ea_ with ea_; subst ea_)); subst ec_; clear en_))
            have GB47 := Aside0.mk gb47
            have GG47 := Aside0.mk HG47
            clear gb47 gl47 HG47
            (first | simp only [add_plain] at hx138_0 | skip)
            (try simp only [Int.toNat_natCast] at hx138_0)
            obtain ⟨hx47_0, hf47_0⟩ := Kd.R_celln false HO_8.out (x46_4 : Int) p47 q47
            replace p47 := eq_true p47
            replace q47 := eq_true q47
            have HP48 := Kd.R_putg HO_8.out (x46_4 : Int) true
            go_wp2_with (first | ((with_reducible refine gate_store (t := 4) (p := 75) rfl ?_); refine store_event (t := 4) (p := 75) (v := ?vo_w49) (w1 := (wr.setCell ⟨go47, (x46_4 : Int).toNat, none⟩ (.bool true))) ?hg ?ho ?hn ?hr ?_; (case ho => rfl); (case hg => rfl); (case hn => rfl); (case hr => first | (go_simp; done) | (go_simp; rfl)); intro w49 hw; have hg : wr.grownBy w49 (some go47) := (by rw [hw]; exact HP48.2); have hp_ : Kd.R Kd.bool 4 w49 w.heap.size (fun _ => True) (.slice (some ⟨go47, 0, none⟩) x8_5.length co35) y139 := (by rw [hw, Ny139.out]; exact HP48.1); clear HP48; have n0_ := aM (Kd.R_over' (v := (.slice (some ⟨go47, 0, none⟩) x8_5.length co35)) (uR HO_5.out) (Kd.R_typed HO_8.out) (by decide) hg); have n1_ := aM (Kd.N_afterv (v := (.slice (some ⟨go47, 0, none⟩) x8_5.length co35)) (v1 := (.slice (some ⟨go47, 0, none⟩) x8_5.length co35)) (ok := (fun k_ => some k_ ≠ (u5 : Value).ownBlock ∧ k_ ≠ gb119)) (by (with_reducible repeat (first | apply Kd.N_alloc | apply Kd.N_drewN | apply Kd.N_drew)); exact Kd.N_mono HO_6.out (fun _ hk => ⟨⟨hk.1, hk.2.2⟩, hk.2.1⟩)) hg (.inl rfl)); have n2_ := aM (hp_); have n3_ := aM (blk_grown (uB BK119.out) hg (Kd.R_ne HO_8.out BK119.out (by decide))); have n4_ := aM ((by rw [hw]; exact below_set (HB.out) GB47.out : Below w.heap.size w w49)); clear HO_5; clear HO_6; clear HO_8; clear BK119; clear HB; have HO_5 := n0_; have HO_6 := n1_; have HO_8 := n2_; have BK119 := n3_; have HB := n4_; clear n0_ n1_ n2_ n3_ n4_; clear hg hw hp_))
            (try simp only [← hl8_5])
            go_roundg k5
            case measure => have := HJ2.out; have := HK2.out; have := HJ22.out; have := HK4.out; have := HK5.out; omega
            case rel => exact ⟨(y139), (wrap64 (x55_5 + 1)), (by first | rfl | (simp; done) | (simp [*]; done)), H', ⟨by have := HJ2.out; have := HK2.out; have := HJ22.out; have := HK4.out; have := HK5.out; omega⟩, ⟨by (try simp only [hl8_4]); (try simp only [hl8_5]); (with_reducible repeat (first | apply Kd.R_alloc | apply Kd.R_drewN | apply Kd.R_drew)); exact HO_5.out⟩, ⟨by (try simp only [hl8_4]); (try simp only [hl8_5]); (with_reducible repeat (first | apply Kd.N_alloc | apply Kd.N_drewN | apply Kd.N_drew)); exact Kd.N_mono HO_6.out (fun _ hk => ⟨hk.1.1, ⟨hk.2, hk.1.2⟩⟩)⟩, ⟨by (try simp only [hl8_4]); (try simp only [hl8_5]); (with_reducible repeat (first | apply Kd.R_alloc | apply Kd.R_drewN | apply Kd.R_drew)); exact HO_8.out⟩, ⟨by (try simp only [hl8_4]); (try simp only [hl8_5]); (with_reducible repeat (first | refine kN ?_ | refine kD ?_ | refine kA ?_)); exact BK119.out⟩, ⟨by repeat (first | (with_reducible first | exact HB.out | apply bA | apply bN | apply bD | refine bS ?_ ‹_›) | exact HB.out)⟩⟩
            )
            (focus
            replace c46 := Bool.eq_false_iff.mpr c46
            subst c46
            have H1 : (if 0 ≤ (wrap64 (x7_2 - 1)) then (if (wrap64 (x7_2 - 1)) < (x6_2.length : Int) then (if 0 ≤ (rd (rd_L1 l0_3 x46_4) x55_5) then (if (rd (rd_L1 l0_3 x46_4) x55_5) < ((rd_L3 x6_2 (wrap64 (x7_2 - 1))).length : Int) then (dfa_Words.l2 k5 a1 x5_2 x6_2 x7_2 (x8_5.set (x46_4 : Int).toNat (rdOf false (rd_L3 x6_2 (wrap64 (x7_2 - 1))) (rd (rd_L1 l0_3 x46_4) x55_5))) x46_4 (y130.length : Int) x46_4 (rd_L1 l0_3 x46_4) ((rd_L1 l0_3 x46_4).length : Int) (wrap64 (x55_5 + 1)) a0_0 a0_1 l0_2 l0_3) else (none)) else (none)) else (none)) else (none)) = some r := by rw [if_neg (show ¬ (false = true) by decide)] at H; exact H
            clear H
            have H := H1
            clear H1
            obtain ⟨ji50, hji50⟩ : ∃ j_ : Int, (wrap64 (x7_2 - 1)) = j_ := ⟨_, rfl⟩
            replace H : (if 0 ≤ (ji50) then (if (ji50) < (x6_2.length : Int) then (if 0 ≤ (rd (rd_L1 l0_3 x46_4) x55_5) then (if (rd (rd_L1 l0_3 x46_4) x55_5) < ((rd_L3 x6_2 (ji50)).length : Int) then (dfa_Words.l2 k5 a1 x5_2 x6_2 x7_2 (x8_5.set (x46_4 : Int).toNat (rdOf false (rd_L3 x6_2 (ji50)) (rd (rd_L1 l0_3 x46_4) x55_5))) x46_4 (y130.length : Int) x46_4 (rd_L1 l0_3 x46_4) ((rd_L1 l0_3 x46_4).length : Int) (wrap64 (x55_5 + 1)) a0_0 a0_1 l0_2 l0_3) else (none)) else (none)) else (none)) else (none)) = some r := by first | (rw [hji50] at H; exact H) | (simp only [hji50] at H ⊢; exact H)
            have hji50w : (IntKind.i64.wrap (x7_2 - 1)) = ji50 := (i64_w _).trans hji50
            by_cases c51 : 0 ≤ (ji50)
            (focus
            rw [if_pos c51] at H
            have c51b0 : decide (0 ≤ (ji50)) = true := decide_eq_true c51
            clear c51
            by_cases c52 : (ji50) < (x6_2.length : Int)
            (focus
            rw [if_pos c52] at H
            have c52b0 : decide ((ji50) < (x6_2.length : Int)) = true := decide_eq_true c52
            (try (have c52b0_hl8_4 := c52b0; simp only [hl8_4] at c52b0_hl8_4))
            (try (have c52b0_hl8_5 := c52b0; simp only [hl8_5] at c52b0_hl8_5))
            clear c52
            by_cases c53 : 0 ≤ (rd (rd_L1 l0_3 x46_4) x55_5)
            (focus
            rw [if_pos c53] at H
            have c53b0 : decide (0 ≤ (rd (rd_L1 l0_3 x46_4) x55_5)) = true := decide_eq_true c53
            clear c53
            by_cases c54 : (rd (rd_L1 l0_3 x46_4) x55_5) < ((rd_L3 x6_2 (ji50)).length : Int)
            (focus
            rw [if_pos c54] at H
            have c54b0 : decide ((rd (rd_L1 l0_3 x46_4) x55_5) < ((rd_L3 x6_2 (ji50)).length : Int)) = true := decide_eq_true c54
            (try (have c54b0_hl8_4 := c54b0; simp only [hl8_4] at c54b0_hl8_4))
            (try (have c54b0_hl8_5 := c54b0; simp only [hl8_5] at c54b0_hl8_5))
            clear c54
            obtain ⟨y142, hy142⟩ : ∃ y_ : List Bool, y_ = (x8_5.set (x46_4 : Int).toNat (rdOf false (rd_L3 x6_2 (ji50)) (rd (rd_L1 l0_3 x46_4) x55_5))) := ⟨_, rfl⟩
            replace H : (dfa_Words.l2 k5 a1 x5_2 x6_2 x7_2 y142 x46_4 (y130.length : Int) x46_4 (rd_L1 l0_3 x46_4) ((rd_L1 l0_3 x46_4).length : Int) (wrap64 (x55_5 + 1)) a0_0 a0_1 l0_2 l0_3) = some r := by first | (rw [hy142]; with_reducible exact H) | (have H2_ := (Option.bind_some _ _).symm.trans H; rw [hy142]; with_reducible exact H2_) | (have H2_ := (Option.bind_some _ _).symm.trans H; with_reducible exact H2_) | with_reducible exact H | (rw [hy142]; exact H) | exact H
            have Ny142 := Aside0.mk hy142
            clear hy142
            have H' := Aside0.mk H
            clear H
            have p137 : 0 ≤ (x55_5 : Int) := of_decide_eq_true (by assumption)
            have q137 : x55_5 < ((rd_L1 l0_3 x46_4).length : Int) := of_decide_eq_true (by assumption)
            obtain ⟨ad137, e137, hx137_0⟩ := Kd.at_int HR136_0.out x55_5 p137 q137
            cases e137
            (try replace hx137_0 := (HB.out.cell (World.block_lt_of_cell? w _ hx137_0)).trans hx137_0)
            replace p137 := eq_true p137
            replace q137 := eq_true q137
            have p138 : 0 ≤ (x46_4 : Int) := of_decide_eq_true (by assumption)
            have q138 : x46_4 < (x8_5.length : Int) := of_decide_eq_true (by assumption)
            obtain ⟨ad138, e138, hx138_0⟩ := Kd.at_bool (Kd.R_reads' HO_8.out).2.2 x46_4 p138 q138
            (try rw [← Nbq45.out] at hx138_0)
            cases e138
            replace p138 := eq_true p138
            replace q138 := eq_true q138
            obtain ⟨Ao56, co56, eo56⟩ := Kd.N_slice HO_6.out
            subst eo56
            have p140 : 0 ≤ ((ji50) : Int) := of_decide_eq_true (by assumption)
            have q140 : (ji50) < (x6_2.length : Int) := of_decide_eq_true (by assumption)
            obtain ⟨ad140, A140_0, c140_0, e140, hx140_0, hl140_0, hi140_0⟩ := at_L3 (Kd.N_reads' HO_6.out).2.2 (ji50) p140 q140
            cases e140
            obtain ⟨ce140, hce140, hMe140, hcc140⟩ := Kd.N_get HO_6.out [] (ji50) p140 (by first | exact q140 | exact of_decide_eq_true (by assumption) | (have e_ := (Kd.N_reads' HO_6.out).1; omega))
            obtain ⟨ua140_0, uc140_0, rfl, ul140_0, ge140_0⟩ := Kd.FK_slice_open hMe140
            have hv140_0 := hcc140 0 _ rfl
            rw [Nat.add_zero, show ((Kd.slice 4 Kd.bool)).sz = 1 from rfl, Nat.mul_one] at hv140_0
            replace hv140_0 := Option.some.inj (hv140_0.symm.trans hx140_0)
            injection hv140_0 with hva_ hvn_ hvc_
            rw [hva_] at ge140_0
            rw [hvc_] at ul140_0
            have HL140_0 := aM (show Kd.V Kd.bool 4 _ w.heap.size _ _ (rd_L3 x6_2 (ji50)) from Kd.V_mk ul140_0 ge140_0)
            clear hva_ hvn_ hvc_ ge140_0 ul140_0
            clear hcc140 hce140
            have HR140_0 := Aside0.mk hi140_0
            have HC140_0 := Aside0.mk hl140_0
            clear hi140_0 hl140_0
            replace p140 := eq_true p140
            replace q140 := eq_true q140
            have p141 : 0 ≤ ((rd (rd_L1 l0_3 x46_4) x55_5) : Int) := of_decide_eq_true (by assumption)
            have q141 : (rd (rd_L1 l0_3 x46_4) x55_5) < ((rd_L3 x6_2 (ji50)).length : Int) := of_decide_eq_true (by assumption)
            obtain ⟨ad141, e141, hx141_0⟩ := Kd.at_bool (by repeat (first | (with_reducible exact HR140_0.out) | (with_reducible refine Kd.C_alloc ?_ _) | (with_reducible refine Kd.C_drewN ?_ _) | (with_reducible refine Kd.C_drew ?_) | exact HR140_0.out)) (rd (rd_L1 l0_3 x46_4) x55_5) p141 q141
            (try rw [← Nbq45.out] at hx141_0)
            cases e141
            replace p141 := eq_true p141
            replace q141 := eq_true q141
            have p55 : 0 ≤ (x46_4 : Int) := of_decide_eq_true (by assumption)
            have q55 : (x46_4 : Int) < ((x8_5.length : Int) : Int) := of_decide_eq_true (by assumption)
            obtain ⟨go55, co55, eo55, gb55, gl55, cl55, HG55⟩ := Kd.R_form HO_8.out (by first | omega | (have e_ := (Kd.R_reads' HO_8.out).1; omega))
            (first | cases eo55 | (injection eo55 with ea_ en_ ec_; (first | subst ea_ | (injection ea_ with ea_; subst ea_)); subst ec_; clear en_))
            have GB55 := Aside0.mk gb55
            have GG55 := Aside0.mk HG55
            clear gb55 gl55 HG55
            (first | simp only [add_plain] at hx138_0 | skip)
            (try simp only [Int.toNat_natCast] at hx138_0)
            obtain ⟨hx55_0, hf55_0⟩ := Kd.R_celln false HO_8.out (x46_4 : Int) p55 q55
            replace p55 := eq_true p55
            replace q55 := eq_true q55
            have HP57 := Kd.R_putg HO_8.out (x46_4 : Int) (rdOf false (rd_L3 x6_2 (ji50)) (rd (rd_L1 l0_3 x46_4) x55_5))
            go_wp2_with (first | ((with_reducible refine gate_store (t := 4) (p := 75) rfl ?_); refine store_event (t := 4) (p := 75) (v := ?vo_w58) (w1 := (wr.setCell ⟨go55, (x46_4 : Int).toNat, none⟩ (.bool (rdOf false (rd_L3 x6_2 (ji50)) (rd (rd_L1 l0_3 x46_4) x55_5))))) ?hg ?ho ?hn ?hr ?_; (case ho => rfl); (case hg => rfl); (case hn => rfl); (case hr => first | (go_simp; done) | (go_simp; rfl)); intro w58 hw; have hg : wr.grownBy w58 (some go55) := (by rw [hw]; exact HP57.2); have hp_ : Kd.R Kd.bool 4 w58 w.heap.size (fun _ => True) (.slice (some ⟨go55, 0, none⟩) x8_5.length co35) y142 := (by rw [hw, Ny142.out]; exact HP57.1); clear HP57; have n0_ := aM (Kd.R_over' (v := (.slice (some ⟨go55, 0, none⟩) x8_5.length co35)) (uR HO_5.out) (Kd.R_typed HO_8.out) (by decide) hg); have n1_ := aM (Kd.N_afterv (v := (.slice (some ⟨go55, 0, none⟩) x8_5.length co35)) (v1 := (.slice (some ⟨go55, 0, none⟩) x8_5.length co35)) (ok := (fun k_ => some k_ ≠ (u5 : Value).ownBlock ∧ k_ ≠ gb119)) (by (with_reducible repeat (first | apply Kd.N_alloc | apply Kd.N_drewN | apply Kd.N_drew)); exact Kd.N_mono HO_6.out (fun _ hk => ⟨⟨hk.1, hk.2.2⟩, hk.2.1⟩)) hg (.inl rfl)); have n2_ := aM (hp_); have n3_ := aM (blk_grown (uB BK119.out) hg (Kd.R_ne HO_8.out BK119.out (by decide))); have n4_ := aM (Kd.V_afterv (v := (.slice (some ⟨go55, 0, none⟩) x8_5.length co35)) (v1 := (.slice (some ⟨go55, 0, none⟩) x8_5.length co35)) (ok := (fun k_ => some k_ ≠ (u5 : Value).ownBlock ∧ some k_ ≠ (.slice (some ad140) x6_2.length co56 : Value).ownBlock ∧ k_ ≠ gb119)) (by (with_reducible repeat (first | apply Kd.V_alloc | apply Kd.V_drewN | apply Kd.V_drew)); exact Kd.V_mono HL140_0.out (fun _ hk => ⟨⟨hk.1.1, ⟨hk.2, hk.1.2.2⟩⟩, hk.1.2.1⟩)) hg (.inl rfl)); have n5_ := aM ((by rw [hw]; exact below_set (HB.out) GB55.out : Below w.heap.size w w58)); have n6_ := aM ((Kd.V_reads' (Kd.V_afterv (v := (.slice (some ⟨go55, 0, none⟩) x8_5.length co35)) (v1 := (.slice (some ⟨go55, 0, none⟩) x8_5.length co35)) (ok := (fun k_ => some k_ ≠ (u5 : Value).ownBlock ∧ some k_ ≠ (.slice (some ad140) x6_2.length co56 : Value).ownBlock ∧ k_ ≠ gb119)) (by (with_reducible repeat (first | apply Kd.V_alloc | apply Kd.V_drewN | apply Kd.V_drew)); exact Kd.V_mono HL140_0.out (fun _ hk => ⟨⟨hk.1.1, ⟨hk.2, hk.1.2.2⟩⟩, hk.1.2.1⟩)) hg (.inl rfl))).2.2); clear HO_5; clear HO_6; clear HO_8; clear BK119; clear HL140_0; clear HB; clear HR140_0; have HO_5 := n0_; have HO_6 := n1_; have HO_8 := n2_; have BK119 := n3_; have HL140_0 := n4_; have HB := n5_; have HR140_0 := n6_; clear n0_ n1_ n2_ n3_ n4_ n5_ n6_; clear hg hw hp_))
            (try simp only [← hl8_5])
            go_roundg k5
            case measure => have := HJ2.out; have := HK2.out; have := HJ22.out; have := HK4.out; have := HK5.out; omega
            case rel => exact ⟨(y142), (wrap64 (x55_5 + 1)), (by first | rfl | (simp; done) | (simp [*]; done)), H', ⟨by have := HJ2.out; have := HK2.out; have := HJ22.out; have := HK4.out; have := HK5.out; omega⟩, ⟨by (try simp only [hl8_4]); (try simp only [hl8_5]); (with_reducible repeat (first | apply Kd.R_alloc | apply Kd.R_drewN | apply Kd.R_drew)); exact HO_5.out⟩, ⟨by (try simp only [hl8_4]); (try simp only [hl8_5]); (with_reducible repeat (first | apply Kd.N_alloc | apply Kd.N_drewN | apply Kd.N_drew)); exact Kd.N_mono HO_6.out (fun _ hk => ⟨hk.1.1, ⟨hk.2, hk.1.2⟩⟩)⟩, ⟨by (try simp only [hl8_4]); (try simp only [hl8_5]); (with_reducible repeat (first | apply Kd.R_alloc | apply Kd.R_drewN | apply Kd.R_drew)); exact HO_8.out⟩, ⟨by (try simp only [hl8_4]); (try simp only [hl8_5]); (with_reducible repeat (first | refine kN ?_ | refine kD ?_ | refine kA ?_)); exact BK119.out⟩, ⟨by repeat (first | (with_reducible first | exact HB.out | apply bA | apply bN | apply bD | refine bS ?_ ‹_›) | exact HB.out)⟩⟩
            )
            (focus
            rw [if_neg c54] at H
            exact absurd H (by simp)
            )
            )
            (focus
            rw [if_neg c53] at H
            exact absurd H (by simp)
            )
            )
            (focus
            rw [if_neg c52] at H
            exact absurd H (by simp)
            )
            )
            (focus
            rw [if_neg c51] at H
            exact absurd H (by simp)
            )
            )
            )
            (focus
            rw [if_neg c44] at H
            exact absurd H (by simp)
            )
            )
            (focus
            rw [if_neg c43] at H
            exact absurd H (by simp)
            )
            )
            (focus
            rw [if_neg c42] at H
            exact absurd H (by simp)
            )
            )
            (focus
            rw [if_neg c41] at H
            exact absurd H (by simp)
            )
            )
            (focus
            rw [if_neg c40] at H
            have c40b0 : decide (x55_5 < ((rd_L1 l0_3 x46_4).length : Int)) = false := decide_eq_false c40
            (try (have c40b0_hl8_4 := c40b0; simp only [hl8_4] at c40b0_hl8_4))
            (try (have c40b0_hl8_5 := c40b0; simp only [hl8_5] at c40b0_hl8_5))
            clear c40
            have H' := Aside0.mk H
            clear H
            go_wp2
            (try simp only [← hl8_4, ← hl8_5])
            go_roundg k5
            case measure => have := HJ2.out; have := HK2.out; have := HJ22.out; have := HK4.out; have := HK5.out; omega
            case rel => exact ⟨(x8_5), (wrap64 (x46_4 + 1)), (by first | rfl | (simp; done) | (simp [*]; done)), H', ⟨by have := HJ2.out; have := HK2.out; have := HJ22.out; have := HK4.out; have := HK5.out; omega⟩, ⟨by (try simp only [hl8_4]); (try simp only [hl8_5]); (with_reducible repeat (first | apply Kd.R_alloc | apply Kd.R_drewN | apply Kd.R_drew)); exact HO_5.out⟩, ⟨by (try simp only [hl8_4]); (try simp only [hl8_5]); (with_reducible repeat (first | apply Kd.N_alloc | apply Kd.N_drewN | apply Kd.N_drew)); exact HO_6.out⟩, ⟨by (try simp only [hl8_4]); (try simp only [hl8_5]); (with_reducible repeat (first | apply Kd.R_alloc | apply Kd.R_drewN | apply Kd.R_drew)); exact HO_8.out⟩, ⟨by (try simp only [hl8_4]); (try simp only [hl8_5]); (with_reducible repeat (first | refine kN ?_ | refine kD ?_ | refine kA ?_)); exact BK119.out⟩, ⟨by repeat (first | (with_reducible first | exact HB.out | apply bA | apply bN | apply bD | refine bS ?_ ‹_›) | exact HB.out)⟩⟩
            )
          )
          (focus
          rw [if_neg c38] at H
          exact absurd H (by simp)
          )
          )
          (focus
          rw [if_neg c37] at H
          exact absurd H (by simp)
          )
          )
          (focus
          rw [if_neg c36] at H
          have c36b0 : decide (x46_4 < (y130.length : Int)) = false := decide_eq_false c36
          (try (have c36b0_hl8_4 := c36b0; simp only [hl8_4] at c36b0_hl8_4))
          clear c36
          by_cases c59 : x6_2.length < 5864062014805
          (focus
          rw [if_pos c59] at H
          have LMc59 := Aside0.mk c59
          clear c59
          obtain ⟨y133, hy133⟩ : ∃ y_ : List (List Bool), y_ = (x6_2 ++ [x8_4]) := ⟨_, rfl⟩
          replace H : (dfa_Words.j5 k4 a1 x5_2 y133 x7_2 a0_0 a0_1 l0_2 l0_3) = some r := by first | (rw [hy133]; with_reducible exact H) | (have H2_ := (Option.bind_some _ _).symm.trans H; rw [hy133]; with_reducible exact H2_) | (have H2_ := (Option.bind_some _ _).symm.trans H; with_reducible exact H2_) | with_reducible exact H | (rw [hy133]; exact H) | exact H
          have Ny133 := Aside0.mk hy133
          clear hy133
          have H' := Aside0.mk H
          clear H
          go_wp2_with (first | ((with_reducible refine gate_builtin (b := .append) (xs := #[.tmp 78, .tmp 80]) rfl ?_); at_builtin; refine Kd.N_append (Kd.slice 4 Kd.bool) (w0 := w) w.heap.size rfl (.tmp 78) (.tmp 80) 54 22 (.slice none 0 0) 24 rfl Try.underlying54 info22 rfl (by decide) (by omega) u6 x6_2 x8_4 [.slice Ao35 x8_4.length co35] (fun k_ => some k_ ≠ (u5 : Value).ownBlock ∧ k_ ≠ gb119) (fun k_ => ((fun k_ => some k_ ≠ (u5 : Value).ownBlock ∧ k_ ≠ gb119)) k_ ∧ some k_ ≠ (u6 : Value).ownBlock) rfl rfl ?aP (fun _ hk => hk) ?aF ?aO ?aB ?aS ?aL ?_; (case aP => exact (FK_of_R (Kd.R_mono (ok' := (fun k_ => ((fun k_ => some k_ ≠ (u5 : Value).ownBlock ∧ k_ ≠ gb119)) k_ ∧ some k_ ≠ (u6 : Value).ownBlock)) (Kd.R_types (Kd.R_apart' (Kd.R_apart' (HO_8.out) (Kd.R_typed HO_5.out) (by decide)) (Kd.N_typed HO_6.out) (by decide)) BK119.out (by decide)) (fun k_ hk => ⟨⟨hk.1.1.2, hk.2⟩, hk.1.2⟩)))); (case aB => exact (by repeat (first | (with_reducible first | exact HB.out | apply bA | apply bN | apply bD | refine bS ?_ ‹_›) | exact HB.out))); (case aF => exact (fun k_ hk => ⟨Kd.fresh' (Kd.R_lt (uR HO_5.out)) k_ hk, Kd.freshB (uB BK119.out) k_ hk⟩)); (case aO => exact (by (with_reducible repeat (first | apply Kd.N_alloc | apply Kd.N_drewN | apply Kd.N_drew)); exact Kd.N_mono HO_6.out (fun _ hk => ⟨hk.1, hk.2.2⟩))); (case aS => exact (below_size (by repeat (first | (with_reducible first | exact HB.out | apply bA | apply bN | apply bD | refine bS ?_ ‹_›) | exact HB.out)))); (case aL => have := LMc59.out; omega); intro v134 w60 ho hb hg hat; rw [← Ny133.out] at ho; have n0_ := aM (Kd.R_over' (uR HO_5.out) (Kd.N_typed (by (with_reducible repeat (first | apply Kd.N_alloc | apply Kd.N_drewN | apply Kd.N_drew)); exact HO_6.out)) (by decide) hg); have n1_ := aM (blk_grown (uB BK119.out) hg (Kd.N_ne HO_6.out BK119.out (by decide))); have n2_ := aM (hb); have n3_ := aM (ho); clear HO_5; clear BK119; clear HB; clear HO_6; clear HO_8; have HO_5 := n0_; have BK119 := n1_; have HB := n2_; have HO135 := n3_; clear n0_ n1_ n2_ n3_; clear ho hb hg hat))
          (try simp only [← hl8_4])
          go_meet
          case rel => exact ⟨_, (y133), H', ⟨by have := HJ2.out; have := HK2.out; have := HJ22.out; have := HK4.out; first | omega | exact Nat.le_refl _⟩, ⟨by (try simp only [hl8_4]); (with_reducible repeat (first | apply Kd.R_alloc | apply Kd.R_drewN | apply Kd.R_drew)); exact HO_5.out⟩, ⟨by (try simp only [hl8_4]); (with_reducible repeat (first | apply Kd.N_alloc | apply Kd.N_drewN | apply Kd.N_drew)); exact HO135.out⟩, ⟨by (try simp only [hl8_4]); (with_reducible repeat (first | refine kN ?_ | refine kD ?_ | refine kA ?_)); exact BK119.out⟩, ⟨by repeat (first | (with_reducible first | exact HB.out | apply bA | apply bN | apply bD | refine bS ?_ ‹_›) | exact HB.out)⟩⟩
          )
          (focus
          rw [if_neg c59] at H
          exact absurd H (by simp)
          )
          )
        )
        (focus
        rw [if_neg c31] at H
        exact absurd H (by simp)
        )
        )
        (focus
        rw [if_neg c30] at H
        exact absurd H (by simp)
        )
        )
        (focus
        rw [if_neg c29] at H
        have c29b0 : decide (0 < x7_2) = false := decide_eq_false c29
        clear c29
        (first | rw [c29b0] | (simp only [i64_w, i32_w]; rw [c29b0]) | skip)
        have H' := Aside0.mk H
        clear H
        go_wp2
        go_meet
        case rel => exact ⟨_, (x6_2), H', ⟨by have := HJ2.out; have := HK2.out; have := HJ22.out; first | omega | exact Nat.le_refl _⟩, ⟨by (with_reducible repeat (first | apply Kd.R_alloc | apply Kd.R_drewN | apply Kd.R_drew)); exact HO_5.out⟩, ⟨by (with_reducible repeat (first | apply Kd.N_alloc | apply Kd.N_drewN | apply Kd.N_drew)); exact HO_6.out⟩, ⟨by (with_reducible repeat (first | refine kN ?_ | refine kD ?_ | refine kA ?_)); exact BK119.out⟩, ⟨by repeat (first | (with_reducible first | exact HB.out | apply bA | apply bN | apply bD | refine bS ?_ ‹_›) | exact HB.out)⟩⟩
        )
       case rest =>
        clear HC28
        try clear c1
        try clear p1
        try clear q1
        try clear hx1
        try clear c2
        try clear p2
        try clear c3
        try clear c4
        try clear p4
        try clear q4
        try clear hx4
        try clear hf4
        try clear c5
        try clear p5
        try clear q5
        try clear hx5
        try clear hf5
        try clear c6
        try clear c6b0
        try clear c6b1
        try clear p6
        try clear c7
        try clear c7b0
        try clear c13
        try clear p13
        try clear q13
        try clear hx13
        try clear c14
        try clear p14
        try clear q14
        try clear hx14
        try clear c15
        try clear c18
        try clear c24
        try clear c24b0
        try clear c27
        try clear c29
        try clear c29b0
        try clear c30
        try clear c30b0
        try clear c30b1
        try clear c31
        try clear c31b0
        try clear c31b1
        try clear c36
        try clear c36b0
        try clear c37
        try clear c37b0
        try clear c38
        try clear c38b0
        try clear c40
        try clear c40b0
        try clear c41
        try clear c41b0
        try clear c42
        try clear c42b0
        try clear c43
        try clear c43b0
        try clear c44
        try clear c44b0
        try clear q45
        try clear c46
        try clear p47
        try clear q47
        try clear hx47
        try clear hf47
        try clear c51
        try clear c51b0
        try clear c52
        try clear c52b0
        try clear c53
        try clear c53b0
        try clear c54
        try clear c54b0
        try clear p55
        try clear q55
        try clear hx55
        try clear hf55
        try clear c59
        try clear hcz10_0
        try clear hcz10_1
        try clear hcz10_2
        try clear hcz10_3
        try clear hcz12_0
        try clear hcz12_1
        try clear hcz12_2
        try clear hcz12_3
        try clear hcz18_0
        try clear hcz18_1
        try clear hcz18_2
        try clear hcz18_3
        try clear hcz32_0
        try clear hcz32_1
        try clear hcz32_2
        try clear hcz32_3
        try clear hcz39_0
        try clear hcz39_1
        try clear hcz39_2
        try clear hcz39_3
        try clear hcz8_0
        try clear hcz8_1
        try clear hcz8_2
        try clear hcz8_3
        try clear hfz10_0
        try clear hfz10_1
        try clear hfz10_2
        try clear hfz10_3
        try clear hfz12_0
        try clear hfz12_1
        try clear hfz12_2
        try clear hfz12_3
        try clear hfz18_0
        try clear hfz18_1
        try clear hfz18_2
        try clear hfz18_3
        try clear hfz32_0
        try clear hfz32_1
        try clear hfz32_2
        try clear hfz32_3
        try clear hfz39_0
        try clear hfz39_1
        try clear hfz39_2
        try clear hfz39_3
        try clear hfz8_0
        try clear hfz8_1
        try clear hfz8_2
        try clear hfz8_3
        try clear hx136_0
        try clear hx137_0
        try clear hx138_0
        try clear hx140_0
        try clear hx141_0
        try clear hx47_0
        try clear hx55_0
        try clear p1
        try clear p13
        try clear p136
        try clear p137
        try clear p138
        try clear p140
        try clear p141
        try clear p2
        try clear p47
        try clear p55
        try clear q1
        try clear q13
        try clear q136
        try clear q137
        try clear q138
        try clear q140
        try clear q141
        try clear q47
        try clear q55
        obtain ⟨kq, x6_27, HA, HJ27, HO_5, HO_6, BK119, HB⟩ := hcut
        cases kq with
        | zero => exact absurd HA.out (by simp [dfa_Words.j5])
        | succ kj27 =>
         have H := HA.out
         clear HA
         simp only [dfa_Words.j5] at H
         by_cases c61 : 0 ≤ x7_2
         (focus
         rw [if_pos c61] at H
         have c61b0 : decide (0 ≤ x7_2) = true := decide_eq_true c61
         clear c61
         by_cases c62 : x7_2 < (x6_27.length : Int)
         (focus
         rw [if_pos c62] at H
         have c62b0 : decide (x7_2 < (x6_27.length : Int)) = true := decide_eq_true c62
         clear c62
         by_cases c63 : 0 ≤ a0_1
         (focus
         rw [if_pos c63] at H
         have c63b0 : decide (0 ≤ a0_1) = true := decide_eq_true c63
         clear c63
         by_cases c64 : a0_1 < ((rd_L3 x6_27 x7_2).length : Int)
         (focus
         rw [if_pos c64] at H
         have c64b0 : decide (a0_1 < ((rd_L3 x6_27 x7_2).length : Int)) = true := decide_eq_true c64
         clear c64
         obtain ⟨bq65, hbq65⟩ : ∃ b_ : Bool, b_ = (rdOf false (rd_L3 x6_27 x7_2) a0_1) := ⟨_, rfl⟩
         replace H : (if bq65 = true then (if (x7_2 : Int).toNat ≤ 281474976710656 then ((dfa_collect.f kj27 a0_0 a0_1 l0_2 l0_3 x6_27 a1 x5_2 (List.replicate 0 0) a0_1 x7_2).bind fun bt148 => (dfa_Words.l0 kj27 a1 bt148.1 x6_27 (wrap64 (x7_2 + 1)) a0_0 a0_1 l0_2 l0_3)) else (none)) else (dfa_Words.l0 kj27 a1 x5_2 x6_27 (wrap64 (x7_2 + 1)) a0_0 a0_1 l0_2 l0_3)) = some r := by rw [← hbq65] at H; exact H
         have Nbq65 := Aside0.mk hbq65
         clear hbq65
         by_cases c66 : bq65 = true
         (focus
         subst c66
         have H1 : (if (x7_2 : Int).toNat ≤ 281474976710656 then ((dfa_collect.f kj27 a0_0 a0_1 l0_2 l0_3 x6_27 a1 x5_2 (List.replicate 0 0) a0_1 x7_2).bind fun bt148 => (dfa_Words.l0 kj27 a1 bt148.1 x6_27 (wrap64 (x7_2 + 1)) a0_0 a0_1 l0_2 l0_3)) else (none)) = some r := by rw [if_pos rfl] at H; exact H
         clear H
         have H := H1
         clear H1
         by_cases c67 : (x7_2 : Int).toNat ≤ 281474976710656
         (focus
         rw [if_pos c67] at H
         have c67b0 := eq_true c67
         have c67b1 : decide ((x7_2 : Int).toNat ≤ 281474976710656) = true := decide_eq_true c67
         clear c67
         obtain ⟨y145, hy145⟩ : ∃ y_ : List Int, y_ = (List.replicate 0 0) := ⟨_, rfl⟩
         replace H : ((dfa_collect.f kj27 a0_0 a0_1 l0_2 l0_3 x6_27 a1 x5_2 y145 a0_1 x7_2).bind fun bt148 => (dfa_Words.l0 kj27 a1 bt148.1 x6_27 (wrap64 (x7_2 + 1)) a0_0 a0_1 l0_2 l0_3)) = some r := by first | (rw [hy145]; with_reducible exact H) | (have H2_ := (Option.bind_some _ _).symm.trans H; rw [hy145]; with_reducible exact H2_) | (have H2_ := (Option.bind_some _ _).symm.trans H; with_reducible exact H2_) | with_reducible exact H | (rw [hy145]; exact H) | exact H
         have Ny145 := Aside0.mk hy145
         clear hy145
         replace H := Option.bind_eq_some_iff.mp H
         obtain ⟨⟨t148, t151⟩, A680, H⟩ := H
         replace H : (dfa_Words.l0 kj27 a1 t148 x6_27 (wrap64 (x7_2 + 1)) a0_0 a0_1 l0_2 l0_3) = some r := H
         have A68 := Aside0.mk A680
         clear A680
         have H' := Aside0.mk H
         clear H
         try go_wp2
         have n0_ := aM (Kd.R_drew HO_5.out)
         have n1_ := aM (Kd.N_drew HO_6.out)
         have n2_ := aM (blk_drew BK119.out)
         have n3_ := aM (below_drew1 HB.out)
         clear HO_5
         clear HO_6
         clear BK119
         clear HB
         have HO_5 := n0_
         have HO_6 := n1_
         have BK119 := n2_
         have HB := n3_
         clear n0_ n1_ n2_ n3_
         obtain ⟨Ao70, co70, eo70⟩ := Kd.N_slice HO_6.out
         (first | subst eo70 | (injection eo70 with f1_ f2_ f3_; have f4_ := f1_.symm; have f5_ := f3_.symm; clear f1_ f2_ f3_; subst f4_; subst f5_))
         have p143 : 0 ≤ (x7_2 : Int) := of_decide_eq_true (by assumption)
         have q143 : x7_2 < (x6_27.length : Int) := of_decide_eq_true (by assumption)
         obtain ⟨ad143, A143_0, c143_0, e143, hx143_0, hl143_0, hi143_0⟩ := at_L3 (Kd.N_reads' HO_6.out).2.2 x7_2 p143 q143
         cases e143
         obtain ⟨ce143, hce143, hMe143, hcc143⟩ := Kd.N_get HO_6.out [] x7_2 p143 (by first | exact q143 | exact of_decide_eq_true (by assumption) | (have e_ := (Kd.N_reads' HO_6.out).1; omega))
         obtain ⟨ua143_0, uc143_0, rfl, ul143_0, ge143_0⟩ := Kd.FK_slice_open hMe143
         have hv143_0 := hcc143 0 _ rfl
         rw [Nat.add_zero, show ((Kd.slice 4 Kd.bool)).sz = 1 from rfl, Nat.mul_one] at hv143_0
         replace hv143_0 := Option.some.inj (hv143_0.symm.trans hx143_0)
         injection hv143_0 with hva_ hvn_ hvc_
         rw [hva_] at ge143_0
         rw [hvc_] at ul143_0
         have HL143_0 := aM (show Kd.V Kd.bool 4 _ w.heap.size _ _ (rd_L3 x6_27 x7_2) from Kd.V_mk ul143_0 ge143_0)
         clear hva_ hvn_ hvc_ ge143_0 ul143_0
         clear hcc143 hce143
         have HR143_0 := Aside0.mk hi143_0
         have HC143_0 := Aside0.mk hl143_0
         clear hi143_0 hl143_0
         replace p143 := eq_true p143
         replace q143 := eq_true q143
         have p144 : 0 ≤ (a0_1 : Int) := of_decide_eq_true (by assumption)
         have q144 : a0_1 < ((rd_L3 x6_27 x7_2).length : Int) := of_decide_eq_true (by assumption)
         obtain ⟨ad144, e144, hx144_0⟩ := Kd.at_bool (by repeat (first | (with_reducible exact HR143_0.out) | (with_reducible refine Kd.C_alloc ?_ _) | (with_reducible refine Kd.C_drewN ?_ _) | (with_reducible refine Kd.C_drew ?_) | exact HR143_0.out)) a0_1 p144 q144
         (try rw [← Nbq65.out] at hx144_0)
         cases e144
         replace p144 := eq_true p144
         replace q144 := eq_true q144
         refine start_ (n := 8) (S := fun w' => w'.cell? ⟨gb119, 0, none⟩ = some (.int .i64 a0_0) ∧ w'.cell? ⟨gb119, 1, none⟩ = some (.int .i64 a0_1) ∧ w'.cell? ⟨gb119, 2, none⟩ = some (.slice A0_2 l0_2.length c0_2) ∧ w'.cell? ⟨gb119, 3, none⟩ = some (.slice A0_3 l0_3.length c0_3) ∧ w'.cell? (ad143.add (x7_2).toNat) = some (.slice (some ad144) (rd_L3 x6_27 x7_2).length c143_0) ∧ w'.cell? (ad144.add (a0_1).toNat) = some (.bool true)) (ds := []) #[false, false, false, false, false, false, false, false] (by kernel_rfl) rfl rfl ⟨(blk_cell BK119.out 0).trans rfl, (blk_cell BK119.out 1).trans rfl, (blk_cell BK119.out 2).trans rfl, (blk_cell BK119.out 3).trans rfl, hx143_0, hx144_0⟩ (fun hHeld => ?_); refine with_tabW dfa_Words.tab20 dfa_Words.bits20 (fun HT_ HW_ => ?_)
         generalize wc.drew = w69 at HO_5 HO_6 BK119 HB HL143_0 HR143_0 hx143_0 hx144_0 hHeld ⊢
         refine pure_ (i := 0) (N := some 82) (v := ?_) (a' := ?_) #[true, false, false, false, false, false, false, false] rfl rfl (any_of HT_.out (by kernel_rfl)) (fun _ _ _ h => h) (Or.inl ⟨by rfl, ?_⟩) ?_ ?_
         rotate_left
         (focus
         intro w'
         go_simp
         with_reducible rfl
         )
         rotate_left
         (focus
         simp only [Act.put, sA, sB, sC, i64_w, i32_w]
         rfl
         )
         refine pure_ (i := 1) (N := some 83) (v := ?_) (a' := ?_) #[true, true, false, false, false, false, false, false] rfl rfl (any_of HT_.out (by kernel_rfl)) (fun _ _ _ h => h) (Or.inl ⟨by rfl, ?_⟩) ?_ ?_
         rotate_left
         (focus
         intro w'
         go_simp
         with_reducible rfl
         )
         rotate_left
         (focus
         simp only [Act.put, sA, sB, sC, i64_w, i32_w]
         rfl
         )
         refine pure_ (i := 2) (N := some 84) (v := ?_) (a' := ?_) #[true, true, true, false, false, false, false, false] rfl rfl (any_of HT_.out (by kernel_rfl)) (fun _ _ _ h => h) (Or.inl ⟨by rfl, ?_⟩) ?_ ?_
         rotate_left
         (focus
         intro w'
         go_simp
         with_reducible rfl
         )
         rotate_left
         (focus
         simp only [Act.put, sA, sB, sC, i64_w, i32_w]
         rfl
         )
         refine pure_ (i := 4) (N := some 86) (v := ?_) (a' := ?_) #[true, true, true, false, true, false, false, false] rfl rfl (any_of HT_.out (by kernel_rfl)) (fun _ _ _ h => h) (Or.inl ⟨by rfl, ?_⟩) ?_ ?_
         rotate_left
         (focus
         intro w'
         go_simp
         with_reducible rfl
         )
         rotate_left
         (focus
         simp only [Act.put, sA, sB, sC, i64_w, i32_w]
         rfl
         )
         refine take_ (i := 3) (N := some 85) (v := ?_) (a' := ?_) #[true, true, true, true, true, false, false, false] rfl rfl (take_ofW HT_.out HW_.out (by kernel_rfl)) (fun _ _ _ h => h) (Or.inl ⟨by rfl, ?_⟩) hHeld ?_ ?_
         rotate_left
         (focus
         rintro w' ⟨s0, s1, s2, s3, s4, s5⟩
         go_simp
         with_reducible rfl
         )
         rotate_left
         (focus
         simp only [Act.put, sA, sB, sC, i64_w, i32_w]
         rfl
         )
         refine take_ (i := 5) (N := some 87) (v := ?_) (a' := ?_) #[true, true, true, true, true, true, false, false] rfl rfl (take_ofW HT_.out HW_.out (by kernel_rfl)) (fun _ _ _ h => h) (Or.inl ⟨by rfl, ?_⟩) hHeld ?_ ?_
         rotate_left
         (focus
         rintro w' ⟨s0, s1, s2, s3, s4, s5⟩
         go_simp
         with_reducible rfl
         )
         rotate_left
         (focus
         simp only [Act.put, sA, sB, sC, i64_w, i32_w]
         rfl
         )
         refine pure_ (i := 6) (N := some 88) (v := ?_) (a' := ?_) #[true, true, true, true, true, true, true, false] rfl rfl (any_of HT_.out (by kernel_rfl)) (fun _ _ _ h => h) (Or.inl ⟨by rfl, ?_⟩) ?_ ?_
         rotate_left
         (focus
         intro w'
         go_simp
         with_reducible rfl
         )
         rotate_left
         (focus
         simp only [Act.put, sA, sB, sC, i64_w, i32_w]
         rfl
         )
         refine take_ (i := 7) (N := some 89) (v := ?_) (a' := ?_) #[true, true, true, true, true, true, true, true] rfl rfl (take_ofW HT_.out HW_.out (by kernel_rfl)) (fun _ _ _ h => h) (Or.inl ⟨by rfl, ?_⟩) hHeld ?_ ?_
         rotate_left
         (focus
         rintro w' ⟨s0, s1, s2, s3, s4, s5⟩
         go_simp
         with_reducible rfl
         )
         rotate_left
         (focus
         simp only [Act.put, sA, sB, sC, i64_w, i32_w]
         rfl
         )
         refine done_ (done_of HT_.out (by kernel_rfl)) ?_
         try go_wp2
         have n0_ := aM (Kd.R_drew HO_5.out)
         have n1_ := aM (Kd.N_drew HO_6.out)
         have n2_ := aM (Kd.V_drew HL143_0.out)
         have n3_ := aM (blk_drew BK119.out)
         have n4_ := aM (Kd.C_drew HR143_0.out)
         have n5_ := aM (below_drew1 HB.out)
         clear HO_5
         clear HO_6
         clear HL143_0
         clear BK119
         clear HR143_0
         clear HB
         have HO_5 := n0_
         have HO_6 := n1_
         have HL143_0 := n2_
         have BK119 := n3_
         have HR143_0 := n4_
         have HB := n5_
         clear n0_ n1_ n2_ n3_ n4_ n5_
         refine start_ (n := 11) (S := fun w' => w'.cell? ⟨gb119, 0, none⟩ = some (.int .i64 a0_0) ∧ w'.cell? ⟨gb119, 1, none⟩ = some (.int .i64 a0_1) ∧ w'.cell? ⟨gb119, 2, none⟩ = some (.slice A0_2 l0_2.length c0_2) ∧ w'.cell? ⟨gb119, 3, none⟩ = some (.slice A0_3 l0_3.length c0_3)) (ds := []) #[false, false, false, false, false, false, false, false, false, false, false] (by kernel_rfl) rfl rfl ⟨(blk_cell BK119.out 0).trans rfl, (blk_cell BK119.out 1).trans rfl, (blk_cell BK119.out 2).trans rfl, (blk_cell BK119.out 3).trans rfl⟩ (fun hHeld => ?_); refine with_tabW dfa_Words.tab21 dfa_Words.bits21 (fun HT_ HW_ => ?_)
         generalize w69.drew = w71 at HO_5 HO_6 HL143_0 BK119 HR143_0 HB hHeld ⊢
         refine pure_ (i := 1) (N := some 91) (v := ?_) (a' := ?_) #[false, true, false, false, false, false, false, false, false, false, false] rfl rfl (any_of HT_.out (by kernel_rfl)) (fun _ _ _ h => h) (Or.inl ⟨by rfl, ?_⟩) ?_ ?_
         rotate_left
         (focus
         intro w'
         go_simp
         with_reducible rfl
         )
         rotate_left
         (focus
         simp only [Act.put, sA, sB, sC, i64_w, i32_w]
         rfl
         )
         refine pure_ (i := 2) (N := some 92) (v := ?_) (a' := ?_) #[false, true, true, false, false, false, false, false, false, false, false] rfl rfl (any_of HT_.out (by kernel_rfl)) (fun _ _ _ h => h) (Or.inl ⟨by rfl, ?_⟩) ?_ ?_
         rotate_left
         (focus
         intro w'
         go_simp
         with_reducible rfl
         )
         rotate_left
         (focus
         simp only [Act.put, sA, sB, sC, i64_w, i32_w]
         rfl
         )
         refine pure_ (i := 3) (N := some 93) (v := ?_) (a' := ?_) #[false, true, true, true, false, false, false, false, false, false, false] rfl rfl (any_of HT_.out (by kernel_rfl)) (fun _ _ _ h => h) (Or.inl ⟨by rfl, ?_⟩) ?_ ?_
         rotate_left
         (focus
         intro w'
         go_simp
         with_reducible rfl
         )
         rotate_left
         (focus
         simp only [Act.put, sA, sB, sC, i64_w, i32_w]
         rfl
         )
         refine pure_ (i := 4) (N := some 94) (v := ?_) (a' := ?_) #[false, true, true, true, true, false, false, false, false, false, false] rfl rfl (any_of HT_.out (by kernel_rfl)) (fun _ _ _ h => h) (Or.inl ⟨by rfl, ?_⟩) ?_ ?_
         rotate_left
         (focus
         intro w'
         go_simp
         with_reducible rfl
         )
         rotate_left
         (focus
         simp only [Act.put, sA, sB, sC, i64_w, i32_w]
         rfl
         )
         refine pure_ (i := 6) (N := some 96) (v := ?_) (a' := ?_) #[false, true, true, true, true, false, true, false, false, false, false] rfl rfl (any_of HT_.out (by kernel_rfl)) (fun _ _ _ h => h) (Or.inl ⟨by rfl, ?_⟩) ?_ ?_
         rotate_left
         (focus
         intro w'
         go_simp
         with_reducible rfl
         )
         rotate_left
         (focus
         simp only [Act.put, sA, sB, sC, i64_w, i32_w]
         rfl
         )
         refine pure_ (i := 8) (N := some 98) (v := ?_) (a' := ?_) #[false, true, true, true, true, false, true, false, true, false, false] rfl rfl (any_of HT_.out (by kernel_rfl)) (fun _ _ _ h => h) (Or.inl ⟨by rfl, ?_⟩) ?_ ?_
         rotate_left
         (focus
         intro w'
         go_simp
         with_reducible rfl
         )
         rotate_left
         (focus
         simp only [Act.put, sA, sB, sC, i64_w, i32_w]
         rfl
         )
         refine take_ (i := 0) (N := some 90) (v := ?_) (a' := ?_) #[true, true, true, true, true, false, true, false, true, false, false] rfl rfl (take_ofW HT_.out HW_.out (by kernel_rfl)) (fun _ _ _ h => h) (Or.inl ⟨by rfl, ?_⟩) hHeld ?_ ?_
         rotate_left
         (focus
         rintro w' ⟨s0, s1, s2, s3⟩
         go_simp
         with_reducible rfl
         )
         rotate_left
         (focus
         simp only [Act.put, sA, sB, sC, i64_w, i32_w]
         rfl
         )
         refine take_ (i := 7) (N := some 97) (v := ?_) (a' := ?_) #[true, true, true, true, true, false, true, true, true, false, false] rfl rfl (take_ofW HT_.out HW_.out (by kernel_rfl)) (fun _ _ _ h => h) (Or.inl ⟨by rfl, ?_⟩) hHeld ?_ ?_
         rotate_left
         (focus
         rintro w' ⟨s0, s1, s2, s3⟩
         go_simp
         with_reducible rfl
         )
         rotate_left
         (focus
         simp only [Act.put, sA, sB, sC, i64_w, i32_w]
         rfl
         )
         refine one_ (i := 5) (N := some 95) #[true, true, true, true, true, true, true, true, true, false, false] rfl rfl (one_of HT_.out (by kernel_rfl)) (by decide) (fun K hK => ?_)
         refine R_make0_step (Kd.int .u8) _ 5 (by rfl) (N := 95) rfl 56 _ _ rfl x7_2 rfl rfl Try.underlying56 (.int .u8 0) 1 info5 rfl (by decide) (by omega) 0 (ok := fun _ => True) (okp := fun _ => True) rfl (fun _ hk => hk) trivial (of_decide_eq_true (by assumption)) (Nat.le_trans (Nat.mul_le_mul_right _ (of_decide_eq_true (by assumption) : x7_2.toNat ≤ 281474976710656)) (by omega)) (Below.refl _ _) (Nat.le_refl _) ?_
         intro v146 w72 ho73 hb hg_ hnew_
         clear hg_ hnew_
         (first | rw [← Ny145.out] at ho73 | (simp only [Int.reduceToNat] at ho73; rw [← Ny145.out] at ho73))
         have n0_ := aM (Kd.R_below (uR HO_5.out) hb)
         have n1_ := aM (Kd.N_elder' (by (with_reducible repeat (first | apply Kd.N_alloc | apply Kd.N_drewN | apply Kd.N_drew)); exact HO_6.out) (Kd.R_base ho73) hb)
         have n2_ := aM (Kd.V_elder' (by (with_reducible repeat (first | apply Kd.V_alloc | apply Kd.V_drewN | apply Kd.V_drew)); exact HL143_0.out) (Kd.R_base ho73) hb)
         have n3_ := aM (Kd.R_lower ho73 (below_size (by repeat (first | (with_reducible first | exact HB.out | apply bA | apply bN | apply bD | refine bS ?_ ‹_›) | exact HB.out))))
         have n4_ := aM (blk_below (uB BK119.out) hb)
         have n5_ := aM (Kd.C_below (by repeat (first | (with_reducible exact HR143_0.out) | (with_reducible refine Kd.C_alloc ?_ _) | (with_reducible refine Kd.C_drewN ?_ _) | (with_reducible refine Kd.C_drew ?_) | exact HR143_0.out)) hb)
         have n6_ := aM (below_step (by repeat (first | (with_reducible first | exact HB.out | apply bA | apply bN | apply bD | refine bS ?_ ‹_›) | exact HB.out)) hb)
         clear HO_5
         clear HO_6
         clear HL143_0
         clear BK119
         clear HR143_0
         clear HB
         have HO_5 := n0_
         have HO_6 := n1_
         have HL143_0 := n2_
         have HO147 := n3_
         have BK119 := n4_
         have HR143_0 := n5_
         have HB := n6_
         clear n0_ n1_ n2_ n3_ n4_ n5_ n6_
         clear hb ho73
         obtain ⟨Ao74, co74, eo74⟩ := Kd.R_slice HO_5.out
         (first | subst eo74 | (injection eo74 with f1_ f2_ f3_; have f4_ := f1_.symm; have f5_ := f3_.symm; clear f1_ f2_ f3_; subst f4_; subst f5_))
         obtain ⟨Ao75, co75, eo75⟩ := Kd.R_slice HO147.out
         (first | subst eo75 | (injection eo75 with f1_ f2_ f3_; have f4_ := f1_.symm; have f5_ := f3_.symm; clear f1_ f2_ f3_; subst f4_; subst f5_))
         refine hK.out _ _ ⟨(blk_cell BK119.out 0).trans rfl, (blk_cell BK119.out 1).trans rfl, (blk_cell BK119.out 2).trans rfl, (blk_cell BK119.out 3).trans rfl⟩ (fun hHeld => ?_)
         clear hK K
         refine norm_ (a' := ?_) ?_ ?_
         rotate_left
         (focus
         show Act.put _ (some 95) _ = _
         simp only [Act.put, sA, sB, sC, i64_w, i32_w]
         rfl
         )
         refine one_ (i := 9) (N := some 99) #[true, true, true, true, true, true, true, true, true, true, false] rfl rfl (one_of HT_.out (by kernel_rfl)) (by decide) (fun K hK => ?_)
         refine goes_ Try.func43 (by kernel_rfl) rfl #[.agg #[.int .i64 a0_0, .int .i64 a0_1, .slice A0_2 l0_2.length c0_2, .slice A0_3 l0_3.length c0_3], .slice (some ad143) x6_27.length co70, .int .i64 a1, .slice Ao74 x5_2.length co74, .slice Ao75 y145.length co75, .int .i64 a0_1, .int .i64 x7_2] (by rfl) rfl rfl (by (try simp only [List.map_toArray, List.map_cons, List.map_nil]); first | done | rfl | (simp only [List.length_drop, List.length_take]; rfl)) ?_
         with_reducible refine (dfa_collect.calls kj27 a0_0 a0_1 _ _ l0_2 _ _ l0_3 _ _ x6_27 a1 (fun k_ => some k_ = (.slice Ao74 x5_2.length co74 : Value).ownBlock) (.slice Ao74 x5_2.length co74) x5_2 (fun k_ => some k_ = (.slice Ao75 y145.length co75 : Value).ownBlock) (.slice Ao75 y145.length co75) y145 a0_1 x7_2 t148 t151 w _ ?side1 ?side2 ?side3 ?side4 ?side5 ?side6 ?side7 ?side8 ?side9 A68.out).mono ?_
         (case side1 => repeat (first | (with_reducible first | exact HB.out | apply bA | apply bN | apply bD | refine bS ?_ ‹_›) | exact HB.out))
         (case side2 => exact Kd.C_kept_came Kd.heap_bool HR0_2.out (by repeat (first | (with_reducible first | exact HB.out | apply bA | apply bN | apply bD | refine bS ?_ ‹_›) | exact HB.out)) (fun k_ hs_ => Or.elim hs_ (fun e_ => (fun e_ => Kd.R_base HO_5.out k_ e_.symm) e_) (fun e_ => (fun e_ => Kd.R_base HO147.out k_ e_.symm) e_)))
         (case side3 => exact HC0_2.out)
         (case side4 => exact Kd.C_kept_came (Kd.heap_slice 3 (Kd.heap_int .i64)) HR0_3.out (by repeat (first | (with_reducible first | exact HB.out | apply bA | apply bN | apply bD | refine bS ?_ ‹_›) | exact HB.out)) (fun k_ hs_ => Or.elim hs_ (fun e_ => (fun e_ => Kd.R_base HO_5.out k_ e_.symm) e_) (fun e_ => (fun e_ => Kd.R_base HO147.out k_ e_.symm) e_)))
         (case side5 => exact HC0_3.out)
         (case side6 => exact Kd.C_kept_ownV (base := 0) (Kd.N_V (HO_6.out)) (fun k_ hk_ hs_ => Or.elim hs_ (fun e_ => (hk_.1.1) e_) (fun e_ => (hk_.2) e_)))
         (case side7 => exact (Kd.N_reads' HO_6.out).2.1)
         (case side8 => exact Kd.R_tight rfl HO_5.out)
         (case side9 => exact Kd.R_tight rfl HO147.out)
         rintro e w76 ⟨v149, rfl, ho0, hy0, hb, hkp⟩
         refine ⟨_, rfl, ?_⟩
         have n0_ := aM (Kd.N_mono (ok' := fun k_ => some k_ ≠ (.slice Ao75 y145.length co75 : Value).ownBlock ∧ k_ ≠ gb119 ∧ some k_ ≠ (v149 : Value).ownBlock) (Kd.N_keptB (HO_6.out) hkp (fun k_ hk_ hs_ => Or.elim hs_ (fun e_ => (hk_.1.1) e_) (fun e_ => (hk_.2) e_))) (fun k_ hk_ => ⟨hk_.1.2, hk_.1.1.2, fun e_ => Or.elim (ho0.1 k_ e_.symm) (fun hs_ => hk_.2.1 hs_) (fun hn_ => Nat.not_le.2 hk_.2.2 hn_)⟩))
         have n1_ := aM (blk_kept (uB BK119.out) hkp (fun hs_ => Or.elim hs_ (fun e_ => (fun e_ => (Kd.R_ne HO_5.out BK119.out (by decide)) e_) e_) (fun e_ => (fun e_ => (Kd.R_ne HO147.out BK119.out (by decide)) e_) e_)))
         have n2_ := aM (Kd.V_mono (ok' := fun k_ => some k_ ≠ (.slice (some ad143) x6_27.length co70 : Value).ownBlock ∧ some k_ ≠ (.slice Ao75 y145.length co75 : Value).ownBlock ∧ k_ ≠ gb119 ∧ some k_ ≠ (v149 : Value).ownBlock) (Kd.V_keptB (HL143_0.out) hkp (fun k_ hk_ hs_ => Or.elim hs_ (fun e_ => (hk_.1.1.1) e_) (fun e_ => (hk_.2) e_))) (fun k_ hk_ => ⟨hk_.1.1.2, hk_.1.2, hk_.1.1.1.2, fun e_ => Or.elim (ho0.1 k_ e_.symm) (fun hs_ => hk_.2.1 hs_) (fun hn_ => Nat.not_le.2 hk_.2.2 hn_)⟩))
         have n3_ := aM (Kd.R_reok rfl hy0 (fun k_ e_ => HO147.out.1 k_ e_))
         have n4_ := aM (Kd.R_mono (ok' := fun k_ => True) ho0 (fun k_ hk_ => trivial))
         have n5_ := aM (hb)
         have n6_ := aM ((Kd.V_reads' (Kd.V_mono (ok' := fun k_ => some k_ ≠ (.slice (some ad143) x6_27.length co70 : Value).ownBlock ∧ some k_ ≠ (.slice Ao75 y145.length co75 : Value).ownBlock ∧ k_ ≠ gb119 ∧ some k_ ≠ (v149 : Value).ownBlock) (Kd.V_keptB (HL143_0.out) hkp (fun k_ hk_ hs_ => Or.elim hs_ (fun e_ => (hk_.1.1.1) e_) (fun e_ => (hk_.2) e_))) (fun k_ hk_ => ⟨hk_.1.1.2, hk_.1.2, hk_.1.1.1.2, fun e_ => Or.elim (ho0.1 k_ e_.symm) (fun hs_ => hk_.2.1 hs_) (fun hn_ => Nat.not_le.2 hk_.2.2 hn_)⟩))).2.2)
         clear HO_6
         clear BK119
         clear HL143_0
         clear HO147
         clear HB
         clear HR143_0
         clear HO_5
         have HO_6 := n0_
         have BK119 := n1_
         have HL143_0 := n2_
         have HO147 := n3_
         have HO150 := n4_
         have HB := n5_
         have HR143_0 := n6_
         clear n0_ n1_ n2_ n3_ n4_ n5_ n6_
         (try clear hb)
         (try clear hkp)
         (try clear ho0)
         (try clear hy0)
         refine hK.out _ _ ⟨(blk_cell BK119.out 0).trans rfl, (blk_cell BK119.out 1).trans rfl, (blk_cell BK119.out 2).trans rfl, (blk_cell BK119.out 3).trans rfl⟩ (fun hHeld => ?_)
         clear hK K
         refine norm_ (a' := ?_) ?_ ?_
         rotate_left
         (focus
         show Act.put _ (some 99) _ = _
         simp only [Act.put, sA, sB, sC, i64_w, i32_w]
         rfl
         )
         refine pure_ (i := 10) (N := some 5) (v := ?_) (a' := ?_) #[true, true, true, true, true, true, true, true, true, true, true] rfl rfl (any_of HT_.out (by kernel_rfl)) (fun _ _ _ h => h) (Or.inl ⟨by rfl, ?_⟩) ?_ ?_
         rotate_left
         (focus
         intro w'
         go_simp
         with_reducible rfl
         )
         rotate_left
         (focus
         simp only [Act.put, sA, sB, sC, i64_w, i32_w]
         rfl
         )
         refine done_ (done_of HT_.out (by kernel_rfl)) ?_
         try go_wp2
         go_roundg kj27
         case measure => have := HJ2.out; have := HK2.out; have := HJ22.out; have := HJ27.out; omega
         case rel => exact ⟨(t148), (x6_27), (wrap64 (x7_2 + 1)), (by first | rfl | (simp; done) | (simp [*]; done)), H', ⟨by have := HJ2.out; have := HK2.out; have := HJ22.out; have := HJ27.out; omega⟩, ⟨by (with_reducible repeat (first | apply Kd.R_alloc | apply Kd.R_drewN | apply Kd.R_drew)); exact HO150.out⟩, ⟨by (with_reducible repeat (first | apply Kd.N_alloc | apply Kd.N_drewN | apply Kd.N_drew)); exact Kd.N_mono HO_6.out (fun _ hk => ⟨hk.2.2, hk.2.1⟩)⟩, ⟨by (with_reducible repeat (first | refine kN ?_ | refine kD ?_ | refine kA ?_)); exact BK119.out⟩, ⟨by repeat (first | (with_reducible first | exact HB.out | apply bA | apply bN | apply bD | refine bS ?_ ‹_›) | exact HB.out)⟩⟩
         )
         (focus
         rw [if_neg c67] at H
         exact absurd H (by simp)
         )
         )
         (focus
         replace c66 := Bool.eq_false_iff.mpr c66
         subst c66
         have H1 : (dfa_Words.l0 kj27 a1 x5_2 x6_27 (wrap64 (x7_2 + 1)) a0_0 a0_1 l0_2 l0_3) = some r := by rw [if_neg (show ¬ (false = true) by decide)] at H; exact H
         clear H
         have H := H1
         clear H1
         have H' := Aside0.mk H
         clear H
         try go_wp2
         have n0_ := aM (Kd.R_drew HO_5.out)
         have n1_ := aM (Kd.N_drew HO_6.out)
         have n2_ := aM (blk_drew BK119.out)
         have n3_ := aM (below_drew1 HB.out)
         clear HO_5
         clear HO_6
         clear BK119
         clear HB
         have HO_5 := n0_
         have HO_6 := n1_
         have BK119 := n2_
         have HB := n3_
         clear n0_ n1_ n2_ n3_
         obtain ⟨Ao78, co78, eo78⟩ := Kd.N_slice HO_6.out
         (first | subst eo78 | (injection eo78 with f1_ f2_ f3_; have f4_ := f1_.symm; have f5_ := f3_.symm; clear f1_ f2_ f3_; subst f4_; subst f5_))
         have p143 : 0 ≤ (x7_2 : Int) := of_decide_eq_true (by assumption)
         have q143 : x7_2 < (x6_27.length : Int) := of_decide_eq_true (by assumption)
         obtain ⟨ad143, A143_0, c143_0, e143, hx143_0, hl143_0, hi143_0⟩ := at_L3 (Kd.N_reads' HO_6.out).2.2 x7_2 p143 q143
         cases e143
         obtain ⟨ce143, hce143, hMe143, hcc143⟩ := Kd.N_get HO_6.out [] x7_2 p143 (by first | exact q143 | exact of_decide_eq_true (by assumption) | (have e_ := (Kd.N_reads' HO_6.out).1; omega))
         obtain ⟨ua143_0, uc143_0, rfl, ul143_0, ge143_0⟩ := Kd.FK_slice_open hMe143
         have hv143_0 := hcc143 0 _ rfl
         rw [Nat.add_zero, show ((Kd.slice 4 Kd.bool)).sz = 1 from rfl, Nat.mul_one] at hv143_0
         replace hv143_0 := Option.some.inj (hv143_0.symm.trans hx143_0)
         injection hv143_0 with hva_ hvn_ hvc_
         rw [hva_] at ge143_0
         rw [hvc_] at ul143_0
         have HL143_0 := aM (show Kd.V Kd.bool 4 _ w.heap.size _ _ (rd_L3 x6_27 x7_2) from Kd.V_mk ul143_0 ge143_0)
         clear hva_ hvn_ hvc_ ge143_0 ul143_0
         clear hcc143 hce143
         have HR143_0 := Aside0.mk hi143_0
         have HC143_0 := Aside0.mk hl143_0
         clear hi143_0 hl143_0
         replace p143 := eq_true p143
         replace q143 := eq_true q143
         have p144 : 0 ≤ (a0_1 : Int) := of_decide_eq_true (by assumption)
         have q144 : a0_1 < ((rd_L3 x6_27 x7_2).length : Int) := of_decide_eq_true (by assumption)
         obtain ⟨ad144, e144, hx144_0⟩ := Kd.at_bool (by repeat (first | (with_reducible exact HR143_0.out) | (with_reducible refine Kd.C_alloc ?_ _) | (with_reducible refine Kd.C_drewN ?_ _) | (with_reducible refine Kd.C_drew ?_) | exact HR143_0.out)) a0_1 p144 q144
         (try rw [← Nbq65.out] at hx144_0)
         cases e144
         replace p144 := eq_true p144
         replace q144 := eq_true q144
         refine start_ (n := 8) (S := fun w' => w'.cell? ⟨gb119, 0, none⟩ = some (.int .i64 a0_0) ∧ w'.cell? ⟨gb119, 1, none⟩ = some (.int .i64 a0_1) ∧ w'.cell? ⟨gb119, 2, none⟩ = some (.slice A0_2 l0_2.length c0_2) ∧ w'.cell? ⟨gb119, 3, none⟩ = some (.slice A0_3 l0_3.length c0_3) ∧ w'.cell? (ad143.add (x7_2).toNat) = some (.slice (some ad144) (rd_L3 x6_27 x7_2).length c143_0) ∧ w'.cell? (ad144.add (a0_1).toNat) = some (.bool false)) (ds := []) #[false, false, false, false, false, false, false, false] (by kernel_rfl) rfl rfl ⟨(blk_cell BK119.out 0).trans rfl, (blk_cell BK119.out 1).trans rfl, (blk_cell BK119.out 2).trans rfl, (blk_cell BK119.out 3).trans rfl, hx143_0, hx144_0⟩ (fun hHeld => ?_); refine with_tabW dfa_Words.tab20 dfa_Words.bits20 (fun HT_ HW_ => ?_)
         generalize wc.drew = w77 at HO_5 HO_6 BK119 HB HL143_0 HR143_0 hx143_0 hx144_0 hHeld ⊢
         refine pure_ (i := 0) (N := some 82) (v := ?_) (a' := ?_) #[true, false, false, false, false, false, false, false] rfl rfl (any_of HT_.out (by kernel_rfl)) (fun _ _ _ h => h) (Or.inl ⟨by rfl, ?_⟩) ?_ ?_
         rotate_left
         (focus
         intro w'
         go_simp
         with_reducible rfl
         )
         rotate_left
         (focus
         simp only [Act.put, sA, sB, sC, i64_w, i32_w]
         rfl
         )
         refine pure_ (i := 1) (N := some 83) (v := ?_) (a' := ?_) #[true, true, false, false, false, false, false, false] rfl rfl (any_of HT_.out (by kernel_rfl)) (fun _ _ _ h => h) (Or.inl ⟨by rfl, ?_⟩) ?_ ?_
         rotate_left
         (focus
         intro w'
         go_simp
         with_reducible rfl
         )
         rotate_left
         (focus
         simp only [Act.put, sA, sB, sC, i64_w, i32_w]
         rfl
         )
         refine pure_ (i := 2) (N := some 84) (v := ?_) (a' := ?_) #[true, true, true, false, false, false, false, false] rfl rfl (any_of HT_.out (by kernel_rfl)) (fun _ _ _ h => h) (Or.inl ⟨by rfl, ?_⟩) ?_ ?_
         rotate_left
         (focus
         intro w'
         go_simp
         with_reducible rfl
         )
         rotate_left
         (focus
         simp only [Act.put, sA, sB, sC, i64_w, i32_w]
         rfl
         )
         refine pure_ (i := 4) (N := some 86) (v := ?_) (a' := ?_) #[true, true, true, false, true, false, false, false] rfl rfl (any_of HT_.out (by kernel_rfl)) (fun _ _ _ h => h) (Or.inl ⟨by rfl, ?_⟩) ?_ ?_
         rotate_left
         (focus
         intro w'
         go_simp
         with_reducible rfl
         )
         rotate_left
         (focus
         simp only [Act.put, sA, sB, sC, i64_w, i32_w]
         rfl
         )
         refine take_ (i := 3) (N := some 85) (v := ?_) (a' := ?_) #[true, true, true, true, true, false, false, false] rfl rfl (take_ofW HT_.out HW_.out (by kernel_rfl)) (fun _ _ _ h => h) (Or.inl ⟨by rfl, ?_⟩) hHeld ?_ ?_
         rotate_left
         (focus
         rintro w' ⟨s0, s1, s2, s3, s4, s5⟩
         go_simp
         with_reducible rfl
         )
         rotate_left
         (focus
         simp only [Act.put, sA, sB, sC, i64_w, i32_w]
         rfl
         )
         refine take_ (i := 5) (N := some 87) (v := ?_) (a' := ?_) #[true, true, true, true, true, true, false, false] rfl rfl (take_ofW HT_.out HW_.out (by kernel_rfl)) (fun _ _ _ h => h) (Or.inl ⟨by rfl, ?_⟩) hHeld ?_ ?_
         rotate_left
         (focus
         rintro w' ⟨s0, s1, s2, s3, s4, s5⟩
         go_simp
         with_reducible rfl
         )
         rotate_left
         (focus
         simp only [Act.put, sA, sB, sC, i64_w, i32_w]
         rfl
         )
         refine pure_ (i := 6) (N := some 88) (v := ?_) (a' := ?_) #[true, true, true, true, true, true, true, false] rfl rfl (any_of HT_.out (by kernel_rfl)) (fun _ _ _ h => h) (Or.inl ⟨by rfl, ?_⟩) ?_ ?_
         rotate_left
         (focus
         intro w'
         go_simp
         with_reducible rfl
         )
         rotate_left
         (focus
         simp only [Act.put, sA, sB, sC, i64_w, i32_w]
         rfl
         )
         refine take_ (i := 7) (N := some 89) (v := ?_) (a' := ?_) #[true, true, true, true, true, true, true, true] rfl rfl (take_ofW HT_.out HW_.out (by kernel_rfl)) (fun _ _ _ h => h) (Or.inl ⟨by rfl, ?_⟩) hHeld ?_ ?_
         rotate_left
         (focus
         rintro w' ⟨s0, s1, s2, s3, s4, s5⟩
         go_simp
         with_reducible rfl
         )
         rotate_left
         (focus
         simp only [Act.put, sA, sB, sC, i64_w, i32_w]
         rfl
         )
         refine done_ (done_of HT_.out (by kernel_rfl)) ?_
         try go_wp2
         go_roundg kj27
         case measure => have := HJ2.out; have := HK2.out; have := HJ22.out; have := HJ27.out; omega
         case rel => exact ⟨(x5_2), (x6_27), (wrap64 (x7_2 + 1)), (by first | rfl | (simp; done) | (simp [*]; done)), H', ⟨by have := HJ2.out; have := HK2.out; have := HJ22.out; have := HJ27.out; omega⟩, ⟨by (with_reducible repeat (first | apply Kd.R_alloc | apply Kd.R_drewN | apply Kd.R_drew)); exact HO_5.out⟩, ⟨by (with_reducible repeat (first | apply Kd.N_alloc | apply Kd.N_drewN | apply Kd.N_drew)); exact HO_6.out⟩, ⟨by (with_reducible repeat (first | refine kN ?_ | refine kD ?_ | refine kA ?_)); exact BK119.out⟩, ⟨by repeat (first | (with_reducible first | exact HB.out | apply bA | apply bN | apply bD | refine bS ?_ ‹_›) | exact HB.out)⟩⟩
         )
         )
         (focus
         rw [if_neg c64] at H
         exact absurd H (by simp)
         )
         )
         (focus
         rw [if_neg c63] at H
         exact absurd H (by simp)
         )
         )
         (focus
         rw [if_neg c62] at H
         exact absurd H (by simp)
         )
         )
         (focus
         rw [if_neg c61] at H
         exact absurd H (by simp)
         )
       )
       (focus
       replace c27 := Bool.eq_false_iff.mpr c27
       subst c27
       have H1 : (some x5_2) = some r := by rw [if_neg (show ¬ (false = true) by decide)] at H; exact H
       clear H
       have H := H1
       clear H1
       obtain rfl := Option.some.inj H
       go_wp2
       go_ret
       exact ⟨_, by first | rfl | (simp [errW_none, errW_some] <;> rfl) | (simp [*, errW_none, errW_some] <;> rfl), by (with_reducible repeat (first | apply Kd.R_alloc | apply Kd.R_drewN | apply Kd.R_drew)); exact HO_5.out, by repeat (first | (with_reducible first | exact HB.out | apply bA | apply bN | apply bD | refine bS ?_ ‹_›) | exact HB.out)⟩
       )
   )
   (focus
   rw [if_neg c15] at H
   exact absurd H (by simp)
   )
   )
end Go.Proofs.Ytpjbmgoagehjkaa.PDfaProducts
