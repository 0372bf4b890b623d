import Derived.Test.YtpjbmgoagehjkaaZDfaInfinitex0
import Derived.Test.YtpjbmgoagehjkaaZDfaInfinitex1
import Derived.Test.YtpjbmgoagehjkaaZDfaInfinitex7
namespace Go.Proofs.Ytpjbmgoagehjkaa.PDfaInfinite
open Go.RowKit Go.Proofs.YtpjbmgoagehjkaaH Go.Proofs.YtpjbmgoagehjkaaW.PrintWords Go.Proofs.YtpjbmgoagehjkaaW.PrintLast Go.Proofs.YtpjbmgoagehjkaaW.PrintMore
attribute [local go_sem] max2_int min2_int max_two min_two max_three min_three max_four min_four   -- for this text's walks alone
set_option linter.unusedVariables false
set_option linter.unusedSimpArgs false
/-! ### dfa_Infinite: function 38 -/
mutual
def dfa_Infinite.l0 : Nat → Int → List Int → List Bool → Bool → Int → Int → List Bool → List (List Int) → Option (Bool)
 | 0, _, _, _, _, _, _, _, _ => none
 | k + 1, x3, x4, x8, x9, x234000, x234001, x234002, x234003 => if x9 = true then (dfa_Infinite.l1 k x3 x4 x8 false (x8.length : Int) 0 x234000 x234001 x234002 x234003) else (if 0 ≤ x3 then (if (x3 : Int).toNat ≤ 281474976710656 then (dfa_Infinite.l3 k x8 (List.replicate (x3 : Int).toNat false) x4 (x4.length : Int) 0 x234000 x234001 x234002 x234003) else (none)) else (none))
def dfa_Infinite.l1 : Nat → Int → List Int → List Bool → Bool → Int → Int → Int → Int → List Bool → List (List Int) → Option (Bool)
 | 0, _, _, _, _, _, _, _, _, _, _ => none
 | k + 1, x3, x4, x8, x9, x42, x43, x234000, x234001, x234002, x234003 => if x43 < x42 then (if 0 ≤ x43 then (if x43 < (x234003.length : Int) then (dfa_Infinite.l2 k x3 x4 x8 x9 x43 x42 x43 (rd_L1 x234003 x43) ((rd_L1 x234003 x43).length : Int) 0 x234000 x234001 x234002 x234003) else (none)) else (none)) else (dfa_Infinite.l0 k x3 x4 x8 x9 x234000 x234001 x234002 x234003)
def dfa_Infinite.l2 : Nat → Int → List Int → List Bool → Bool → Int → Int → Int → List Int → Int → Int → Int → Int → List Bool → List (List Int) → Option (Bool)
 | 0, _, _, _, _, _, _, _, _, _, _, _, _, _, _ => none
 | k + 1, x3, x4, x8, x9, x10, x42, x43, x50, x51, x52, x234000, x234001, x234002, x234003 => if x52 < x51 then (if 0 ≤ x52 then (if x52 < (x50.length : Int) then (if 0 ≤ (rd x50 x52) then (if (rd x50 x52) < (x8.length : Int) then (if rdOf false x8 (rd x50 x52) = true then (if 0 ≤ x10 then (if x10 < (x8.length : Int) then (if rdOf false x8 x10 = true then (dfa_Infinite.l2 k x3 x4 x8 x9 x10 x42 x43 x50 x51 (wrap64 (x52 + 1)) x234000 x234001 x234002 x234003) else (dfa_Infinite.l2 k x3 x4 (x8.set (x10 : Int).toNat true) true x10 x42 x43 x50 x51 (wrap64 (x52 + 1)) x234000 x234001 x234002 x234003)) else (none)) else (none)) else (dfa_Infinite.l2 k x3 x4 x8 x9 x10 x42 x43 x50 x51 (wrap64 (x52 + 1)) x234000 x234001 x234002 x234003)) else (none)) else (none)) else (none)) else (none)) else (dfa_Infinite.l1 k x3 x4 x8 x9 x42 (wrap64 (x43 + 1)) x234000 x234001 x234002 x234003)
def dfa_Infinite.l3 : Nat → List Bool → List Bool → List Int → Int → Int → Int → Int → List Bool → List (List Int) → Option (Bool)
 | 0, _, _, _, _, _, _, _, _, _ => none
 | k + 1, x8, x13, x74, x75, x76, x234000, x234001, x234002, x234003 => if x76 < x75 then (if 0 ≤ x76 then (if x76 < (x74.length : Int) then (if 0 ≤ (rd x74 x76) then (if (rd x74 x76) < (x8.length : Int) then (if (rd x74 x76) < (x13.length : Int) then (dfa_Infinite.l3 k x8 (x13.set ((rd x74 x76) : Int).toNat (rdOf false x8 (rd x74 x76))) x74 x75 (wrap64 (x76 + 1)) x234000 x234001 x234002 x234003) else (none)) else (none)) else (none)) else (none)) else (none)) else (dfa_Infinite.l4 k x13 true x234000 x234001 x234002 x234003)
def dfa_Infinite.l4 : Nat → List Bool → Bool → Int → Int → List Bool → List (List Int) → Option (Bool)
 | 0, _, _, _, _, _, _ => none
 | k + 1, x13, x16, x234000, x234001, x234002, x234003 => if x16 = true then (dfa_Infinite.l5 k x13 false (x13.length : Int) 0 x234000 x234001 x234002 x234003) else (if 0 ≤ x234001 then (if x234001 < (x13.length : Int) then (some (rdOf false x13 x234001)) else (none)) else (none))
def dfa_Infinite.l5 : Nat → List Bool → Bool → Int → Int → Int → Int → List Bool → List (List Int) → Option (Bool)
 | 0, _, _, _, _, _, _, _, _ => none
 | k + 1, x13, x16, x90, x91, x234000, x234001, x234002, x234003 => if x91 < x90 then (if 0 ≤ x91 then (if x91 < (x13.length : Int) then (if rdOf false x13 x91 = true then (if x91 < (x234003.length : Int) then (dfa_Infinite.l6 k x13 x16 x91 false x90 x91 (rd_L1 x234003 x91) ((rd_L1 x234003 x91).length : Int) 0 x234000 x234001 x234002 x234003) else (none)) else (dfa_Infinite.l5 k x13 x16 x90 (wrap64 (x91 + 1)) x234000 x234001 x234002 x234003)) else (none)) else (none)) else (dfa_Infinite.l4 k x13 x16 x234000 x234001 x234002 x234003)
def dfa_Infinite.l6 : Nat → List Bool → Bool → Int → Bool → Int → Int → List Int → Int → Int → Int → Int → List Bool → List (List Int) → Option (Bool)
 | 0, _, _, _, _, _, _, _, _, _, _, _, _, _ => none
 | k + 1, x13, x16, x17, x18, x90, x91, x103, x104, x105, x234000, x234001, x234002, x234003 => if x105 < x104 then (if 0 ≤ x105 then (if x105 < (x103.length : Int) then (if x18 = true then (dfa_Infinite.l6 k x13 x16 x17 true x90 x91 x103 x104 (wrap64 (x105 + 1)) x234000 x234001 x234002 x234003) else (if 0 ≤ (rd x103 x105) then (if (rd x103 x105) < (x13.length : Int) then (dfa_Infinite.l6 k x13 x16 x17 (rdOf false x13 (rd x103 x105)) x90 x91 x103 x104 (wrap64 (x105 + 1)) x234000 x234001 x234002 x234003) else (none)) else (none))) else (none)) else (none)) else (if x18 = true then (dfa_Infinite.l5 k x13 x16 x90 (wrap64 (x91 + 1)) x234000 x234001 x234002 x234003) else (if 0 ≤ x17 then (if x17 < (x13.length : Int) then (dfa_Infinite.l5 k (x13.set (x17 : Int).toNat false) true x90 (wrap64 (x91 + 1)) x234000 x234001 x234002 x234003) else (none)) else (none)))
end
def dfa_Infinite.f (k : Nat) (a0_0 : Int) (a0_1 : Int) (l0_2 : List Bool) (l0_3 : List (List Int)) : Option (Bool) := (dfa_Validate.f k a0_0 a0_1 l0_2 l0_3).bind fun t234 => (if t234 = 0 then ((dfa_search.f k a0_0 a0_1 l0_2 l0_3).bind fun bt235 => (if 0 ≤ (l0_2.length : Int) then (if ((l0_2.length : Int) : Int).toNat ≤ 281474976710656 then (dfa_Infinite.l0 k (l0_2.length : Int) bt235.1 (copyL (List.replicate ((l0_2.length : Int) : Int).toNat false) l0_2) true a0_0 a0_1 l0_2 l0_3) else (none)) else (none))) else (some false))
theorem dfa_Infinite.mono_l : ∀ k, (∀ y0 y1 y2 y3 y4 y5 y6 y7, LeO (dfa_Infinite.l0 k y0 y1 y2 y3 y4 y5 y6 y7) (dfa_Infinite.l0 (k + 1) y0 y1 y2 y3 y4 y5 y6 y7)) ∧ (∀ y0 y1 y2 y3 y4 y5 y6 y7 y8 y9, LeO (dfa_Infinite.l1 k y0 y1 y2 y3 y4 y5 y6 y7 y8 y9) (dfa_Infinite.l1 (k + 1) y0 y1 y2 y3 y4 y5 y6 y7 y8 y9)) ∧ (∀ y0 y1 y2 y3 y4 y5 y6 y7 y8 y9 y10 y11 y12 y13, LeO (dfa_Infinite.l2 k y0 y1 y2 y3 y4 y5 y6 y7 y8 y9 y10 y11 y12 y13) (dfa_Infinite.l2 (k + 1) y0 y1 y2 y3 y4 y5 y6 y7 y8 y9 y10 y11 y12 y13)) ∧ (∀ y0 y1 y2 y3 y4 y5 y6 y7 y8, LeO (dfa_Infinite.l3 k y0 y1 y2 y3 y4 y5 y6 y7 y8) (dfa_Infinite.l3 (k + 1) y0 y1 y2 y3 y4 y5 y6 y7 y8)) ∧ (∀ y0 y1 y2 y3 y4 y5, LeO (dfa_Infinite.l4 k y0 y1 y2 y3 y4 y5) (dfa_Infinite.l4 (k + 1) y0 y1 y2 y3 y4 y5)) ∧ (∀ y0 y1 y2 y3 y4 y5 y6 y7, LeO (dfa_Infinite.l5 k y0 y1 y2 y3 y4 y5 y6 y7) (dfa_Infinite.l5 (k + 1) y0 y1 y2 y3 y4 y5 y6 y7)) ∧ (∀ y0 y1 y2 y3 y4 y5 y6 y7 y8 y9 y10 y11 y12, LeO (dfa_Infinite.l6 k y0 y1 y2 y3 y4 y5 y6 y7 y8 y9 y10 y11 y12) (dfa_Infinite.l6 (k + 1) y0 y1 y2 y3 y4 y5 y6 y7 y8 y9 y10 y11 y12))
 | 0 => ⟨fun _ _ _ _ _ _ _ _ r h => by simp [dfa_Infinite.l0] at h, fun _ _ _ _ _ _ _ _ _ _ r h => by simp [dfa_Infinite.l1] at h, fun _ _ _ _ _ _ _ _ _ _ _ _ _ _ r h => by simp [dfa_Infinite.l2] at h, fun _ _ _ _ _ _ _ _ _ r h => by simp [dfa_Infinite.l3] at h, fun _ _ _ _ _ _ r h => by simp [dfa_Infinite.l4] at h, fun _ _ _ _ _ _ _ _ r h => by simp [dfa_Infinite.l5] at h, fun _ _ _ _ _ _ _ _ _ _ _ _ _ r h => by simp [dfa_Infinite.l6] at h⟩
 | k + 1 => by
  obtain ⟨ih0, ih1, ih2, ih3, ih4, ih5, ih6⟩ := dfa_Infinite.mono_l k
  refine ⟨?_, ?_, ?_, ?_, ?_, ?_, ?_⟩
  (focus
  intro y0 y1 y2 y3 y4 y5 y6 y7
  unfold dfa_Infinite.l0
  repeat' first
  | (with_reducible exact ih0 _ _ _ _ _ _ _ _)
  | (with_reducible exact ih1 _ _ _ _ _ _ _ _ _ _)
  | (with_reducible exact ih2 _ _ _ _ _ _ _ _ _ _ _ _ _ _)
  | (with_reducible exact ih3 _ _ _ _ _ _ _ _ _)
  | (with_reducible exact ih4 _ _ _ _ _ _)
  | (with_reducible exact ih5 _ _ _ _ _ _ _ _)
  | (with_reducible exact ih6 _ _ _ _ _ _ _ _ _ _ _ _ _)
  | (with_reducible exact dfa_Validate.mono _ _ _ _ _)
  | (with_reducible exact dfa_search.mono _ _ _ _ _)
  | (with_reducible exact LeO.refl _)
  | (with_reducible exact LeO.none _)
  | (with_reducible refine LeO.ite ?_ ?_)
  | (with_reducible refine LeO.bind ?_ (fun _ => ?_))
  | exact ih0 _ _ _ _ _ _ _ _
  | exact ih1 _ _ _ _ _ _ _ _ _ _
  | exact ih2 _ _ _ _ _ _ _ _ _ _ _ _ _ _
  | exact ih3 _ _ _ _ _ _ _ _ _
  | exact ih4 _ _ _ _ _ _
  | exact ih5 _ _ _ _ _ _ _ _
  | exact ih6 _ _ _ _ _ _ _ _ _ _ _ _ _
  | exact dfa_Validate.mono _ _ _ _ _
  | exact dfa_search.mono _ _ _ _ _
  | exact LeO.none _
  | refine LeO.ite ?_ ?_
  | refine LeO.bind ?_ (fun _ => ?_)
  )
  (focus
  intro y0 y1 y2 y3 y4 y5 y6 y7 y8 y9
  unfold dfa_Infinite.l1
  repeat' first
  | (with_reducible exact ih0 _ _ _ _ _ _ _ _)
  | (with_reducible exact ih1 _ _ _ _ _ _ _ _ _ _)
  | (with_reducible exact ih2 _ _ _ _ _ _ _ _ _ _ _ _ _ _)
  | (with_reducible exact ih3 _ _ _ _ _ _ _ _ _)
  | (with_reducible exact ih4 _ _ _ _ _ _)
  | (with_reducible exact ih5 _ _ _ _ _ _ _ _)
  | (with_reducible exact ih6 _ _ _ _ _ _ _ _ _ _ _ _ _)
  | (with_reducible exact dfa_Validate.mono _ _ _ _ _)
  | (with_reducible exact dfa_search.mono _ _ _ _ _)
  | (with_reducible exact LeO.refl _)
  | (with_reducible exact LeO.none _)
  | (with_reducible refine LeO.ite ?_ ?_)
  | (with_reducible refine LeO.bind ?_ (fun _ => ?_))
  | exact ih0 _ _ _ _ _ _ _ _
  | exact ih1 _ _ _ _ _ _ _ _ _ _
  | exact ih2 _ _ _ _ _ _ _ _ _ _ _ _ _ _
  | exact ih3 _ _ _ _ _ _ _ _ _
  | exact ih4 _ _ _ _ _ _
  | exact ih5 _ _ _ _ _ _ _ _
  | exact ih6 _ _ _ _ _ _ _ _ _ _ _ _ _
  | exact dfa_Validate.mono _ _ _ _ _
  | exact dfa_search.mono _ _ _ _ _
  | exact LeO.none _
  | refine LeO.ite ?_ ?_
  | refine LeO.bind ?_ (fun _ => ?_)
  )
  (focus
  intro y0 y1 y2 y3 y4 y5 y6 y7 y8 y9 y10 y11 y12 y13
  unfold dfa_Infinite.l2
  repeat' first
  | (with_reducible exact ih0 _ _ _ _ _ _ _ _)
  | (with_reducible exact ih1 _ _ _ _ _ _ _ _ _ _)
  | (with_reducible exact ih2 _ _ _ _ _ _ _ _ _ _ _ _ _ _)
  | (with_reducible exact ih3 _ _ _ _ _ _ _ _ _)
  | (with_reducible exact ih4 _ _ _ _ _ _)
  | (with_reducible exact ih5 _ _ _ _ _ _ _ _)
  | (with_reducible exact ih6 _ _ _ _ _ _ _ _ _ _ _ _ _)
  | (with_reducible exact dfa_Validate.mono _ _ _ _ _)
  | (with_reducible exact dfa_search.mono _ _ _ _ _)
  | (with_reducible exact LeO.refl _)
  | (with_reducible exact LeO.none _)
  | (with_reducible refine LeO.ite ?_ ?_)
  | (with_reducible refine LeO.bind ?_ (fun _ => ?_))
  | exact ih0 _ _ _ _ _ _ _ _
  | exact ih1 _ _ _ _ _ _ _ _ _ _
  | exact ih2 _ _ _ _ _ _ _ _ _ _ _ _ _ _
  | exact ih3 _ _ _ _ _ _ _ _ _
  | exact ih4 _ _ _ _ _ _
  | exact ih5 _ _ _ _ _ _ _ _
  | exact ih6 _ _ _ _ _ _ _ _ _ _ _ _ _
  | exact dfa_Validate.mono _ _ _ _ _
  | exact dfa_search.mono _ _ _ _ _
  | exact LeO.none _
  | refine LeO.ite ?_ ?_
  | refine LeO.bind ?_ (fun _ => ?_)
  )
  (focus
  intro y0 y1 y2 y3 y4 y5 y6 y7 y8
  unfold dfa_Infinite.l3
  repeat' first
  | (with_reducible exact ih0 _ _ _ _ _ _ _ _)
  | (with_reducible exact ih1 _ _ _ _ _ _ _ _ _ _)
  | (with_reducible exact ih2 _ _ _ _ _ _ _ _ _ _ _ _ _ _)
  | (with_reducible exact ih3 _ _ _ _ _ _ _ _ _)
  | (with_reducible exact ih4 _ _ _ _ _ _)
  | (with_reducible exact ih5 _ _ _ _ _ _ _ _)
  | (with_reducible exact ih6 _ _ _ _ _ _ _ _ _ _ _ _ _)
  | (with_reducible exact dfa_Validate.mono _ _ _ _ _)
  | (with_reducible exact dfa_search.mono _ _ _ _ _)
  | (with_reducible exact LeO.refl _)
  | (with_reducible exact LeO.none _)
  | (with_reducible refine LeO.ite ?_ ?_)
  | (with_reducible refine LeO.bind ?_ (fun _ => ?_))
  | exact ih0 _ _ _ _ _ _ _ _
  | exact ih1 _ _ _ _ _ _ _ _ _ _
  | exact ih2 _ _ _ _ _ _ _ _ _ _ _ _ _ _
  | exact ih3 _ _ _ _ _ _ _ _ _
  | exact ih4 _ _ _ _ _ _
  | exact ih5 _ _ _ _ _ _ _ _
  | exact ih6 _ _ _ _ _ _ _ _ _ _ _ _ _
  | exact dfa_Validate.mono _ _ _ _ _
  | exact dfa_search.mono _ _ _ _ _
  | exact LeO.none _
  | refine LeO.ite ?_ ?_
  | refine LeO.bind ?_ (fun _ => ?_)
  )
  (focus
  intro y0 y1 y2 y3 y4 y5
  unfold dfa_Infinite.l4
  repeat' first
  | (with_reducible exact ih0 _ _ _ _ _ _ _ _)
  | (with_reducible exact ih1 _ _ _ _ _ _ _ _ _ _)
  | (with_reducible exact ih2 _ _ _ _ _ _ _ _ _ _ _ _ _ _)
  | (with_reducible exact ih3 _ _ _ _ _ _ _ _ _)
  | (with_reducible exact ih4 _ _ _ _ _ _)
  | (with_reducible exact ih5 _ _ _ _ _ _ _ _)
  | (with_reducible exact ih6 _ _ _ _ _ _ _ _ _ _ _ _ _)
  | (with_reducible exact dfa_Validate.mono _ _ _ _ _)
  | (with_reducible exact dfa_search.mono _ _ _ _ _)
  | (with_reducible exact LeO.refl _)
  | (with_reducible exact LeO.none _)
  | (with_reducible refine LeO.ite ?_ ?_)
  | (with_reducible refine LeO.bind ?_ (fun _ => ?_))
  | exact ih0 _ _ _ _ _ _ _ _
  | exact ih1 _ _ _ _ _ _ _ _ _ _
  | exact ih2 _ _ _ _ _ _ _ _ _ _ _ _ _ _
  | exact ih3 _ _ _ _ _ _ _ _ _
  | exact ih4 _ _ _ _ _ _
  | exact ih5 _ _ _ _ _ _ _ _
  | exact ih6 _ _ _ _ _ _ _ _ _ _ _ _ _
  | exact dfa_Validate.mono _ _ _ _ _
  | exact dfa_search.mono _ _ _ _ _
  | exact LeO.none _
  | refine LeO.ite ?_ ?_
  | refine LeO.bind ?_ (fun _ => ?_)
  )
  (focus
  intro y0 y1 y2 y3 y4 y5 y6 y7
  unfold dfa_Infinite.l5
  repeat' first
  | (with_reducible exact ih0 _ _ _ _ _ _ _ _)
  | (with_reducible exact ih1 _ _ _ _ _ _ _ _ _ _)
  | (with_reducible exact ih2 _ _ _ _ _ _ _ _ _ _ _ _ _ _)
  | (with_reducible exact ih3 _ _ _ _ _ _ _ _ _)
  | (with_reducible exact ih4 _ _ _ _ _ _)
  | (with_reducible exact ih5 _ _ _ _ _ _ _ _)
  | (with_reducible exact ih6 _ _ _ _ _ _ _ _ _ _ _ _ _)
  | (with_reducible exact dfa_Validate.mono _ _ _ _ _)
  | (with_reducible exact dfa_search.mono _ _ _ _ _)
  | (with_reducible exact LeO.refl _)
  | (with_reducible exact LeO.none _)
  | (with_reducible refine LeO.ite ?_ ?_)
  | (with_reducible refine LeO.bind ?_ (fun _ => ?_))
  | exact ih0 _ _ _ _ _ _ _ _
  | exact ih1 _ _ _ _ _ _ _ _ _ _
  | exact ih2 _ _ _ _ _ _ _ _ _ _ _ _ _ _
  | exact ih3 _ _ _ _ _ _ _ _ _
  | exact ih4 _ _ _ _ _ _
  | exact ih5 _ _ _ _ _ _ _ _
  | exact ih6 _ _ _ _ _ _ _ _ _ _ _ _ _
  | exact dfa_Validate.mono _ _ _ _ _
  | exact dfa_search.mono _ _ _ _ _
  | exact LeO.none _
  | refine LeO.ite ?_ ?_
  | refine LeO.bind ?_ (fun _ => ?_)
  )
  (focus
  intro y0 y1 y2 y3 y4 y5 y6 y7 y8 y9 y10 y11 y12
  unfold dfa_Infinite.l6
  repeat' first
  | (with_reducible exact ih0 _ _ _ _ _ _ _ _)
  | (with_reducible exact ih1 _ _ _ _ _ _ _ _ _ _)
  | (with_reducible exact ih2 _ _ _ _ _ _ _ _ _ _ _ _ _ _)
  | (with_reducible exact ih3 _ _ _ _ _ _ _ _ _)
  | (with_reducible exact ih4 _ _ _ _ _ _)
  | (with_reducible exact ih5 _ _ _ _ _ _ _ _)
  | (with_reducible exact ih6 _ _ _ _ _ _ _ _ _ _ _ _ _)
  | (with_reducible exact dfa_Validate.mono _ _ _ _ _)
  | (with_reducible exact dfa_search.mono _ _ _ _ _)
  | (with_reducible exact LeO.refl _)
  | (with_reducible exact LeO.none _)
  | (with_reducible refine LeO.ite ?_ ?_)
  | (with_reducible refine LeO.bind ?_ (fun _ => ?_))
  | exact ih0 _ _ _ _ _ _ _ _
  | exact ih1 _ _ _ _ _ _ _ _ _ _
  | exact ih2 _ _ _ _ _ _ _ _ _ _ _ _ _ _
  | exact ih3 _ _ _ _ _ _ _ _ _
  | exact ih4 _ _ _ _ _ _
  | exact ih5 _ _ _ _ _ _ _ _
  | exact ih6 _ _ _ _ _ _ _ _ _ _ _ _ _
  | exact dfa_Validate.mono _ _ _ _ _
  | exact dfa_search.mono _ _ _ _ _
  | exact LeO.none _
  | refine LeO.ite ?_ ?_
  | refine LeO.bind ?_ (fun _ => ?_)
  )
theorem dfa_Infinite.mono : ∀ a0 a1 a2 a3 k, LeO (dfa_Infinite.f k a0 a1 a2 a3) (dfa_Infinite.f (k + 1) a0 a1 a2 a3) := by
 intro a0 a1 a2 a3 k
 obtain ⟨ih0, ih1, ih2, ih3, ih4, ih5, ih6⟩ := dfa_Infinite.mono_l k
 unfold dfa_Infinite.f
 repeat' first
  | (with_reducible exact ih0 _ _ _ _ _ _ _ _)
  | (with_reducible exact ih1 _ _ _ _ _ _ _ _ _ _)
  | (with_reducible exact ih2 _ _ _ _ _ _ _ _ _ _ _ _ _ _)
  | (with_reducible exact ih3 _ _ _ _ _ _ _ _ _)
  | (with_reducible exact ih4 _ _ _ _ _ _)
  | (with_reducible exact ih5 _ _ _ _ _ _ _ _)
  | (with_reducible exact ih6 _ _ _ _ _ _ _ _ _ _ _ _ _)
  | (with_reducible exact dfa_Validate.mono _ _ _ _ _)
  | (with_reducible exact dfa_search.mono _ _ _ _ _)
  | (with_reducible exact LeO.refl _)
  | (with_reducible exact LeO.none _)
  | (with_reducible refine LeO.ite ?_ ?_)
  | (with_reducible refine LeO.bind ?_ (fun _ => ?_))
  | exact ih0 _ _ _ _ _ _ _ _
  | exact ih1 _ _ _ _ _ _ _ _ _ _
  | exact ih2 _ _ _ _ _ _ _ _ _ _ _ _ _ _
  | exact ih3 _ _ _ _ _ _ _ _ _
  | exact ih4 _ _ _ _ _ _
  | exact ih5 _ _ _ _ _ _ _ _
  | exact ih6 _ _ _ _ _ _ _ _ _ _ _ _ _
  | exact dfa_Validate.mono _ _ _ _ _
  | exact dfa_search.mono _ _ _ _ _
  | exact LeO.none _
  | refine LeO.ite ?_ ?_
  | refine LeO.bind ?_ (fun _ => ?_)
set_option maxHeartbeats 8000000 in
set_option maxRecDepth 100000 in
theorem dfa_Infinite.calls (k : Nat) (a0_0 : Int) (a0_1 : Int) (A0_2 : Option Addr) (c0_2 : Nat) (l0_2 : List Bool) (A0_3 : Option Addr) (c0_3 : Nat) (l0_3 : List (List Int)) (r : Bool) (w : World) (hr0_2 : Kd.C Kd.bool w A0_2 l0_2.length l0_2) (hc0_2 : l0_2.length ≤ c0_2) (hr0_3 : Kd.C (Kd.slice 3 (Kd.int .i64)) w A0_3 l0_3.length l0_3) (hc0_3 : l0_3.length ≤ c0_3) (h : dfa_Infinite.f k a0_0 a0_1 l0_2 l0_3 = some r) :
 Calls Try.prog 38 #[.agg #[.int .i64 a0_0, .int .i64 a0_1, .slice A0_2 l0_2.length c0_2, .slice A0_3 l0_3.length c0_3]] w fun e w' => e = .returned (.bool r) ∧ Below w.heap.size w w' := by
 have hu25 := Try.underlying25
 have HR0_2 := Aside0.mk hr0_2
 have HC0_2 := Aside0.mk hc0_2
 clear hr0_2 hc0_2
 have HR0_3 := Aside0.mk hr0_3
 have HC0_3 := Aside0.mk hc0_3
 clear hr0_3 hc0_3
 have HB := Aside0.mk (Below.refl w.heap.size w)
 have H : ((dfa_Validate.f k a0_0 a0_1 l0_2 l0_3).bind fun t234 => (if t234 = 0 then ((dfa_search.f k a0_0 a0_1 l0_2 l0_3).bind fun bt235 => (if 0 ≤ (l0_2.length : Int) then (if ((l0_2.length : Int) : Int).toNat ≤ 281474976710656 then (dfa_Infinite.l0 k (l0_2.length : Int) bt235.1 (copyL (List.replicate ((l0_2.length : Int) : Int).toNat false) l0_2) true a0_0 a0_1 l0_2 l0_3) else (none)) else (none))) else (some false))) = some r := h
 clear h
 replace H := Option.bind_eq_some_iff.mp H
 obtain ⟨t234, A20, H⟩ := H
 replace H : (if t234 = 0 then ((dfa_search.f k a0_0 a0_1 l0_2 l0_3).bind fun bt235 => (if 0 ≤ (l0_2.length : Int) then (if ((l0_2.length : Int) : Int).toNat ≤ 281474976710656 then (dfa_Infinite.l0 k (l0_2.length : Int) bt235.1 (copyL (List.replicate ((l0_2.length : Int) : Int).toNat false) l0_2) true a0_0 a0_1 l0_2 l0_3) else (none)) else (none))) else (some false)) = some r := H
 have A2 := Aside0.mk A20
 clear A20
 by_cases c3 : t234 = 0
 (focus
 rw [if_pos c3] at H
 have c3b0 : (t234 == 0) = true := beq_iff_eq.mpr c3
 have c3b1 : (t234 != 0) = false := bne_eq_false_iff_eq.mpr c3
 clear c3
 replace H := Option.bind_eq_some_iff.mp H
 obtain ⟨⟨t235, t238, t241, t244⟩, A40, H⟩ := H
 replace H : (if 0 ≤ (l0_2.length : Int) then (if ((l0_2.length : Int) : Int).toNat ≤ 281474976710656 then (dfa_Infinite.l0 k (l0_2.length : Int) t235 (copyL (List.replicate ((l0_2.length : Int) : Int).toNat false) l0_2) true a0_0 a0_1 l0_2 l0_3) else (none)) else (none)) = some r := H
 have A4 := Aside0.mk A40
 clear A40
 by_cases c5 : 0 ≤ (l0_2.length : Int)
 (focus
 rw [if_pos c5] at H
 have c5b0 := eq_true c5
 have c5b1 : decide (0 ≤ (l0_2.length : Int)) = true := decide_eq_true c5
 clear c5
 by_cases c6 : ((l0_2.length : Int) : Int).toNat ≤ 281474976710656
 (focus
 rw [if_pos c6] at H
 have c6b0 := eq_true c6
 have c6b1 : decide (((l0_2.length : Int) : Int).toNat ≤ 281474976710656) = true := decide_eq_true c6
 clear c6
 obtain ⟨y247, hy247⟩ : ∃ y_ : List Bool, y_ = (List.replicate ((l0_2.length : Int) : Int).toNat false) := ⟨_, rfl⟩
 replace H : (dfa_Infinite.l0 k (l0_2.length : Int) t235 (copyL y247 l0_2) true a0_0 a0_1 l0_2 l0_3) = some r := by first | (rw [hy247]; with_reducible exact H) | (have H2_ := (Option.bind_some _ _).symm.trans H; rw [hy247]; with_reducible exact H2_) | (have H2_ := (Option.bind_some _ _).symm.trans H; with_reducible exact H2_) | with_reducible exact H | (rw [hy247]; exact H) | exact H
 have Ny247 := Aside0.mk hy247
 clear hy247
 obtain ⟨y250, hy250⟩ : ∃ y_ : List Bool, y_ = (copyL y247 l0_2) := ⟨_, rfl⟩
 replace H : (dfa_Infinite.l0 k (l0_2.length : Int) t235 y250 true a0_0 a0_1 l0_2 l0_3) = some r := by first | (rw [hy250]; with_reducible exact H) | (have H2_ := (Option.bind_some _ _).symm.trans H; rw [hy250]; with_reducible exact H2_) | (have H2_ := (Option.bind_some _ _).symm.trans H; with_reducible exact H2_) | with_reducible exact H | (rw [hy250]; exact H) | exact H
 have Ny250 := Aside0.mk hy250
 clear hy250
 have H' := Aside0.mk H
 clear H
 go_enter Try.func38, Try.ntmps38
 go_wp2_with (first | ((with_reducible refine gate_dst (N := 1) rfl ?_); refine box_event ?hg (N := 1) ?hd (cs := #[.int .i64 a0_0, .int .i64 a0_1, .slice A0_2 l0_2.length c0_2, .slice A0_3 l0_3.length c0_3]) (t := 25) ?hr ?_; (case hd => rfl); (case hg => rfl); (case hr => first | (go_simp; done) | (go_simp; rfl)); intro gb233 hg w7 hbox hb; have n0_ := Aside0.mk (below_step (by repeat (first | (with_reducible first | exact HB.out | apply below_alloc | apply pw_below_drewN | apply below_drew1) | exact HB.out)) hb); have n1_ := Aside0.mk (hbox); have n2_ := Aside0.mk ((by rw [hg]; exact (below_size (by repeat (first | (with_reducible first | exact HB.out | apply below_alloc | apply pw_below_drewN | apply below_drew1) | exact HB.out))) : w.heap.size ≤ gb233)); have n3_ := Aside0.mk ((by rw [hg]; exact (below_size (by repeat (first | (with_reducible first | exact HB.out | apply below_alloc | apply pw_below_drewN | apply below_drew1) | exact HB.out))) : w.heap.size ≤ gb233)); clear HB; have HB := n0_; have BK233 := n1_; have GW233 := n2_; have GE233 := n3_; clear n0_ n1_ n2_ n3_; clear hb hbox hg; have hcz8_0 : w7.cell? ⟨gb233, 0, none⟩ = some (.int .i64 a0_0) := (blk_cell BK233.out 0).trans rfl; have hcz8_1 : w7.cell? ⟨gb233, 1, none⟩ = some (.int .i64 a0_1) := (blk_cell BK233.out 1).trans rfl; have hcz8_2 : w7.cell? ⟨gb233, 2, none⟩ = some (.slice A0_2 l0_2.length c0_2) := (blk_cell BK233.out 2).trans rfl; have hcz8_3 : w7.cell? ⟨gb233, 3, none⟩ = some (.slice A0_3 l0_3.length c0_3) := (blk_cell BK233.out 3).trans rfl; have hfz8_0 := blk_frozen BK233.out 0; have hfz8_1 := blk_frozen BK233.out 1; have hfz8_2 := blk_frozen BK233.out 2; have hfz8_3 := blk_frozen BK233.out 3) | ((with_reducible refine gate_callee (f := 14) rfl ?_); refine goesL_ (some 22) rfl rfl Try.func14 (by kernel_rfl) rfl #[.agg #[.int .i64 a0_0, .int .i64 a0_1, .slice A0_2 l0_2.length c0_2, .slice A0_3 l0_3.length c0_3]] rfl (by (try simp only [List.map_toArray, List.map_cons, List.map_nil]); first | done | rfl | (simp only [List.length_drop, List.length_take]; rfl)) ?_; (with_reducible refine (dfa_Validate.calls k a0_0 a0_1 _ _ l0_2 _ _ l0_3 t234 _ ?side1 ?side2 ?side3 ?side4 A2.out).mono ?_); (case side1 => repeat (first | exact (Kd.C_below HR0_2.out HB.out) | (with_reducible refine Kd.C_alloc ?_ _) | (with_reducible refine Kd.C_drewN ?_ _) | (with_reducible refine Kd.C_drew ?_))); (case side2 => exact HC0_2.out); (case side3 => repeat (first | exact (Kd.C_below HR0_3.out HB.out) | (with_reducible refine Kd.C_alloc ?_ _) | (with_reducible refine Kd.C_drewN ?_ _) | (with_reducible refine Kd.C_drew ?_))); (case side4 => exact HC0_3.out); rintro e w9 ⟨rfl, hb⟩; refine ⟨_, rfl, ?_⟩; have n0_ := Aside0.mk (blk_below (g := gb233) (o := .cells #[.int .i64 a0_0, .int .i64 a0_1, .slice A0_2 l0_2.length c0_2, .slice A0_3 l0_3.length c0_3] 25 (0, 0)) (uB BK233.out) hb); have n1_ := Aside0.mk (below_step (by repeat (first | (with_reducible first | exact HB.out | apply below_alloc | apply pw_below_drewN | apply below_drew1 | refine below_set ?_ GE233.out) | exact HB.out)) hb); clear BK233; clear HB; have BK233 := n0_; have HB := n1_; clear n0_ n1_; (try clear hb); (try clear hb2); (try clear hk); (try clear hi); have hcz10_0 : w9.cell? ⟨gb233, 0, none⟩ = some (.int .i64 a0_0) := (blk_cell BK233.out 0).trans rfl; have hcz10_1 : w9.cell? ⟨gb233, 1, none⟩ = some (.int .i64 a0_1) := (blk_cell BK233.out 1).trans rfl; have hcz10_2 : w9.cell? ⟨gb233, 2, none⟩ = some (.slice A0_2 l0_2.length c0_2) := (blk_cell BK233.out 2).trans rfl; have hcz10_3 : w9.cell? ⟨gb233, 3, none⟩ = some (.slice A0_3 l0_3.length c0_3) := (blk_cell BK233.out 3).trans rfl; have hfz10_0 := blk_frozen BK233.out 0; have hfz10_1 := blk_frozen BK233.out 1; have hfz10_2 := blk_frozen BK233.out 2; have hfz10_3 := blk_frozen BK233.out 3) | ((with_reducible refine gate_callee (f := 48) rfl ?_); refine goesL_ (some 29) rfl rfl Try.func48 (by kernel_rfl) rfl #[.agg #[.int .i64 a0_0, .int .i64 a0_1, .slice A0_2 l0_2.length c0_2, .slice A0_3 l0_3.length c0_3]] rfl (by (try simp only [List.map_toArray, List.map_cons, List.map_nil]); first | done | rfl | (simp only [List.length_drop, List.length_take]; rfl)) ?_; (with_reducible refine (dfa_search.calls k a0_0 a0_1 _ _ l0_2 _ _ l0_3 t235 t238 t241 t244 _ ?side1 ?side2 ?side3 ?side4 A4.out).mono ?_); (case side1 => repeat (first | exact (Kd.C_below HR0_2.out HB.out) | (with_reducible refine Kd.C_alloc ?_ _) | (with_reducible refine Kd.C_drewN ?_ _) | (with_reducible refine Kd.C_drew ?_))); (case side2 => exact HC0_2.out); (case side3 => repeat (first | exact (Kd.C_below HR0_3.out HB.out) | (with_reducible refine Kd.C_alloc ?_ _) | (with_reducible refine Kd.C_drewN ?_ _) | (with_reducible refine Kd.C_drew ?_))); (case side4 => exact HC0_3.out); rintro e w11 ⟨v236, v239, v242, v245, rfl, ho0, ho1, ho2, ho3, hb⟩; refine ⟨_, rfl, ?_⟩; have n0_ := Aside0.mk (Kd.R_lower ho0 (below_size (by repeat (first | (with_reducible first | exact HB.out | apply below_alloc | apply pw_below_drewN | apply below_drew1 | refine below_set ?_ GE233.out) | exact HB.out)))); have n1_ := Aside0.mk (Kd.R_lower ho1 (below_size (by repeat (first | (with_reducible first | exact HB.out | apply below_alloc | apply pw_below_drewN | apply below_drew1 | refine below_set ?_ GE233.out) | exact HB.out)))); have n2_ := Aside0.mk (Kd.R_lower ho2 (below_size (by repeat (first | (with_reducible first | exact HB.out | apply below_alloc | apply pw_below_drewN | apply below_drew1 | refine below_set ?_ GE233.out) | exact HB.out)))); have n3_ := Aside0.mk (Kd.R_lower ho3 (below_size (by repeat (first | (with_reducible first | exact HB.out | apply below_alloc | apply pw_below_drewN | apply below_drew1 | refine below_set ?_ GE233.out) | exact HB.out)))); have n4_ := Aside0.mk (blk_below (g := gb233) (o := .cells #[.int .i64 a0_0, .int .i64 a0_1, .slice A0_2 l0_2.length c0_2, .slice A0_3 l0_3.length c0_3] 25 (0, 0)) (uB BK233.out) hb); have n5_ := Aside0.mk (below_step (by repeat (first | (with_reducible first | exact HB.out | apply below_alloc | apply pw_below_drewN | apply below_drew1 | refine below_set ?_ GE233.out) | exact HB.out)) hb); clear BK233; clear HB; have HO237 := n0_; have HO240 := n1_; have HO243 := n2_; have HO246 := n3_; have BK233 := n4_; have HB := n5_; clear n0_ n1_ n2_ n3_ n4_ n5_; (try clear hb); (try clear hb2); (try clear hk); (try clear hi); (try clear ho0); (try clear ho1); (try clear ho2); (try clear ho3)) | ((with_reducible refine gate_dst (N := 35) rfl ?_); refine Kd.R_make Kd.bool _ 4 rfl (N := 35) rfl 22 _ _ rfl (l0_2.length : Int) rfl rfl Try.underlying22 (.bool false) 1 info4 rfl (by decide) (by omega) false (ok := fun _ => True) (okp := fun _ => True) rfl (fun _ hk => hk) trivial (of_decide_eq_true (by first | (with_reducible assumption) | assumption)) (Nat.le_trans (Nat.mul_le_mul_right _ (of_decide_eq_true (by first | (with_reducible assumption) | assumption) : (l0_2.length : Int).toNat ≤ 281474976710656)) (by omega)) (Below.refl _ _) (Nat.le_refl _) ?_; intro v248 w12 ho13 hb hg_ hnew_; clear hg_ hnew_; (first | rw [← Ny247.out] at ho13 | (simp only [Int.reduceToNat] at ho13; rw [← Ny247.out] at ho13)); have n0_ := Aside0.mk (Kd.R_below (uR HO237.out) hb); have n1_ := Aside0.mk (Kd.R_below (uR HO240.out) hb); have n2_ := Aside0.mk (Kd.R_below (uR HO243.out) hb); have n3_ := Aside0.mk (Kd.R_below (uR HO246.out) hb); have n4_ := Aside0.mk (Kd.R_lower ho13 (below_size (by repeat (first | (with_reducible first | exact HB.out | apply below_alloc | apply pw_below_drewN | apply below_drew1 | refine below_set ?_ GE233.out) | exact HB.out)))); have n5_ := Aside0.mk (blk_below (g := gb233) (o := .cells #[.int .i64 a0_0, .int .i64 a0_1, .slice A0_2 l0_2.length c0_2, .slice A0_3 l0_3.length c0_3] 25 (0, 0)) (uB BK233.out) hb); have n6_ := Aside0.mk (below_step (by repeat (first | (with_reducible first | exact HB.out | apply below_alloc | apply pw_below_drewN | apply below_drew1 | refine below_set ?_ GE233.out) | exact HB.out)) hb); clear HO237; clear HO240; clear HO243; clear HO246; clear BK233; clear HB; have HO237 := n0_; have HO240 := n1_; have HO243 := n2_; have HO246 := n3_; have HO249 := n4_; have BK233 := n5_; have HB := n6_; clear n0_ n1_ n2_ n3_ n4_ n5_ n6_; clear hb ho13; have hcz14_0 : w12.cell? ⟨gb233, 0, none⟩ = some (.int .i64 a0_0) := (blk_cell BK233.out 0).trans rfl; have hcz14_1 : w12.cell? ⟨gb233, 1, none⟩ = some (.int .i64 a0_1) := (blk_cell BK233.out 1).trans rfl; have hcz14_2 : w12.cell? ⟨gb233, 2, none⟩ = some (.slice A0_2 l0_2.length c0_2) := (blk_cell BK233.out 2).trans rfl; have hcz14_3 : w12.cell? ⟨gb233, 3, none⟩ = some (.slice A0_3 l0_3.length c0_3) := (blk_cell BK233.out 3).trans rfl; have hfz14_0 := blk_frozen BK233.out 0; have hfz14_1 := blk_frozen BK233.out 1; have hfz14_2 := blk_frozen BK233.out 2; have hfz14_3 := blk_frozen BK233.out 3; obtain ⟨Ao16, co16, eo16⟩ := Kd.R_slice HO249.out; subst eo16) | ((with_reducible refine gate_builtin (b := .copy) (xs := #[.tmp 36, .tmp 38]) rfl ?_); refine R_copy_rows Value.bool false (h1 := fun _ => rfl) (w0 := w) w.heap.size rfl (.tmp 36) (.tmp 38) 22 22 4 rfl Try.underlying22 (by kernel_rfl) (.slice Ao16 y247.length co16) y247 l0_2 _ _ _ (fun _ => True) rfl rfl ?aO ?aR ?aB ?aS ?_; (case aO => exact (uR HO249.out)); (case aR => repeat (first | exact (Kd.C_below HR0_2.out HB.out) | (with_reducible refine Kd.C_alloc ?_ _) | (with_reducible refine Kd.C_drewN ?_ _) | (with_reducible refine Kd.C_drew ?_))); (case aB => exact (by repeat (first | (with_reducible first | exact HB.out | apply below_alloc | apply pw_below_drewN | apply below_drew1 | refine below_set ?_ GE233.out) | exact HB.out))); (case aS => exact (below_size (by repeat (first | (with_reducible first | exact HB.out | apply below_alloc | apply pw_below_drewN | apply below_drew1 | refine below_set ?_ GE233.out) | exact HB.out)))); intro w15 ho hb hg; rw [← Ny250.out] at ho; replace ho := (show Kd.R Kd.bool 4 w15 w.heap.size (fun _ => True) (.slice Ao16 y247.length co16) y250 from ho); have n0_ := Aside0.mk (blk_grown (g := gb233) (o := .cells #[.int .i64 a0_0, .int .i64 a0_1, .slice A0_2 l0_2.length c0_2, .slice A0_3 l0_3.length c0_3] 25 (0, 0)) (uB BK233.out) hg (Kd.R_ne HO249.out BK233.out (by decide))); have n1_ := Aside0.mk (Kd.R_over' (uR HO237.out) (Kd.R_typed (uR HO249.out)) (by decide) hg); have n2_ := Aside0.mk (Kd.R_over' (uR HO240.out) (Kd.R_typed (uR HO249.out)) (by decide) hg); have n3_ := Aside0.mk (Kd.R_over' (uR HO243.out) (Kd.R_typed (uR HO249.out)) (by decide) hg); have n4_ := Aside0.mk (Kd.R_over' (uR HO246.out) (Kd.R_typed (uR HO249.out)) (by decide) hg); have n5_ := Aside0.mk (hb); have n6_ := Aside0.mk (ho); clear BK233; clear HO237; clear HO240; clear HO243; clear HO246; clear HB; clear HO249; have BK233 := n0_; have HO237 := n1_; have HO240 := n2_; have HO243 := n3_; have HO246 := n4_; have HB := n5_; have HO249 := n6_; clear n0_ n1_ n2_ n3_ n4_ n5_ n6_; clear ho hb hg))
 go_loopg [9] k (fun kq v9 w' => ∃ (x8_1 : List Bool) (x9_1 : Bool), v9 = .bool x9_1 ∧ Aside0 (dfa_Infinite.l0 kq (l0_2.length : Int) t235 x8_1 x9_1 a0_0 a0_1 l0_2 l0_3 = some r) ∧ Aside0 (kq ≤ k) ∧ Aside0 (Kd.R (Kd.int .i64) 3 w' w.heap.size (fun _ => True) v236 t235) ∧ Aside0 (Kd.R Kd.bool 4 w' w.heap.size (fun _ => True) (.slice Ao16 y247.length co16) x8_1) ∧ Aside0 (w'.heap[gb233]? = some (.cells #[.int .i64 a0_0, .int .i64 a0_1, (.slice A0_2 l0_2.length c0_2), (.slice A0_3 l0_3.length c0_3)] 25 (0, 0))) ∧ Aside0 (Below w.heap.size w w'))
 case atStart => exact ⟨(y250), (true), (by first | rfl | (simp; done) | (simp [*]; done)), H', ⟨Nat.le_refl _⟩, ⟨by (with_reducible repeat (first | apply Kd.R_alloc | apply Kd.R_drewN | apply Kd.R_drew)); exact Kd.R_mono HO237.out (fun _ hk => trivial)⟩, ⟨by (with_reducible repeat (first | apply Kd.R_alloc | apply Kd.R_drewN | apply Kd.R_drew)); exact HO249.out⟩, ⟨by (with_reducible repeat (first | refine blk_drewN ?_ _ | refine blk_drew ?_ | refine blk_alloc ?_ _)); exact BK233.out⟩, ⟨by repeat (first | (with_reducible first | exact HB.out | apply below_alloc | apply pw_below_drewN | apply below_drew1 | refine below_set ?_ GE233.out) | exact HB.out)⟩⟩
 case round =>
  clear H'
  try clear c1
  try clear p2
  try clear c3
  try clear c3b0
  try clear c3b1
  try clear c4
  try clear c5
  try clear c5b0
  try clear c5b1
  try clear c6
  try clear c6b0
  try clear c6b1
  try clear c14
  try clear hcz10_0
  try clear hcz10_1
  try clear hcz10_2
  try clear hcz10_3
  try clear hcz14_0
  try clear hcz14_1
  try clear hcz14_2
  try clear hcz14_3
  try clear hcz8_0
  try clear hcz8_1
  try clear hcz8_2
  try clear hcz8_3
  try clear hfz10_0
  try clear hfz10_1
  try clear hfz10_2
  try clear hfz10_3
  try clear hfz14_0
  try clear hfz14_1
  try clear hfz14_2
  try clear hfz14_3
  try clear hfz8_0
  try clear hfz8_1
  try clear hfz8_2
  try clear hfz8_3
  obtain ⟨x8_1, x9_1, rfl, HA, HK1, HO_4, HO_8, BK233, HB⟩ := hrel
  have hl8_1 := (Kd.R_reads' HO_8.out).1
  rw [hl8_1] at HO_8
  (try simp only [hl8_1])
  (try simp only [hl8_1] at BK233)
  (try simp only [hl8_1] at HO_4)
  cases gk with
  | zero => exact absurd HA.out (by simp [dfa_Infinite.l0])
  | succ k1 =>
   have H := HA.out
   clear HA
   simp only [dfa_Infinite.l0] at H
   by_cases c17 : x9_1 = true
   (focus
   subst c17
   have H1 : (dfa_Infinite.l1 k1 (l0_2.length : Int) t235 x8_1 false (x8_1.length : Int) 0 a0_0 a0_1 l0_2 l0_3) = some r := by rw [if_pos rfl] at H; exact H
   clear H
   have H := H1
   clear H1
   have H' := Aside0.mk H
   clear H
   go_wp2
   go_loopg [9, 43] k1 (fun kq v9 v43 w' => ∃ (x8_2 : List Bool) (x9_2 : Bool) (x43_2 : Int), v9 = .bool x9_2 ∧ v43 = .int .i64 x43_2 ∧ Aside0 (dfa_Infinite.l1 kq (l0_2.length : Int) t235 x8_2 x9_2 (x8_1.length : Int) x43_2 a0_0 a0_1 l0_2 l0_3 = some r) ∧ Aside0 (kq ≤ k1) ∧ Aside0 (Kd.R (Kd.int .i64) 3 w' w.heap.size (fun _ => True) v236 t235) ∧ Aside0 (Kd.R Kd.bool 4 w' w.heap.size (fun _ => True) (.slice Ao16 x8_1.length co16) x8_2) ∧ Aside0 (w'.heap[gb233]? = some (.cells #[.int .i64 a0_0, .int .i64 a0_1, (.slice A0_2 l0_2.length c0_2), (.slice A0_3 l0_3.length c0_3)] 25 (0, 0))) ∧ Aside0 (Below w.heap.size w w'))
   case atStart => exact ⟨(x8_1), (false), (0), (by first | rfl | (simp; done) | (simp [*]; done)), (by first | rfl | (simp; done) | (simp [*]; done)), H', ⟨Nat.le_refl _⟩, ⟨by (try simp only [hl8_1]); (with_reducible repeat (first | apply Kd.R_alloc | apply Kd.R_drewN | apply Kd.R_drew)); exact HO_4.out⟩, ⟨by (try simp only [hl8_1]); (with_reducible repeat (first | apply Kd.R_alloc | apply Kd.R_drewN | apply Kd.R_drew)); exact HO_8.out⟩, ⟨by (try simp only [hl8_1]); (with_reducible repeat (first | refine blk_drewN ?_ _ | refine blk_drew ?_ | refine blk_alloc ?_ _)); exact BK233.out⟩, ⟨by repeat (first | (with_reducible first | exact HB.out | apply below_alloc | apply pw_below_drewN | apply below_drew1 | refine below_set ?_ GE233.out) | exact HB.out)⟩⟩
   case round =>
    clear H'
    try clear c1
    try clear p2
    try clear c3
    try clear c3b0
    try clear c3b1
    try clear c4
    try clear c5
    try clear c5b0
    try clear c5b1
    try clear c6
    try clear c6b0
    try clear c6b1
    try clear c14
    try clear c17
    try clear hcz10_0
    try clear hcz10_1
    try clear hcz10_2
    try clear hcz10_3
    try clear hcz14_0
    try clear hcz14_1
    try clear hcz14_2
    try clear hcz14_3
    try clear hcz8_0
    try clear hcz8_1
    try clear hcz8_2
    try clear hcz8_3
    try clear hfz10_0
    try clear hfz10_1
    try clear hfz10_2
    try clear hfz10_3
    try clear hfz14_0
    try clear hfz14_1
    try clear hfz14_2
    try clear hfz14_3
    try clear hfz8_0
    try clear hfz8_1
    try clear hfz8_2
    try clear hfz8_3
    try clear p2
    obtain ⟨x8_2, x9_2, x43_2, rfl, rfl, HA, HK2, HO_4, HO_8, BK233, HB⟩ := hrel
    have hl8_2 := (Kd.R_reads' HO_8.out).1
    rw [hl8_2] at HO_8
    (try simp only [hl8_2])
    (try simp only [hl8_2] at BK233)
    (try simp only [hl8_2] at HO_4)
    cases gk with
    | zero => exact absurd HA.out (by simp [dfa_Infinite.l1])
    | succ k2 =>
     have H := HA.out
     clear HA
     simp only [dfa_Infinite.l1] at H
     by_cases c18 : x43_2 < (x8_1.length : Int)
     (focus
     rw [if_pos c18] at H
     have c18b0 : decide (x43_2 < (x8_1.length : Int)) = true := decide_eq_true c18
     (try (have c18b0_hl8_1 := c18b0; simp only [hl8_1] at c18b0_hl8_1))
     (try (have c18b0_hl8_2 := c18b0; simp only [hl8_2] at c18b0_hl8_2))
     clear c18
     by_cases c19 : 0 ≤ x43_2
     (focus
     rw [if_pos c19] at H
     have c19b0 : decide (0 ≤ x43_2) = true := decide_eq_true c19
     clear c19
     by_cases c20 : x43_2 < (l0_3.length : Int)
     (focus
     rw [if_pos c20] at H
     have c20b0 : decide (x43_2 < (l0_3.length : Int)) = true := decide_eq_true c20
     (try (have c20b0_hl8_1 := c20b0; simp only [hl8_1] at c20b0_hl8_1))
     (try (have c20b0_hl8_2 := c20b0; simp only [hl8_2] at c20b0_hl8_2))
     clear c20
     have H' := Aside0.mk H
     clear H
     have hcz21_0 : wr.cell? ⟨gb233, 0, none⟩ = some (.int .i64 a0_0) := (blk_cell BK233.out 0).trans rfl
     have hcz21_1 : wr.cell? ⟨gb233, 1, none⟩ = some (.int .i64 a0_1) := (blk_cell BK233.out 1).trans rfl
     have hcz21_2 : wr.cell? ⟨gb233, 2, none⟩ = some (.slice A0_2 l0_2.length c0_2) := (blk_cell BK233.out 2).trans rfl
     have hcz21_3 : wr.cell? ⟨gb233, 3, none⟩ = some (.slice A0_3 l0_3.length c0_3) := (blk_cell BK233.out 3).trans rfl
     have hfz21_0 := blk_frozen BK233.out 0
     have hfz21_1 := blk_frozen BK233.out 1
     have hfz21_2 := blk_frozen BK233.out 2
     have hfz21_3 := blk_frozen BK233.out 3
     have p251 : 0 ≤ (x43_2 : Int) := of_decide_eq_true (by first | (with_reducible assumption) | assumption)
     have q251 : x43_2 < (l0_3.length : Int) := of_decide_eq_true (by first | (with_reducible assumption) | assumption)
     obtain ⟨ad251, A251_0, c251_0, e251, hx251_0, hl251_0, hi251_0⟩ := at_L1 HR0_3.out x43_2 p251 q251
     cases e251
     (try replace hx251_0 := (HB.out.cell (World.block_lt_of_cell? w _ hx251_0)).trans hx251_0)
     have HR251_0 := Aside0.mk hi251_0
     have HC251_0 := Aside0.mk hl251_0
     clear hi251_0 hl251_0
     replace p251 := eq_true p251
     replace q251 := eq_true q251
     go_wp2
     go_loopg [9, 52] k2 (fun kq v9 v52 w' => ∃ (x8_3 : List Bool) (x9_3 : Bool) (x52_3 : Int), v9 = .bool x9_3 ∧ v52 = .int .i64 x52_3 ∧ Aside0 (dfa_Infinite.l2 kq (l0_2.length : Int) t235 x8_3 x9_3 x43_2 (x8_1.length : Int) x43_2 (rd_L1 l0_3 x43_2) ((rd_L1 l0_3 x43_2).length : Int) x52_3 a0_0 a0_1 l0_2 l0_3 = some r) ∧ Aside0 (kq ≤ k2) ∧ Aside0 (Kd.R (Kd.int .i64) 3 w' w.heap.size (fun _ => True) v236 t235) ∧ Aside0 (Kd.R Kd.bool 4 w' w.heap.size (fun _ => True) (.slice Ao16 x8_2.length co16) x8_3) ∧ Aside0 (w'.heap[gb233]? = some (.cells #[.int .i64 a0_0, .int .i64 a0_1, (.slice A0_2 l0_2.length c0_2), (.slice (some ad251) l0_3.length c0_3)] 25 (0, 0))) ∧ Aside0 (Below w.heap.size w w'))
     case atStart => exact ⟨(x8_2), (x9_2), (0), (by first | rfl | (simp; done) | (simp [*]; done)), (by first | rfl | (simp; done) | (simp [*]; done)), H', ⟨Nat.le_refl _⟩, ⟨by (try simp only [hl8_1]); (try simp only [hl8_2]); (with_reducible repeat (first | apply Kd.R_alloc | apply Kd.R_drewN | apply Kd.R_drew)); exact HO_4.out⟩, ⟨by (try simp only [hl8_1]); (try simp only [hl8_2]); (with_reducible repeat (first | apply Kd.R_alloc | apply Kd.R_drewN | apply Kd.R_drew)); exact HO_8.out⟩, ⟨by (try simp only [hl8_1]); (try simp only [hl8_2]); (with_reducible repeat (first | refine blk_drewN ?_ _ | refine blk_drew ?_ | refine blk_alloc ?_ _)); exact BK233.out⟩, ⟨by repeat (first | (with_reducible first | exact HB.out | apply below_alloc | apply pw_below_drewN | apply below_drew1 | refine below_set ?_ GE233.out) | exact HB.out)⟩⟩
     case round =>
      clear H'
      try clear c1
      try clear c2
      try clear p2
      try clear q2
      try clear hx2
      try clear c3
      try clear c3b0
      try clear c3b1
      try clear c4
      try clear c5
      try clear c5b0
      try clear c5b1
      try clear c6
      try clear c6b0
      try clear c6b1
      try clear c14
      try clear c17
      try clear c18
      try clear c18b0
      try clear c19
      try clear c19b0
      try clear c20
      try clear c20b0
      try clear hcz10_0
      try clear hcz10_1
      try clear hcz10_2
      try clear hcz10_3
      try clear hcz14_0
      try clear hcz14_1
      try clear hcz14_2
      try clear hcz14_3
      try clear hcz21_0
      try clear hcz21_1
      try clear hcz21_2
      try clear hcz21_3
      try clear hcz8_0
      try clear hcz8_1
      try clear hcz8_2
      try clear hcz8_3
      try clear hfz10_0
      try clear hfz10_1
      try clear hfz10_2
      try clear hfz10_3
      try clear hfz14_0
      try clear hfz14_1
      try clear hfz14_2
      try clear hfz14_3
      try clear hfz21_0
      try clear hfz21_1
      try clear hfz21_2
      try clear hfz21_3
      try clear hfz8_0
      try clear hfz8_1
      try clear hfz8_2
      try clear hfz8_3
      try clear hx251_0
      try clear p2
      try clear p251
      try clear q251
      obtain ⟨x8_3, x9_3, x52_3, rfl, rfl, HA, HK3, HO_4, HO_8, BK233, HB⟩ := hrel
      have hl8_3 := (Kd.R_reads' HO_8.out).1
      rw [hl8_3] at HO_8
      (try simp only [hl8_3])
      (try simp only [hl8_3] at BK233)
      (try simp only [hl8_3] at HO_4)
      cases gk with
      | zero => exact absurd HA.out (by simp [dfa_Infinite.l2])
      | succ k3 =>
       have H := HA.out
       clear HA
       simp only [dfa_Infinite.l2] at H
       by_cases c22 : x52_3 < ((rd_L1 l0_3 x43_2).length : Int)
       (focus
       rw [if_pos c22] at H
       have c22b0 : decide (x52_3 < ((rd_L1 l0_3 x43_2).length : Int)) = true := decide_eq_true c22
       (try (have c22b0_hl8_1 := c22b0; simp only [hl8_1] at c22b0_hl8_1))
       (try (have c22b0_hl8_2 := c22b0; simp only [hl8_2] at c22b0_hl8_2))
       (try (have c22b0_hl8_3 := c22b0; simp only [hl8_3] at c22b0_hl8_3))
       clear c22
       by_cases c23 : 0 ≤ x52_3
       (focus
       rw [if_pos c23] at H
       have c23b0 : decide (0 ≤ x52_3) = true := decide_eq_true c23
       clear c23
       by_cases c24 : x52_3 < ((rd_L1 l0_3 x43_2).length : Int)
       (focus
       rw [if_pos c24] at H
       have c24b0 : decide (x52_3 < ((rd_L1 l0_3 x43_2).length : Int)) = true := decide_eq_true c24
       (try (have c24b0_hl8_1 := c24b0; simp only [hl8_1] at c24b0_hl8_1))
       (try (have c24b0_hl8_2 := c24b0; simp only [hl8_2] at c24b0_hl8_2))
       (try (have c24b0_hl8_3 := c24b0; simp only [hl8_3] at c24b0_hl8_3))
       clear c24
       by_cases c25 : 0 ≤ (rd (rd_L1 l0_3 x43_2) x52_3)
       (focus
       rw [if_pos c25] at H
       have c25b0 : decide (0 ≤ (rd (rd_L1 l0_3 x43_2) x52_3)) = true := decide_eq_true c25
       clear c25
       by_cases c26 : (rd (rd_L1 l0_3 x43_2) x52_3) < (x8_3.length : Int)
       (focus
       rw [if_pos c26] at H
       have c26b0 : decide ((rd (rd_L1 l0_3 x43_2) x52_3) < (x8_3.length : Int)) = true := decide_eq_true c26
       (try (have c26b0_hl8_1 := c26b0; simp only [hl8_1] at c26b0_hl8_1))
       (try (have c26b0_hl8_2 := c26b0; simp only [hl8_2] at c26b0_hl8_2))
       (try (have c26b0_hl8_3 := c26b0; simp only [hl8_3] at c26b0_hl8_3))
       clear c26
       obtain ⟨bq27, hbq27⟩ : ∃ b_ : Bool, b_ = (rdOf false x8_3 (rd (rd_L1 l0_3 x43_2) x52_3)) := ⟨_, rfl⟩
       replace H : (if bq27 = true then (if 0 ≤ x43_2 then (if x43_2 < (x8_3.length : Int) then (if rdOf false x8_3 x43_2 = true then (dfa_Infinite.l2 k3 (l0_2.length : Int) t235 x8_3 x9_3 x43_2 (x8_1.length : Int) x43_2 (rd_L1 l0_3 x43_2) ((rd_L1 l0_3 x43_2).length : Int) (wrap64 (x52_3 + 1)) a0_0 a0_1 l0_2 l0_3) else (dfa_Infinite.l2 k3 (l0_2.length : Int) t235 (x8_3.set (x43_2 : Int).toNat true) true x43_2 (x8_1.length : Int) x43_2 (rd_L1 l0_3 x43_2) ((rd_L1 l0_3 x43_2).length : Int) (wrap64 (x52_3 + 1)) a0_0 a0_1 l0_2 l0_3)) else (none)) else (none)) else (dfa_Infinite.l2 k3 (l0_2.length : Int) t235 x8_3 x9_3 x43_2 (x8_1.length : Int) x43_2 (rd_L1 l0_3 x43_2) ((rd_L1 l0_3 x43_2).length : Int) (wrap64 (x52_3 + 1)) a0_0 a0_1 l0_2 l0_3)) = some r := by rw [← hbq27] at H; exact H
       have Nbq27 := Aside0.mk hbq27
       clear hbq27
       by_cases c28 : bq27 = true
       (focus
       subst c28
       have H1 : (if 0 ≤ x43_2 then (if x43_2 < (x8_3.length : Int) then (if rdOf false x8_3 x43_2 = true then (dfa_Infinite.l2 k3 (l0_2.length : Int) t235 x8_3 x9_3 x43_2 (x8_1.length : Int) x43_2 (rd_L1 l0_3 x43_2) ((rd_L1 l0_3 x43_2).length : Int) (wrap64 (x52_3 + 1)) a0_0 a0_1 l0_2 l0_3) else (dfa_Infinite.l2 k3 (l0_2.length : Int) t235 (x8_3.set (x43_2 : Int).toNat true) true x43_2 (x8_1.length : Int) x43_2 (rd_L1 l0_3 x43_2) ((rd_L1 l0_3 x43_2).length : Int) (wrap64 (x52_3 + 1)) a0_0 a0_1 l0_2 l0_3)) else (none)) else (none)) = some r := by rw [if_pos rfl] at H; exact H
       clear H
       have H := H1
       clear H1
       by_cases c29 : 0 ≤ x43_2
       (focus
       rw [if_pos c29] at H
       have c29b0 : decide (0 ≤ x43_2) = true := decide_eq_true c29
       clear c29
       by_cases c30 : x43_2 < (x8_3.length : Int)
       (focus
       rw [if_pos c30] at H
       have c30b0 : decide (x43_2 < (x8_3.length : Int)) = true := decide_eq_true c30
       (try (have c30b0_hl8_1 := c30b0; simp only [hl8_1] at c30b0_hl8_1))
       (try (have c30b0_hl8_2 := c30b0; simp only [hl8_2] at c30b0_hl8_2))
       (try (have c30b0_hl8_3 := c30b0; simp only [hl8_3] at c30b0_hl8_3))
       clear c30
       obtain ⟨bq31, hbq31⟩ : ∃ b_ : Bool, b_ = (rdOf false x8_3 x43_2) := ⟨_, rfl⟩
       replace H : (if bq31 = true then (dfa_Infinite.l2 k3 (l0_2.length : Int) t235 x8_3 x9_3 x43_2 (x8_1.length : Int) x43_2 (rd_L1 l0_3 x43_2) ((rd_L1 l0_3 x43_2).length : Int) (wrap64 (x52_3 + 1)) a0_0 a0_1 l0_2 l0_3) else (dfa_Infinite.l2 k3 (l0_2.length : Int) t235 (x8_3.set (x43_2 : Int).toNat true) true x43_2 (x8_1.length : Int) x43_2 (rd_L1 l0_3 x43_2) ((rd_L1 l0_3 x43_2).length : Int) (wrap64 (x52_3 + 1)) a0_0 a0_1 l0_2 l0_3)) = some r := by rw [← hbq31] at H; exact H
       have Nbq31 := Aside0.mk hbq31
       clear hbq31
       by_cases c32 : bq31 = true
       (focus
       subst c32
       have H1 : (dfa_Infinite.l2 k3 (l0_2.length : Int) t235 x8_3 x9_3 x43_2 (x8_1.length : Int) x43_2 (rd_L1 l0_3 x43_2) ((rd_L1 l0_3 x43_2).length : Int) (wrap64 (x52_3 + 1)) a0_0 a0_1 l0_2 l0_3) = some r := by rw [if_pos rfl] at H; exact H
       clear H
       have H := H1
       clear H1
       have H' := Aside0.mk H
       clear H
       have p252 : 0 ≤ (x52_3 : Int) := of_decide_eq_true (by first | (with_reducible assumption) | assumption)
       have q252 : x52_3 < ((rd_L1 l0_3 x43_2).length : Int) := of_decide_eq_true (by first | (with_reducible assumption) | assumption)
       obtain ⟨ad252, e252, hx252_0⟩ := Kd.at_int HR251_0.out x52_3 p252 q252
       cases e252
       (try replace hx252_0 := (HB.out.cell (World.block_lt_of_cell? w _ hx252_0)).trans hx252_0)
       replace p252 := eq_true p252
       replace q252 := eq_true q252
       have p253 : 0 ≤ ((rd (rd_L1 l0_3 x43_2) x52_3) : Int) := of_decide_eq_true (by first | (with_reducible assumption) | assumption)
       have q253 : (rd (rd_L1 l0_3 x43_2) x52_3) < (x8_3.length : Int) := of_decide_eq_true (by first | (with_reducible assumption) | assumption)
       obtain ⟨ad253, e253, hx253_0⟩ := Kd.at_bool (Kd.R_reads' HO_8.out).2.2 (rd (rd_L1 l0_3 x43_2) x52_3) p253 q253
       (try rw [← Nbq27.out] at hx253_0)
       (try rw [← Nbq31.out] at hx253_0)
       cases e253
       replace p253 := eq_true p253
       replace q253 := eq_true q253
       have p254 : 0 ≤ (x43_2 : Int) := of_decide_eq_true (by first | (with_reducible assumption) | assumption)
       have q254 : x43_2 < (x8_3.length : Int) := of_decide_eq_true (by first | (with_reducible assumption) | assumption)
       obtain ⟨ad254, e254, hx254_0⟩ := Kd.at_bool (Kd.R_reads' HO_8.out).2.2 x43_2 p254 q254
       (try rw [← Nbq27.out] at hx254_0)
       (try rw [← Nbq31.out] at hx254_0)
       obtain rfl : ad253 = ad254 := (by injection e254)
       replace p254 := eq_true p254
       replace q254 := eq_true q254
       go_wp2
       (try simp only [← hl8_3])
       go_roundg k3
       case measure => have := HK1.out; have := HK2.out; have := HK3.out; omega
       case rel => exact ⟨(x8_3), (x9_3), (wrap64 (x52_3 + 1)), (by first | rfl | (simp; done) | (simp [*]; done)), (by first | rfl | (simp; done) | (simp [*]; done)), H', ⟨by have := HK1.out; have := HK2.out; have := HK3.out; omega⟩, ⟨by (try simp only [hl8_1]); (try simp only [hl8_2]); (try simp only [hl8_3]); (with_reducible repeat (first | apply Kd.R_alloc | apply Kd.R_drewN | apply Kd.R_drew)); exact HO_4.out⟩, ⟨by (try simp only [hl8_1]); (try simp only [hl8_2]); (try simp only [hl8_3]); (with_reducible repeat (first | apply Kd.R_alloc | apply Kd.R_drewN | apply Kd.R_drew)); exact HO_8.out⟩, ⟨by (try simp only [hl8_1]); (try simp only [hl8_2]); (try simp only [hl8_3]); (with_reducible repeat (first | refine blk_drewN ?_ _ | refine blk_drew ?_ | refine blk_alloc ?_ _)); exact BK233.out⟩, ⟨by repeat (first | (with_reducible first | exact HB.out | apply below_alloc | apply pw_below_drewN | apply below_drew1 | refine below_set ?_ GE233.out) | exact HB.out)⟩⟩
       )
       (focus
       replace c32 := Bool.eq_false_iff.mpr c32
       subst c32
       have H1 : (dfa_Infinite.l2 k3 (l0_2.length : Int) t235 (x8_3.set (x43_2 : Int).toNat true) true x43_2 (x8_1.length : Int) x43_2 (rd_L1 l0_3 x43_2) ((rd_L1 l0_3 x43_2).length : Int) (wrap64 (x52_3 + 1)) a0_0 a0_1 l0_2 l0_3) = some r := by rw [if_neg (show ¬ (false = true) by decide)] at H; exact H
       clear H
       have H := H1
       clear H1
       obtain ⟨y255, hy255⟩ : ∃ y_ : List Bool, y_ = (x8_3.set (x43_2 : Int).toNat true) := ⟨_, rfl⟩
       replace H : (dfa_Infinite.l2 k3 (l0_2.length : Int) t235 y255 true x43_2 (x8_1.length : Int) x43_2 (rd_L1 l0_3 x43_2) ((rd_L1 l0_3 x43_2).length : Int) (wrap64 (x52_3 + 1)) a0_0 a0_1 l0_2 l0_3) = some r := by first | (rw [hy255]; with_reducible exact H) | (have H2_ := (Option.bind_some _ _).symm.trans H; rw [hy255]; with_reducible exact H2_) | (have H2_ := (Option.bind_some _ _).symm.trans H; with_reducible exact H2_) | with_reducible exact H | (rw [hy255]; exact H) | exact H
       have Ny255 := Aside0.mk hy255
       clear hy255
       have H' := Aside0.mk H
       clear H
       have p252 : 0 ≤ (x52_3 : Int) := of_decide_eq_true (by first | (with_reducible assumption) | assumption)
       have q252 : x52_3 < ((rd_L1 l0_3 x43_2).length : Int) := of_decide_eq_true (by first | (with_reducible assumption) | assumption)
       obtain ⟨ad252, e252, hx252_0⟩ := Kd.at_int HR251_0.out x52_3 p252 q252
       cases e252
       (try replace hx252_0 := (HB.out.cell (World.block_lt_of_cell? w _ hx252_0)).trans hx252_0)
       replace p252 := eq_true p252
       replace q252 := eq_true q252
       have p253 : 0 ≤ ((rd (rd_L1 l0_3 x43_2) x52_3) : Int) := of_decide_eq_true (by first | (with_reducible assumption) | assumption)
       have q253 : (rd (rd_L1 l0_3 x43_2) x52_3) < (x8_3.length : Int) := of_decide_eq_true (by first | (with_reducible assumption) | assumption)
       obtain ⟨ad253, e253, hx253_0⟩ := Kd.at_bool (Kd.R_reads' HO_8.out).2.2 (rd (rd_L1 l0_3 x43_2) x52_3) p253 q253
       (try rw [← Nbq27.out] at hx253_0)
       (try rw [← Nbq31.out] at hx253_0)
       cases e253
       replace p253 := eq_true p253
       replace q253 := eq_true q253
       have p254 : 0 ≤ (x43_2 : Int) := of_decide_eq_true (by first | (with_reducible assumption) | assumption)
       have q254 : x43_2 < (x8_3.length : Int) := of_decide_eq_true (by first | (with_reducible assumption) | assumption)
       obtain ⟨ad254, e254, hx254_0⟩ := Kd.at_bool (Kd.R_reads' HO_8.out).2.2 x43_2 p254 q254
       (try rw [← Nbq27.out] at hx254_0)
       (try rw [← Nbq31.out] at hx254_0)
       obtain rfl : ad253 = ad254 := (by injection e254)
       replace p254 := eq_true p254
       replace q254 := eq_true q254
       have p33 : 0 ≤ (x43_2 : Int) := of_decide_eq_true (by first | (with_reducible assumption) | assumption)
       have q33 : (x43_2 : Int) < ((x8_3.length : Int) : Int) := of_decide_eq_true (by first | (with_reducible assumption) | assumption)
       obtain ⟨go33, co33, eo33, gb33, gl33, cl33, HG33⟩ := Kd.R_form HO_8.out (by first | omega | (have e_ := (Kd.R_reads' HO_8.out).1; omega))
       (first | cases eo33 | (injection eo33 with ea_ en_ ec_; (first | subst ea_ | (injection ea_ with ea_; subst ea_)); subst ec_; clear en_))
       have GB33 := Aside0.mk gb33
       have GG33 := Aside0.mk HG33
       clear gb33 gl33 HG33
       (first | simp only [add_plain] at hx253_0 | skip)
       (try simp only [Int.toNat_natCast] at hx253_0)
       (first | simp only [add_plain] at hx254_0 | skip)
       (try simp only [Int.toNat_natCast] at hx254_0)
       obtain ⟨hx33_0, hf33_0⟩ := Kd.R_celln false HO_8.out (x43_2 : Int) p33 q33
       replace p33 := eq_true p33
       replace q33 := eq_true q33
       have HP34 := Kd.R_putg HO_8.out (x43_2 : Int) true
       go_wp2_with (first | ((with_reducible refine gate_store (t := 4) (p := 69) rfl ?_); refine store_event (t := 4) (p := 69) (v := ?vo_w35) (w1 := (wr.setCell ⟨go33, (x43_2 : Int).toNat, none⟩ (.bool true))) ?hg ?ho ?hn ?hr ?_; (case ho => rfl); (case hg => rfl); (case hn => rfl); (case hr => first | (go_simp; done) | (go_simp; rfl)); intro w35 hw; have hg : wr.grownBy w35 (some go33) := (by rw [hw]; exact HP34.2); have hp_ : Kd.R Kd.bool 4 w35 w.heap.size (fun _ => True) (.slice (some ⟨go33, 0, none⟩) x8_3.length co16) y255 := (by rw [hw, Ny255.out]; exact HP34.1); clear HP34; have n0_ := Aside0.mk (Kd.R_over' (v := (.slice (some ⟨go33, 0, none⟩) x8_3.length co16)) (uR HO_4.out) (Kd.R_typed HO_8.out) (by decide) hg); have n1_ := Aside0.mk (hp_); have n2_ := Aside0.mk (blk_grown (g := gb233) (o := .cells #[.int .i64 a0_0, .int .i64 a0_1, .slice A0_2 l0_2.length c0_2, .slice (some ad251) l0_3.length c0_3] 25 (0, 0)) (uB BK233.out) hg (Kd.R_ne HO_8.out BK233.out (by decide))); have n3_ := Aside0.mk ((by rw [hw]; exact below_set (HB.out) GB33.out : Below w.heap.size w w35)); clear HO_4; clear HO_8; clear BK233; clear HB; have HO_4 := n0_; have HO_8 := n1_; have BK233 := n2_; have HB := n3_; clear n0_ n1_ n2_ n3_; clear hg hw hp_))
       (try simp only [← hl8_3])
       go_roundg k3
       case measure => have := HK1.out; have := HK2.out; have := HK3.out; omega
       case rel => exact ⟨(y255), (true), (wrap64 (x52_3 + 1)), (by first | rfl | (simp; done) | (simp [*]; done)), (by first | rfl | (simp; done) | (simp [*]; done)), H', ⟨by have := HK1.out; have := HK2.out; have := HK3.out; omega⟩, ⟨by (try simp only [hl8_1]); (try simp only [hl8_2]); (try simp only [hl8_3]); (with_reducible repeat (first | apply Kd.R_alloc | apply Kd.R_drewN | apply Kd.R_drew)); exact HO_4.out⟩, ⟨by (try simp only [hl8_1]); (try simp only [hl8_2]); (try simp only [hl8_3]); (with_reducible repeat (first | apply Kd.R_alloc | apply Kd.R_drewN | apply Kd.R_drew)); exact HO_8.out⟩, ⟨by (try simp only [hl8_1]); (try simp only [hl8_2]); (try simp only [hl8_3]); (with_reducible repeat (first | refine blk_drewN ?_ _ | refine blk_drew ?_ | refine blk_alloc ?_ _)); exact BK233.out⟩, ⟨by repeat (first | (with_reducible first | exact HB.out | apply below_alloc | apply pw_below_drewN | apply below_drew1 | refine below_set ?_ GE233.out) | exact HB.out)⟩⟩
       )
       )
       (focus
       rw [if_neg c30] at H
       exact absurd H (by simp)
       )
       )
       (focus
       rw [if_neg c29] at H
       exact absurd H (by simp)
       )
       )
       (focus
       replace c28 := Bool.eq_false_iff.mpr c28
       subst c28
       have H1 : (dfa_Infinite.l2 k3 (l0_2.length : Int) t235 x8_3 x9_3 x43_2 (x8_1.length : Int) x43_2 (rd_L1 l0_3 x43_2) ((rd_L1 l0_3 x43_2).length : Int) (wrap64 (x52_3 + 1)) a0_0 a0_1 l0_2 l0_3) = some r := by rw [if_neg (show ¬ (false = true) by decide)] at H; exact H
       clear H
       have H := H1
       clear H1
       have H' := Aside0.mk H
       clear H
       have p252 : 0 ≤ (x52_3 : Int) := of_decide_eq_true (by first | (with_reducible assumption) | assumption)
       have q252 : x52_3 < ((rd_L1 l0_3 x43_2).length : Int) := of_decide_eq_true (by first | (with_reducible assumption) | assumption)
       obtain ⟨ad252, e252, hx252_0⟩ := Kd.at_int HR251_0.out x52_3 p252 q252
       cases e252
       (try replace hx252_0 := (HB.out.cell (World.block_lt_of_cell? w _ hx252_0)).trans hx252_0)
       replace p252 := eq_true p252
       replace q252 := eq_true q252
       have p253 : 0 ≤ ((rd (rd_L1 l0_3 x43_2) x52_3) : Int) := of_decide_eq_true (by first | (with_reducible assumption) | assumption)
       have q253 : (rd (rd_L1 l0_3 x43_2) x52_3) < (x8_3.length : Int) := of_decide_eq_true (by first | (with_reducible assumption) | assumption)
       obtain ⟨ad253, e253, hx253_0⟩ := Kd.at_bool (Kd.R_reads' HO_8.out).2.2 (rd (rd_L1 l0_3 x43_2) x52_3) p253 q253
       (try rw [← Nbq27.out] at hx253_0)
       cases e253
       replace p253 := eq_true p253
       replace q253 := eq_true q253
       go_wp2
       (try simp only [← hl8_3])
       go_roundg k3
       case measure => have := HK1.out; have := HK2.out; have := HK3.out; omega
       case rel => exact ⟨(x8_3), (x9_3), (wrap64 (x52_3 + 1)), (by first | rfl | (simp; done) | (simp [*]; done)), (by first | rfl | (simp; done) | (simp [*]; done)), H', ⟨by have := HK1.out; have := HK2.out; have := HK3.out; omega⟩, ⟨by (try simp only [hl8_1]); (try simp only [hl8_2]); (try simp only [hl8_3]); (with_reducible repeat (first | apply Kd.R_alloc | apply Kd.R_drewN | apply Kd.R_drew)); exact HO_4.out⟩, ⟨by (try simp only [hl8_1]); (try simp only [hl8_2]); (try simp only [hl8_3]); (with_reducible repeat (first | apply Kd.R_alloc | apply Kd.R_drewN | apply Kd.R_drew)); exact HO_8.out⟩, ⟨by (try simp only [hl8_1]); (try simp only [hl8_2]); (try simp only [hl8_3]); (with_reducible repeat (first | refine blk_drewN ?_ _ | refine blk_drew ?_ | refine blk_alloc ?_ _)); exact BK233.out⟩, ⟨by repeat (first | (with_reducible first | exact HB.out | apply below_alloc | apply pw_below_drewN | apply below_drew1 | refine below_set ?_ GE233.out) | exact HB.out)⟩⟩
       )
       )
       (focus
       rw [if_neg c26] at H
       exact absurd H (by simp)
       )
       )
       (focus
       rw [if_neg c25] at H
       exact absurd H (by simp)
       )
       )
       (focus
       rw [if_neg c24] at H
       exact absurd H (by simp)
       )
       )
       (focus
       rw [if_neg c23] at H
       exact absurd H (by simp)
       )
       )
       (focus
       rw [if_neg c22] at H
       have c22b0 : decide (x52_3 < ((rd_L1 l0_3 x43_2).length : Int)) = false := decide_eq_false c22
       (try (have c22b0_hl8_1 := c22b0; simp only [hl8_1] at c22b0_hl8_1))
       (try (have c22b0_hl8_2 := c22b0; simp only [hl8_2] at c22b0_hl8_2))
       (try (have c22b0_hl8_3 := c22b0; simp only [hl8_3] at c22b0_hl8_3))
       clear c22
       have H' := Aside0.mk H
       clear H
       go_wp2
       (try simp only [← hl8_2, ← hl8_3])
       go_roundg k3
       case measure => have := HK1.out; have := HK2.out; have := HK3.out; omega
       case rel => exact ⟨(x8_3), (x9_3), (wrap64 (x43_2 + 1)), (by first | rfl | (simp; done) | (simp [*]; done)), (by first | rfl | (simp; done) | (simp [*]; done)), H', ⟨by have := HK1.out; have := HK2.out; have := HK3.out; omega⟩, ⟨by (try simp only [hl8_1]); (try simp only [hl8_2]); (try simp only [hl8_3]); (with_reducible repeat (first | apply Kd.R_alloc | apply Kd.R_drewN | apply Kd.R_drew)); exact HO_4.out⟩, ⟨by (try simp only [hl8_1]); (try simp only [hl8_2]); (try simp only [hl8_3]); (with_reducible repeat (first | apply Kd.R_alloc | apply Kd.R_drewN | apply Kd.R_drew)); exact HO_8.out⟩, ⟨by (try simp only [hl8_1]); (try simp only [hl8_2]); (try simp only [hl8_3]); (with_reducible repeat (first | refine blk_drewN ?_ _ | refine blk_drew ?_ | refine blk_alloc ?_ _)); exact BK233.out⟩, ⟨by repeat (first | (with_reducible first | exact HB.out | apply below_alloc | apply pw_below_drewN | apply below_drew1 | refine below_set ?_ GE233.out) | exact HB.out)⟩⟩
       )
     )
     (focus
     rw [if_neg c20] at H
     exact absurd H (by simp)
     )
     )
     (focus
     rw [if_neg c19] at H
     exact absurd H (by simp)
     )
     )
     (focus
     rw [if_neg c18] at H
     have c18b0 : decide (x43_2 < (x8_1.length : Int)) = false := decide_eq_false c18
     (try (have c18b0_hl8_1 := c18b0; simp only [hl8_1] at c18b0_hl8_1))
     (try (have c18b0_hl8_2 := c18b0; simp only [hl8_2] at c18b0_hl8_2))
     clear c18
     have H' := Aside0.mk H
     clear H
     go_wp2
     (try simp only [← hl8_1, ← hl8_2])
     go_roundg k2
     case measure => have := HK1.out; have := HK2.out; omega
     case rel => exact ⟨(x8_2), (x9_2), (by first | rfl | (simp; done) | (simp [*]; done)), H', ⟨by have := HK1.out; have := HK2.out; omega⟩, ⟨by (try simp only [hl8_1]); (try simp only [hl8_2]); (with_reducible repeat (first | apply Kd.R_alloc | apply Kd.R_drewN | apply Kd.R_drew)); exact HO_4.out⟩, ⟨by (try simp only [hl8_1]); (try simp only [hl8_2]); (with_reducible repeat (first | apply Kd.R_alloc | apply Kd.R_drewN | apply Kd.R_drew)); exact HO_8.out⟩, ⟨by (try simp only [hl8_1]); (try simp only [hl8_2]); (with_reducible repeat (first | refine blk_drewN ?_ _ | refine blk_drew ?_ | refine blk_alloc ?_ _)); exact BK233.out⟩, ⟨by repeat (first | (with_reducible first | exact HB.out | apply below_alloc | apply pw_below_drewN | apply below_drew1 | refine below_set ?_ GE233.out) | exact HB.out)⟩⟩
     )
   )
   (focus
   replace c17 := Bool.eq_false_iff.mpr c17
   subst c17
   have H1 : (if 0 ≤ (l0_2.length : Int) then (if ((l0_2.length : Int) : Int).toNat ≤ 281474976710656 then (dfa_Infinite.l3 k1 x8_1 (List.replicate ((l0_2.length : Int) : Int).toNat false) t235 (t235.length : Int) 0 a0_0 a0_1 l0_2 l0_3) else (none)) else (none)) = some r := by rw [if_neg (show ¬ (false = true) by decide)] at H; exact H
   clear H
   have H := H1
   clear H1
   by_cases c36 : 0 ≤ (l0_2.length : Int)
   (focus
   rw [if_pos c36] at H
   have c36b0 := eq_true c36
   have c36b1 : decide (0 ≤ (l0_2.length : Int)) = true := decide_eq_true c36
   (try (have c36b1_hl8_1 := c36b1; simp only [hl8_1] at c36b1_hl8_1))
   clear c36
   by_cases c37 : ((l0_2.length : Int) : Int).toNat ≤ 281474976710656
   (focus
   rw [if_pos c37] at H
   have c37b0 := eq_true c37
   have c37b1 : decide (((l0_2.length : Int) : Int).toNat ≤ 281474976710656) = true := decide_eq_true c37
   (try (have c37b1_hl8_1 := c37b1; simp only [hl8_1] at c37b1_hl8_1))
   clear c37
   obtain ⟨y256, hy256⟩ : ∃ y_ : List Bool, y_ = (List.replicate ((l0_2.length : Int) : Int).toNat false) := ⟨_, rfl⟩
   replace H : (dfa_Infinite.l3 k1 x8_1 y256 t235 (t235.length : Int) 0 a0_0 a0_1 l0_2 l0_3) = some r := by first | (rw [hy256]; with_reducible exact H) | (have H2_ := (Option.bind_some _ _).symm.trans H; rw [hy256]; with_reducible exact H2_) | (have H2_ := (Option.bind_some _ _).symm.trans H; with_reducible exact H2_) | with_reducible exact H | (rw [hy256]; exact H) | exact H
   have Ny256 := Aside0.mk hy256
   clear hy256
   have H' := Aside0.mk H
   clear H
   go_wp2_with (first | ((with_reducible refine gate_dst (N := 73) rfl ?_); refine Kd.R_make Kd.bool _ 4 rfl (N := 73) rfl 22 _ _ rfl (l0_2.length : Int) rfl rfl Try.underlying22 (.bool false) 1 info4 rfl (by decide) (by omega) false (ok := fun _ => True) (okp := fun _ => True) rfl (fun _ hk => hk) trivial (of_decide_eq_true (by first | (with_reducible assumption) | assumption)) (Nat.le_trans (Nat.mul_le_mul_right _ (of_decide_eq_true (by first | (with_reducible assumption) | assumption) : (l0_2.length : Int).toNat ≤ 281474976710656)) (by omega)) (Below.refl _ _) (Nat.le_refl _) ?_; intro v257 w38 ho39 hb hg_ hnew_; clear hg_ hnew_; (first | rw [← Ny256.out] at ho39 | (simp only [Int.reduceToNat] at ho39; rw [← Ny256.out] at ho39)); have n0_ := Aside0.mk (Kd.R_below (uR HO_4.out) hb); have n1_ := Aside0.mk (Kd.R_elder' (uR HO_8.out) (Kd.R_base ho39) hb); have n2_ := Aside0.mk (Kd.R_lower (Kd.R_new' ho39 (Kd.R_lt (uR HO_8.out))) (below_size (by repeat (first | (with_reducible first | exact HB.out | apply below_alloc | apply pw_below_drewN | apply below_drew1 | refine below_set ?_ GE233.out) | exact HB.out)))); have n3_ := Aside0.mk (blk_below (g := gb233) (o := .cells #[.int .i64 a0_0, .int .i64 a0_1, .slice A0_2 l0_2.length c0_2, .slice A0_3 l0_3.length c0_3] 25 (0, 0)) (uB BK233.out) hb); have n4_ := Aside0.mk (below_step (by repeat (first | (with_reducible first | exact HB.out | apply below_alloc | apply pw_below_drewN | apply below_drew1 | refine below_set ?_ GE233.out) | exact HB.out)) hb); clear HO_4; clear HO_8; clear BK233; clear HB; have HO_4 := n0_; have HO_8 := n1_; have HO258 := n2_; have BK233 := n3_; have HB := n4_; clear n0_ n1_ n2_ n3_ n4_; clear hb ho39; obtain ⟨Ao40, co40, eo40⟩ := Kd.R_slice HO_4.out; subst eo40))
   go_loopg [76] k1 (fun kq v76 w' => ∃ (x13_2 : List Bool) (x76_2 : Int), v76 = .int .i64 x76_2 ∧ Aside0 (dfa_Infinite.l3 kq x8_1 x13_2 t235 (t235.length : Int) x76_2 a0_0 a0_1 l0_2 l0_3 = some r) ∧ Aside0 (kq ≤ k1) ∧ Aside0 (Kd.R Kd.bool 4 w' w.heap.size (fun k_ => some k_ ≠ (v257 : Value).ownBlock) (.slice Ao16 x8_1.length co16) x8_1) ∧ Aside0 (Kd.R Kd.bool 4 w' w.heap.size (fun k_ => some k_ ≠ ((.slice Ao16 x8_1.length co16) : Value).ownBlock) v257 x13_2) ∧ Aside0 (Kd.R (Kd.int .i64) 3 w' w.heap.size (fun _ => True) (.slice Ao40 t235.length co40) t235) ∧ Aside0 (w'.heap[gb233]? = some (.cells #[.int .i64 a0_0, .int .i64 a0_1, (.slice A0_2 l0_2.length c0_2), (.slice A0_3 l0_3.length c0_3)] 25 (0, 0))) ∧ Aside0 (Below w.heap.size w w'))
   case atStart => exact ⟨(y256), (0), (by first | rfl | (simp; done) | (simp [*]; done)), H', ⟨Nat.le_refl _⟩, ⟨by (try simp only [hl8_1]); (with_reducible repeat (first | apply Kd.R_alloc | apply Kd.R_drewN | apply Kd.R_drew)); exact Kd.R_mono HO_8.out (fun _ hk => hk.2)⟩, ⟨by (try simp only [hl8_1]); (with_reducible repeat (first | apply Kd.R_alloc | apply Kd.R_drewN | apply Kd.R_drew)); exact Kd.R_mono HO258.out (fun _ hk => hk.2)⟩, ⟨by (try simp only [hl8_1]); (with_reducible repeat (first | apply Kd.R_alloc | apply Kd.R_drewN | apply Kd.R_drew)); exact HO_4.out⟩, ⟨by (try simp only [hl8_1]); (with_reducible repeat (first | refine blk_drewN ?_ _ | refine blk_drew ?_ | refine blk_alloc ?_ _)); exact BK233.out⟩, ⟨by repeat (first | (with_reducible first | exact HB.out | apply below_alloc | apply pw_below_drewN | apply below_drew1 | refine below_set ?_ GE233.out) | exact HB.out)⟩⟩
   case round =>
    clear H'
    try clear c1
    try clear c2
    try clear p2
    try clear q2
    try clear hx2
    try clear c3
    try clear c3b0
    try clear c3b1
    try clear p3
    try clear q3
    try clear hx3
    try clear hf3
    try clear c4
    try clear c5
    try clear c5b0
    try clear c5b1
    try clear c6
    try clear c6b0
    try clear c6b1
    try clear p6
    try clear c14
    try clear c17
    try clear c18
    try clear c18b0
    try clear c19
    try clear c19b0
    try clear c20
    try clear c20b0
    try clear c22
    try clear c22b0
    try clear c23
    try clear c23b0
    try clear c24
    try clear c24b0
    try clear c25
    try clear c25b0
    try clear p25
    try clear q25
    try clear hx25
    try clear c26
    try clear c26b0
    try clear q27
    try clear c28
    try clear c29
    try clear c29b0
    try clear c30
    try clear c30b0
    try clear q31
    try clear c32
    try clear p33
    try clear q33
    try clear hx33
    try clear hf33
    try clear c36
    try clear c36b0
    try clear c36b1
    try clear c37
    try clear c37b0
    try clear c37b1
    try clear c38
    try clear hcz10_0
    try clear hcz10_1
    try clear hcz10_2
    try clear hcz10_3
    try clear hcz14_0
    try clear hcz14_1
    try clear hcz14_2
    try clear hcz14_3
    try clear hcz21_0
    try clear hcz21_1
    try clear hcz21_2
    try clear hcz21_3
    try clear hcz8_0
    try clear hcz8_1
    try clear hcz8_2
    try clear hcz8_3
    try clear hfz10_0
    try clear hfz10_1
    try clear hfz10_2
    try clear hfz10_3
    try clear hfz14_0
    try clear hfz14_1
    try clear hfz14_2
    try clear hfz14_3
    try clear hfz21_0
    try clear hfz21_1
    try clear hfz21_2
    try clear hfz21_3
    try clear hfz8_0
    try clear hfz8_1
    try clear hfz8_2
    try clear hfz8_3
    try clear hx251_0
    try clear hx252_0
    try clear hx253_0
    try clear hx254_0
    try clear hx33_0
    try clear p2
    try clear p251
    try clear p252
    try clear p253
    try clear p254
    try clear p33
    try clear q2
    try clear q251
    try clear q252
    try clear q253
    try clear q254
    try clear q33
    obtain ⟨x13_2, x76_2, rfl, HA, HK2, HO_8, HO_13, HO_74, BK233, HB⟩ := hrel
    cases gk with
    | zero => exact absurd HA.out (by simp [dfa_Infinite.l3])
    | succ k2 =>
     have H := HA.out
     clear HA
     simp only [dfa_Infinite.l3] at H
     by_cases c41 : x76_2 < (t235.length : Int)
     (focus
     rw [if_pos c41] at H
     have c41b0 : decide (x76_2 < (t235.length : Int)) = true := decide_eq_true c41
     (try (have c41b0_hl8_1 := c41b0; simp only [hl8_1] at c41b0_hl8_1))
     clear c41
     by_cases c42 : 0 ≤ x76_2
     (focus
     rw [if_pos c42] at H
     have c42b0 : decide (0 ≤ x76_2) = true := decide_eq_true c42
     clear c42
     by_cases c43 : x76_2 < (t235.length : Int)
     (focus
     rw [if_pos c43] at H
     have c43b0 : decide (x76_2 < (t235.length : Int)) = true := decide_eq_true c43
     (try (have c43b0_hl8_1 := c43b0; simp only [hl8_1] at c43b0_hl8_1))
     clear c43
     by_cases c44 : 0 ≤ (rd t235 x76_2)
     (focus
     rw [if_pos c44] at H
     have c44b0 : decide (0 ≤ (rd t235 x76_2)) = true := decide_eq_true c44
     clear c44
     by_cases c45 : (rd t235 x76_2) < (x8_1.length : Int)
     (focus
     rw [if_pos c45] at H
     have c45b0 : decide ((rd t235 x76_2) < (x8_1.length : Int)) = true := decide_eq_true c45
     (try (have c45b0_hl8_1 := c45b0; simp only [hl8_1] at c45b0_hl8_1))
     clear c45
     by_cases c46 : (rd t235 x76_2) < (x13_2.length : Int)
     (focus
     rw [if_pos c46] at H
     have c46b0 : decide ((rd t235 x76_2) < (x13_2.length : Int)) = true := decide_eq_true c46
     (try (have c46b0_hl8_1 := c46b0; simp only [hl8_1] at c46b0_hl8_1))
     clear c46
     obtain ⟨y261, hy261⟩ : ∃ y_ : List Bool, y_ = (x13_2.set ((rd t235 x76_2) : Int).toNat (rdOf false x8_1 (rd t235 x76_2))) := ⟨_, rfl⟩
     replace H : (dfa_Infinite.l3 k2 x8_1 y261 t235 (t235.length : Int) (wrap64 (x76_2 + 1)) a0_0 a0_1 l0_2 l0_3) = some r := by first | (rw [hy261]; with_reducible exact H) | (have H2_ := (Option.bind_some _ _).symm.trans H; rw [hy261]; with_reducible exact H2_) | (have H2_ := (Option.bind_some _ _).symm.trans H; with_reducible exact H2_) | with_reducible exact H | (rw [hy261]; exact H) | exact H
     have Ny261 := Aside0.mk hy261
     clear hy261
     have H' := Aside0.mk H
     clear H
     have p259 : 0 ≤ (x76_2 : Int) := of_decide_eq_true (by first | (with_reducible assumption) | assumption)
     have q259 : x76_2 < (t235.length : Int) := of_decide_eq_true (by first | (with_reducible assumption) | assumption)
     obtain ⟨ad259, e259, hx259_0⟩ := Kd.at_int (Kd.R_reads' HO_74.out).2.2 x76_2 p259 q259
     cases e259
     replace p259 := eq_true p259
     replace q259 := eq_true q259
     have p260 : 0 ≤ ((rd t235 x76_2) : Int) := of_decide_eq_true (by first | (with_reducible assumption) | assumption)
     have q260 : (rd t235 x76_2) < (x8_1.length : Int) := of_decide_eq_true (by first | (with_reducible assumption) | assumption)
     obtain ⟨ad260, e260, hx260_0⟩ := Kd.at_bool (Kd.R_reads' HO_8.out).2.2 (rd t235 x76_2) p260 q260
     cases e260
     replace p260 := eq_true p260
     replace q260 := eq_true q260
     have p47 : 0 ≤ ((rd t235 x76_2) : Int) := of_decide_eq_true (by first | (with_reducible assumption) | assumption)
     have q47 : ((rd t235 x76_2) : Int) < ((x13_2.length : Int) : Int) := of_decide_eq_true (by first | (with_reducible assumption) | assumption)
     obtain ⟨go47, co47, eo47, gb47, gl47, cl47, HG47⟩ := Kd.R_form HO_13.out (by first | omega | (have e_ := (Kd.R_reads' HO_13.out).1; omega))
     (first | cases eo47 | (injection eo47 with ea_ en_ ec_; (first | subst ea_ | (injection ea_ with ea_; subst ea_)); subst ec_; clear en_))
     have GB47 := Aside0.mk gb47
     have GG47 := Aside0.mk HG47
     clear gb47 gl47 HG47
     obtain ⟨hx47_0, hf47_0⟩ := Kd.R_celln false HO_13.out ((rd t235 x76_2) : Int) p47 q47
     replace p47 := eq_true p47
     replace q47 := eq_true q47
     have HP48 := Kd.R_putg HO_13.out ((rd t235 x76_2) : Int) (rdOf false x8_1 (rd t235 x76_2))
     go_wp2_with (first | ((with_reducible refine gate_store (t := 4) (p := 86) rfl ?_); refine store_event (t := 4) (p := 86) (v := ?vo_w49) (w1 := (wr.setCell ⟨go47, ((rd t235 x76_2) : Int).toNat, none⟩ (.bool (rdOf false x8_1 (rd t235 x76_2))))) ?hg ?ho ?hn ?hr ?_; (case ho => rfl); (case hg => rfl); (case hn => rfl); (case hr => first | (go_simp; done) | (go_simp; rfl)); intro w49 hw; have hg : wr.grownBy w49 (some go47) := (by rw [hw]; exact HP48.2); have hp_ : Kd.R Kd.bool 4 w49 w.heap.size (fun k_ => some k_ ≠ (.slice (some ad260) x8_1.length co16 : Value).ownBlock) (.slice (some ⟨go47, 0, none⟩) x13_2.length co47) y261 := (by rw [hw, Ny261.out]; exact HP48.1); clear HP48; have n0_ := Aside0.mk (Kd.R_after (v := (.slice (some ⟨go47, 0, none⟩) x13_2.length co47)) (v1 := (.slice (some ⟨go47, 0, none⟩) x13_2.length co47)) (ok := (fun _ => True)) (uR (Kd.R_mono HO_8.out (fun _ hk => ⟨trivial, hk⟩))) hg (.inl rfl)); have n1_ := Aside0.mk (hp_); have n2_ := Aside0.mk (Kd.R_over' (v := (.slice (some ⟨go47, 0, none⟩) x13_2.length co47)) (uR HO_74.out) (Kd.R_typed HO_13.out) (by decide) hg); have n3_ := Aside0.mk (blk_grown (g := gb233) (o := .cells #[.int .i64 a0_0, .int .i64 a0_1, .slice A0_2 l0_2.length c0_2, .slice A0_3 l0_3.length c0_3] 25 (0, 0)) (uB BK233.out) hg (Kd.R_ne HO_13.out BK233.out (by decide))); have n4_ := Aside0.mk ((by rw [hw]; exact below_set (HB.out) GB47.out : Below w.heap.size w w49)); clear HO_8; clear HO_13; clear HO_74; clear BK233; clear HB; have HO_8 := n0_; have HO_13 := n1_; have HO_74 := n2_; have BK233 := n3_; have HB := n4_; clear n0_ n1_ n2_ n3_ n4_; clear hg hw hp_))
     go_roundg k2
     case measure => have := HK1.out; have := HK2.out; omega
     case rel => exact ⟨(y261), (wrap64 (x76_2 + 1)), (by first | rfl | (simp; done) | (simp [*]; done)), H', ⟨by have := HK1.out; have := HK2.out; omega⟩, ⟨by (try simp only [hl8_1]); (with_reducible repeat (first | apply Kd.R_alloc | apply Kd.R_drewN | apply Kd.R_drew)); exact Kd.R_mono HO_8.out (fun _ hk => hk.2)⟩, ⟨by (try simp only [hl8_1]); (with_reducible repeat (first | apply Kd.R_alloc | apply Kd.R_drewN | apply Kd.R_drew)); exact HO_13.out⟩, ⟨by (try simp only [hl8_1]); (with_reducible repeat (first | apply Kd.R_alloc | apply Kd.R_drewN | apply Kd.R_drew)); exact HO_74.out⟩, ⟨by (try simp only [hl8_1]); (with_reducible repeat (first | refine blk_drewN ?_ _ | refine blk_drew ?_ | refine blk_alloc ?_ _)); exact BK233.out⟩, ⟨by repeat (first | (with_reducible first | exact HB.out | apply below_alloc | apply pw_below_drewN | apply below_drew1 | refine below_set ?_ GE233.out) | exact HB.out)⟩⟩
     )
     (focus
     rw [if_neg c46] at H
     exact absurd H (by simp)
     )
     )
     (focus
     rw [if_neg c45] at H
     exact absurd H (by simp)
     )
     )
     (focus
     rw [if_neg c44] at H
     exact absurd H (by simp)
     )
     )
     (focus
     rw [if_neg c43] at H
     exact absurd H (by simp)
     )
     )
     (focus
     rw [if_neg c42] at H
     exact absurd H (by simp)
     )
     )
     (focus
     rw [if_neg c41] at H
     have c41b0 : decide (x76_2 < (t235.length : Int)) = false := decide_eq_false c41
     (try (have c41b0_hl8_1 := c41b0; simp only [hl8_1] at c41b0_hl8_1))
     clear c41
     have H' := Aside0.mk H
     clear H
     go_wp2
     go_loopg [16] k2 (fun kq v16 w' => ∃ (x13_3 : List Bool) (x16_3 : Bool), v16 = .bool x16_3 ∧ Aside0 (dfa_Infinite.l4 kq x13_3 x16_3 a0_0 a0_1 l0_2 l0_3 = some r) ∧ Aside0 (kq ≤ k2) ∧ Aside0 (Kd.R Kd.bool 4 w' w.heap.size (fun _ => True) v257 x13_3) ∧ Aside0 (w'.heap[gb233]? = some (.cells #[.int .i64 a0_0, .int .i64 a0_1, (.slice A0_2 l0_2.length c0_2), (.slice A0_3 l0_3.length c0_3)] 25 (0, 0))) ∧ Aside0 (Below w.heap.size w w'))
     case atStart => exact ⟨(x13_2), (true), (by first | rfl | (simp; done) | (simp [*]; done)), H', ⟨Nat.le_refl _⟩, ⟨by (try simp only [hl8_1]); (with_reducible repeat (first | apply Kd.R_alloc | apply Kd.R_drewN | apply Kd.R_drew)); exact Kd.R_mono HO_13.out (fun _ hk => trivial)⟩, ⟨by (try simp only [hl8_1]); (with_reducible repeat (first | refine blk_drewN ?_ _ | refine blk_drew ?_ | refine blk_alloc ?_ _)); exact BK233.out⟩, ⟨by repeat (first | (with_reducible first | exact HB.out | apply below_alloc | apply pw_below_drewN | apply below_drew1 | refine below_set ?_ GE233.out) | exact HB.out)⟩⟩
     case round =>
      clear H'
      try clear c1
      try clear c2
      try clear p2
      try clear q2
      try clear hx2
      try clear c3
      try clear c3b0
      try clear c3b1
      try clear p3
      try clear q3
      try clear hx3
      try clear hf3
      try clear c4
      try clear p4
      try clear q4
      try clear hx4
      try clear hf4
      try clear c5
      try clear c5b0
      try clear c5b1
      try clear c6
      try clear c6b0
      try clear c6b1
      try clear p6
      try clear c14
      try clear c17
      try clear c18
      try clear c18b0
      try clear c19
      try clear c19b0
      try clear c20
      try clear c20b0
      try clear c22
      try clear c22b0
      try clear c23
      try clear c23b0
      try clear c24
      try clear c24b0
      try clear c25
      try clear c25b0
      try clear p25
      try clear q25
      try clear hx25
      try clear c26
      try clear c26b0
      try clear p26
      try clear q26
      try clear hx26
      try clear q27
      try clear c28
      try clear c29
      try clear c29b0
      try clear c30
      try clear c30b0
      try clear q31
      try clear c32
      try clear p33
      try clear q33
      try clear hx33
      try clear hf33
      try clear c36
      try clear c36b0
      try clear c36b1
      try clear c37
      try clear c37b0
      try clear c37b1
      try clear c38
      try clear c41
      try clear c41b0
      try clear c42
      try clear c42b0
      try clear c43
      try clear c43b0
      try clear c44
      try clear c44b0
      try clear c45
      try clear c45b0
      try clear c46
      try clear c46b0
      try clear p47
      try clear q47
      try clear hx47
      try clear hf47
      try clear hcz10_0
      try clear hcz10_1
      try clear hcz10_2
      try clear hcz10_3
      try clear hcz14_0
      try clear hcz14_1
      try clear hcz14_2
      try clear hcz14_3
      try clear hcz21_0
      try clear hcz21_1
      try clear hcz21_2
      try clear hcz21_3
      try clear hcz8_0
      try clear hcz8_1
      try clear hcz8_2
      try clear hcz8_3
      try clear hfz10_0
      try clear hfz10_1
      try clear hfz10_2
      try clear hfz10_3
      try clear hfz14_0
      try clear hfz14_1
      try clear hfz14_2
      try clear hfz14_3
      try clear hfz21_0
      try clear hfz21_1
      try clear hfz21_2
      try clear hfz21_3
      try clear hfz8_0
      try clear hfz8_1
      try clear hfz8_2
      try clear hfz8_3
      try clear hx251_0
      try clear hx252_0
      try clear hx253_0
      try clear hx254_0
      try clear hx259_0
      try clear hx260_0
      try clear hx33_0
      try clear hx47_0
      try clear p2
      try clear p25
      try clear p251
      try clear p252
      try clear p253
      try clear p254
      try clear p259
      try clear p260
      try clear p3
      try clear p33
      try clear p47
      try clear p6
      try clear q2
      try clear q25
      try clear q251
      try clear q252
      try clear q253
      try clear q254
      try clear q259
      try clear q260
      try clear q27
      try clear q3
      try clear q31
      try clear q33
      try clear q47
      obtain ⟨x13_3, x16_3, rfl, HA, HK3, HO_13, BK233, HB⟩ := hrel
      cases gk with
      | zero => exact absurd HA.out (by simp [dfa_Infinite.l4])
      | succ k3 =>
       have H := HA.out
       clear HA
       simp only [dfa_Infinite.l4] at H
       by_cases c50 : x16_3 = true
       (focus
       subst c50
       have H1 : (dfa_Infinite.l5 k3 x13_3 false (x13_3.length : Int) 0 a0_0 a0_1 l0_2 l0_3) = some r := by rw [if_pos rfl] at H; exact H
       clear H
       have H := H1
       clear H1
       have H' := Aside0.mk H
       clear H
       obtain ⟨Ao51, co51, eo51⟩ := Kd.R_slice HO_13.out
       subst eo51
       go_wp2
       go_loopg [16, 91] k3 (fun kq v16 v91 w' => ∃ (x13_4 : List Bool) (x16_4 : Bool) (x91_4 : Int), v16 = .bool x16_4 ∧ v91 = .int .i64 x91_4 ∧ Aside0 (dfa_Infinite.l5 kq x13_4 x16_4 (x13_3.length : Int) x91_4 a0_0 a0_1 l0_2 l0_3 = some r) ∧ Aside0 (kq ≤ k3) ∧ Aside0 (Kd.R Kd.bool 4 w' w.heap.size (fun _ => True) (.slice Ao51 x13_3.length co51) x13_4) ∧ Aside0 (w'.heap[gb233]? = some (.cells #[.int .i64 a0_0, .int .i64 a0_1, (.slice A0_2 l0_2.length c0_2), (.slice A0_3 l0_3.length c0_3)] 25 (0, 0))) ∧ Aside0 (Below w.heap.size w w'))
       case atStart => exact ⟨(x13_3), (false), (0), (by first | rfl | (simp; done) | (simp [*]; done)), (by first | rfl | (simp; done) | (simp [*]; done)), H', ⟨Nat.le_refl _⟩, ⟨by (try simp only [hl8_1]); (with_reducible repeat (first | apply Kd.R_alloc | apply Kd.R_drewN | apply Kd.R_drew)); exact HO_13.out⟩, ⟨by (try simp only [hl8_1]); (with_reducible repeat (first | refine blk_drewN ?_ _ | refine blk_drew ?_ | refine blk_alloc ?_ _)); exact BK233.out⟩, ⟨by repeat (first | (with_reducible first | exact HB.out | apply below_alloc | apply pw_below_drewN | apply below_drew1 | refine below_set ?_ GE233.out) | exact HB.out)⟩⟩
       case round =>
        clear H'
        try clear c1
        try clear c2
        try clear p2
        try clear q2
        try clear hx2
        try clear c3
        try clear c3b0
        try clear c3b1
        try clear p3
        try clear q3
        try clear hx3
        try clear hf3
        try clear c4
        try clear p4
        try clear q4
        try clear hx4
        try clear hf4
        try clear c5
        try clear c5b0
        try clear c5b1
        try clear c6
        try clear c6b0
        try clear c6b1
        try clear p6
        try clear c14
        try clear c17
        try clear c18
        try clear c18b0
        try clear c19
        try clear c19b0
        try clear c20
        try clear c20b0
        try clear c22
        try clear c22b0
        try clear c23
        try clear c23b0
        try clear c24
        try clear c24b0
        try clear c25
        try clear c25b0
        try clear p25
        try clear q25
        try clear hx25
        try clear c26
        try clear c26b0
        try clear p26
        try clear q26
        try clear hx26
        try clear q27
        try clear c28
        try clear c29
        try clear c29b0
        try clear c30
        try clear c30b0
        try clear q31
        try clear c32
        try clear p33
        try clear q33
        try clear hx33
        try clear hf33
        try clear c36
        try clear c36b0
        try clear c36b1
        try clear c37
        try clear c37b0
        try clear c37b1
        try clear c38
        try clear c41
        try clear c41b0
        try clear c42
        try clear c42b0
        try clear c43
        try clear c43b0
        try clear c44
        try clear c44b0
        try clear c45
        try clear c45b0
        try clear c46
        try clear c46b0
        try clear p47
        try clear q47
        try clear hx47
        try clear hf47
        try clear c50
        try clear hcz10_0
        try clear hcz10_1
        try clear hcz10_2
        try clear hcz10_3
        try clear hcz14_0
        try clear hcz14_1
        try clear hcz14_2
        try clear hcz14_3
        try clear hcz21_0
        try clear hcz21_1
        try clear hcz21_2
        try clear hcz21_3
        try clear hcz8_0
        try clear hcz8_1
        try clear hcz8_2
        try clear hcz8_3
        try clear hfz10_0
        try clear hfz10_1
        try clear hfz10_2
        try clear hfz10_3
        try clear hfz14_0
        try clear hfz14_1
        try clear hfz14_2
        try clear hfz14_3
        try clear hfz21_0
        try clear hfz21_1
        try clear hfz21_2
        try clear hfz21_3
        try clear hfz8_0
        try clear hfz8_1
        try clear hfz8_2
        try clear hfz8_3
        try clear hx251_0
        try clear hx252_0
        try clear hx253_0
        try clear hx254_0
        try clear hx259_0
        try clear hx260_0
        try clear hx33_0
        try clear hx47_0
        try clear p2
        try clear p25
        try clear p251
        try clear p252
        try clear p253
        try clear p254
        try clear p259
        try clear p26
        try clear p260
        try clear p3
        try clear p33
        try clear p4
        try clear p47
        try clear p6
        try clear q2
        try clear q25
        try clear q251
        try clear q252
        try clear q253
        try clear q254
        try clear q259
        try clear q26
        try clear q260
        try clear q27
        try clear q3
        try clear q31
        try clear q33
        try clear q4
        try clear q47
        obtain ⟨x13_4, x16_4, x91_4, rfl, rfl, HA, HK4, HO_13, BK233, HB⟩ := hrel
        have hl13_4 := (Kd.R_reads' HO_13.out).1
        rw [hl13_4] at HO_13
        (try simp only [hl13_4])
        (try simp only [hl13_4] at BK233)
        cases gk with
        | zero => exact absurd HA.out (by simp [dfa_Infinite.l5])
        | succ k4 =>
         have H := HA.out
         clear HA
         simp only [dfa_Infinite.l5] at H
         by_cases c52 : x91_4 < (x13_3.length : Int)
         (focus
         rw [if_pos c52] at H
         have c52b0 : decide (x91_4 < (x13_3.length : Int)) = true := decide_eq_true c52
         (try (have c52b0_hl8_1 := c52b0; simp only [hl8_1] at c52b0_hl8_1))
         (try (have c52b0_hl13_4 := c52b0; simp only [hl13_4] at c52b0_hl13_4))
         clear c52
         by_cases c53 : 0 ≤ x91_4
         (focus
         rw [if_pos c53] at H
         have c53b0 : decide (0 ≤ x91_4) = true := decide_eq_true c53
         clear c53
         by_cases c54 : x91_4 < (x13_4.length : Int)
         (focus
         rw [if_pos c54] at H
         have c54b0 : decide (x91_4 < (x13_4.length : Int)) = true := decide_eq_true c54
         (try (have c54b0_hl8_1 := c54b0; simp only [hl8_1] at c54b0_hl8_1))
         (try (have c54b0_hl13_4 := c54b0; simp only [hl13_4] at c54b0_hl13_4))
         clear c54
         obtain ⟨bq55, hbq55⟩ : ∃ b_ : Bool, b_ = (rdOf false x13_4 x91_4) := ⟨_, rfl⟩
         replace H : (if bq55 = true then (if x91_4 < (l0_3.length : Int) then (dfa_Infinite.l6 k4 x13_4 x16_4 x91_4 false (x13_3.length : Int) x91_4 (rd_L1 l0_3 x91_4) ((rd_L1 l0_3 x91_4).length : Int) 0 a0_0 a0_1 l0_2 l0_3) else (none)) else (dfa_Infinite.l5 k4 x13_4 x16_4 (x13_3.length : Int) (wrap64 (x91_4 + 1)) a0_0 a0_1 l0_2 l0_3)) = some r := by rw [← hbq55] at H; exact H
         have Nbq55 := Aside0.mk hbq55
         clear hbq55
         by_cases c56 : bq55 = true
         (focus
         subst c56
         have H1 : (if x91_4 < (l0_3.length : Int) then (dfa_Infinite.l6 k4 x13_4 x16_4 x91_4 false (x13_3.length : Int) x91_4 (rd_L1 l0_3 x91_4) ((rd_L1 l0_3 x91_4).length : Int) 0 a0_0 a0_1 l0_2 l0_3) else (none)) = some r := by rw [if_pos rfl] at H; exact H
         clear H
         have H := H1
         clear H1
         by_cases c57 : x91_4 < (l0_3.length : Int)
         (focus
         rw [if_pos c57] at H
         have c57b0 : decide (x91_4 < (l0_3.length : Int)) = true := decide_eq_true c57
         (try (have c57b0_hl8_1 := c57b0; simp only [hl8_1] at c57b0_hl8_1))
         (try (have c57b0_hl13_4 := c57b0; simp only [hl13_4] at c57b0_hl13_4))
         clear c57
         have H' := Aside0.mk H
         clear H
         have p263 : 0 ≤ (x91_4 : Int) := of_decide_eq_true (by first | (with_reducible assumption) | assumption)
         have q263 : x91_4 < (x13_4.length : Int) := of_decide_eq_true (by first | (with_reducible assumption) | assumption)
         obtain ⟨ad263, e263, hx263_0⟩ := Kd.at_bool (Kd.R_reads' HO_13.out).2.2 x91_4 p263 q263
         (try rw [← Nbq55.out] at hx263_0)
         cases e263
         replace p263 := eq_true p263
         replace q263 := eq_true q263
         have hcz58_0 : wr.cell? ⟨gb233, 0, none⟩ = some (.int .i64 a0_0) := (blk_cell BK233.out 0).trans rfl
         have hcz58_1 : wr.cell? ⟨gb233, 1, none⟩ = some (.int .i64 a0_1) := (blk_cell BK233.out 1).trans rfl
         have hcz58_2 : wr.cell? ⟨gb233, 2, none⟩ = some (.slice A0_2 l0_2.length c0_2) := (blk_cell BK233.out 2).trans rfl
         have hcz58_3 : wr.cell? ⟨gb233, 3, none⟩ = some (.slice A0_3 l0_3.length c0_3) := (blk_cell BK233.out 3).trans rfl
         have hfz58_0 := blk_frozen BK233.out 0
         have hfz58_1 := blk_frozen BK233.out 1
         have hfz58_2 := blk_frozen BK233.out 2
         have hfz58_3 := blk_frozen BK233.out 3
         have p264 : 0 ≤ (x91_4 : Int) := of_decide_eq_true (by first | (with_reducible assumption) | assumption)
         have q264 : x91_4 < (l0_3.length : Int) := of_decide_eq_true (by first | (with_reducible assumption) | assumption)
         obtain ⟨ad264, A264_0, c264_0, e264, hx264_0, hl264_0, hi264_0⟩ := at_L1 HR0_3.out x91_4 p264 q264
         cases e264
         (try replace hx264_0 := (HB.out.cell (World.block_lt_of_cell? w _ hx264_0)).trans hx264_0)
         have HR264_0 := Aside0.mk hi264_0
         have HC264_0 := Aside0.mk hl264_0
         clear hi264_0 hl264_0
         replace p264 := eq_true p264
         replace q264 := eq_true q264
         go_wp2
         go_loopg [18, 105] k4 (fun kq v18 v105 w' => ∃ (x18_5 : Bool) (x105_5 : Int), v18 = .bool x18_5 ∧ v105 = .int .i64 x105_5 ∧ Aside0 (dfa_Infinite.l6 kq x13_4 x16_4 x91_4 x18_5 (x13_3.length : Int) x91_4 (rd_L1 l0_3 x91_4) ((rd_L1 l0_3 x91_4).length : Int) x105_5 a0_0 a0_1 l0_2 l0_3 = some r) ∧ Aside0 (kq ≤ k4) ∧ Aside0 (Kd.R Kd.bool 4 w' w.heap.size (fun _ => True) (.slice (some ad263) x13_4.length co51) x13_4) ∧ Aside0 (w'.heap[gb233]? = some (.cells #[.int .i64 a0_0, .int .i64 a0_1, (.slice A0_2 l0_2.length c0_2), (.slice (some ad264) l0_3.length c0_3)] 25 (0, 0))) ∧ Aside0 (Below w.heap.size w w'))
         case atStart => exact ⟨(false), (0), (by first | rfl | (simp; done) | (simp [*]; done)), (by first | rfl | (simp; done) | (simp [*]; done)), H', ⟨Nat.le_refl _⟩, ⟨by (try simp only [hl8_1]); (try simp only [hl13_4]); (with_reducible repeat (first | apply Kd.R_alloc | apply Kd.R_drewN | apply Kd.R_drew)); exact HO_13.out⟩, ⟨by (try simp only [hl8_1]); (try simp only [hl13_4]); (with_reducible repeat (first | refine blk_drewN ?_ _ | refine blk_drew ?_ | refine blk_alloc ?_ _)); exact BK233.out⟩, ⟨by repeat (first | (with_reducible first | exact HB.out | apply below_alloc | apply pw_below_drewN | apply below_drew1 | refine below_set ?_ GE233.out) | exact HB.out)⟩⟩
         case round =>
          clear H'
          try clear c1
          try clear c2
          try clear p2
          try clear q2
          try clear hx2
          try clear c3
          try clear c3b0
          try clear c3b1
          try clear p3
          try clear q3
          try clear hx3
          try clear hf3
          try clear c4
          try clear p4
          try clear q4
          try clear hx4
          try clear hf4
          try clear c5
          try clear c5b0
          try clear c5b1
          try clear q5
          try clear c6
          try clear c6b0
          try clear c6b1
          try clear p6
          try clear c14
          try clear c17
          try clear c18
          try clear c18b0
          try clear c19
          try clear c19b0
          try clear c20
          try clear c20b0
          try clear c22
          try clear c22b0
          try clear c23
          try clear c23b0
          try clear c24
          try clear c24b0
          try clear c25
          try clear c25b0
          try clear p25
          try clear q25
          try clear hx25
          try clear c26
          try clear c26b0
          try clear p26
          try clear q26
          try clear hx26
          try clear q27
          try clear c28
          try clear c29
          try clear c29b0
          try clear c30
          try clear c30b0
          try clear q31
          try clear c32
          try clear p33
          try clear q33
          try clear hx33
          try clear hf33
          try clear c36
          try clear c36b0
          try clear c36b1
          try clear c37
          try clear c37b0
          try clear c37b1
          try clear c38
          try clear c41
          try clear c41b0
          try clear c42
          try clear c42b0
          try clear c43
          try clear c43b0
          try clear c44
          try clear c44b0
          try clear c45
          try clear c45b0
          try clear c46
          try clear c46b0
          try clear p47
          try clear q47
          try clear hx47
          try clear hf47
          try clear c50
          try clear c52
          try clear c52b0
          try clear c53
          try clear c53b0
          try clear c54
          try clear c54b0
          try clear q55
          try clear c56
          try clear c57
          try clear c57b0
          try clear hcz10_0
          try clear hcz10_1
          try clear hcz10_2
          try clear hcz10_3
          try clear hcz14_0
          try clear hcz14_1
          try clear hcz14_2
          try clear hcz14_3
          try clear hcz21_0
          try clear hcz21_1
          try clear hcz21_2
          try clear hcz21_3
          try clear hcz58_0
          try clear hcz58_1
          try clear hcz58_2
          try clear hcz58_3
          try clear hcz8_0
          try clear hcz8_1
          try clear hcz8_2
          try clear hcz8_3
          try clear hfz10_0
          try clear hfz10_1
          try clear hfz10_2
          try clear hfz10_3
          try clear hfz14_0
          try clear hfz14_1
          try clear hfz14_2
          try clear hfz14_3
          try clear hfz21_0
          try clear hfz21_1
          try clear hfz21_2
          try clear hfz21_3
          try clear hfz58_0
          try clear hfz58_1
          try clear hfz58_2
          try clear hfz58_3
          try clear hfz8_0
          try clear hfz8_1
          try clear hfz8_2
          try clear hfz8_3
          try clear hx251_0
          try clear hx252_0
          try clear hx253_0
          try clear hx254_0
          try clear hx259_0
          try clear hx260_0
          try clear hx263_0
          try clear hx264_0
          try clear hx33_0
          try clear hx47_0
          try clear p2
          try clear p25
          try clear p251
          try clear p252
          try clear p253
          try clear p254
          try clear p259
          try clear p26
          try clear p260
          try clear p263
          try clear p264
          try clear p3
          try clear p33
          try clear p4
          try clear p47
          try clear p6
          try clear q2
          try clear q25
          try clear q251
          try clear q252
          try clear q253
          try clear q254
          try clear q259
          try clear q26
          try clear q260
          try clear q263
          try clear q264
          try clear q27
          try clear q3
          try clear q31
          try clear q33
          try clear q4
          try clear q47
          obtain ⟨x18_5, x105_5, rfl, rfl, HA, HK5, HO_13, BK233, HB⟩ := hrel
          cases gk with
          | zero => exact absurd HA.out (by simp [dfa_Infinite.l6])
          | succ k5 =>
           have H := HA.out
           clear HA
           simp only [dfa_Infinite.l6] at H
           by_cases c59 : x105_5 < ((rd_L1 l0_3 x91_4).length : Int)
           (focus
           rw [if_pos c59] at H
           have c59b0 : decide (x105_5 < ((rd_L1 l0_3 x91_4).length : Int)) = true := decide_eq_true c59
           (try (have c59b0_hl8_1 := c59b0; simp only [hl8_1] at c59b0_hl8_1))
           (try (have c59b0_hl13_4 := c59b0; simp only [hl13_4] at c59b0_hl13_4))
           clear c59
           by_cases c60 : 0 ≤ x105_5
           (focus
           rw [if_pos c60] at H
           have c60b0 : decide (0 ≤ x105_5) = true := decide_eq_true c60
           clear c60
           by_cases c61 : x105_5 < ((rd_L1 l0_3 x91_4).length : Int)
           (focus
           rw [if_pos c61] at H
           have c61b0 : decide (x105_5 < ((rd_L1 l0_3 x91_4).length : Int)) = true := decide_eq_true c61
           (try (have c61b0_hl8_1 := c61b0; simp only [hl8_1] at c61b0_hl8_1))
           (try (have c61b0_hl13_4 := c61b0; simp only [hl13_4] at c61b0_hl13_4))
           clear c61
           by_cases c62 : x18_5 = true
           (focus
           subst c62
           have H1 : (dfa_Infinite.l6 k5 x13_4 x16_4 x91_4 true (x13_3.length : Int) x91_4 (rd_L1 l0_3 x91_4) ((rd_L1 l0_3 x91_4).length : Int) (wrap64 (x105_5 + 1)) a0_0 a0_1 l0_2 l0_3) = some r := by rw [if_pos rfl] at H; exact H
           clear H
           have H := H1
           clear H1
           have H' := Aside0.mk H
           clear H
           have p265 : 0 ≤ (x105_5 : Int) := of_decide_eq_true (by first | (with_reducible assumption) | assumption)
           have q265 : x105_5 < ((rd_L1 l0_3 x91_4).length : Int) := of_decide_eq_true (by first | (with_reducible assumption) | assumption)
           obtain ⟨ad265, e265, hx265_0⟩ := Kd.at_int HR264_0.out x105_5 p265 q265
           cases e265
           (try replace hx265_0 := (HB.out.cell (World.block_lt_of_cell? w _ hx265_0)).trans hx265_0)
           replace p265 := eq_true p265
           replace q265 := eq_true q265
           go_wp2
           go_roundg k5
           case measure => have := HK1.out; have := HK2.out; have := HK3.out; have := HK4.out; have := HK5.out; omega
           case rel => exact ⟨(true), (wrap64 (x105_5 + 1)), (by first | rfl | (simp; done) | (simp [*]; done)), (by first | rfl | (simp; done) | (simp [*]; done)), H', ⟨by have := HK1.out; have := HK2.out; have := HK3.out; have := HK4.out; have := HK5.out; omega⟩, ⟨by (try simp only [hl8_1]); (try simp only [hl13_4]); (with_reducible repeat (first | apply Kd.R_alloc | apply Kd.R_drewN | apply Kd.R_drew)); exact HO_13.out⟩, ⟨by (try simp only [hl8_1]); (try simp only [hl13_4]); (with_reducible repeat (first | refine blk_drewN ?_ _ | refine blk_drew ?_ | refine blk_alloc ?_ _)); exact BK233.out⟩, ⟨by repeat (first | (with_reducible first | exact HB.out | apply below_alloc | apply pw_below_drewN | apply below_drew1 | refine below_set ?_ GE233.out) | exact HB.out)⟩⟩
           )
           (focus
           replace c62 := Bool.eq_false_iff.mpr c62
           subst c62
           have H1 : (if 0 ≤ (rd (rd_L1 l0_3 x91_4) x105_5) then (if (rd (rd_L1 l0_3 x91_4) x105_5) < (x13_4.length : Int) then (dfa_Infinite.l6 k5 x13_4 x16_4 x91_4 (rdOf false x13_4 (rd (rd_L1 l0_3 x91_4) x105_5)) (x13_3.length : Int) x91_4 (rd_L1 l0_3 x91_4) ((rd_L1 l0_3 x91_4).length : Int) (wrap64 (x105_5 + 1)) a0_0 a0_1 l0_2 l0_3) else (none)) else (none)) = some r := by rw [if_neg (show ¬ (false = true) by decide)] at H; exact H
           clear H
           have H := H1
           clear H1
           by_cases c63 : 0 ≤ (rd (rd_L1 l0_3 x91_4) x105_5)
           (focus
           rw [if_pos c63] at H
           have c63b0 : decide (0 ≤ (rd (rd_L1 l0_3 x91_4) x105_5)) = true := decide_eq_true c63
           clear c63
           by_cases c64 : (rd (rd_L1 l0_3 x91_4) x105_5) < (x13_4.length : Int)
           (focus
           rw [if_pos c64] at H
           have c64b0 : decide ((rd (rd_L1 l0_3 x91_4) x105_5) < (x13_4.length : Int)) = true := decide_eq_true c64
           (try (have c64b0_hl8_1 := c64b0; simp only [hl8_1] at c64b0_hl8_1))
           (try (have c64b0_hl13_4 := c64b0; simp only [hl13_4] at c64b0_hl13_4))
           clear c64
           have H' := Aside0.mk H
           clear H
           have p265 : 0 ≤ (x105_5 : Int) := of_decide_eq_true (by first | (with_reducible assumption) | assumption)
           have q265 : x105_5 < ((rd_L1 l0_3 x91_4).length : Int) := of_decide_eq_true (by first | (with_reducible assumption) | assumption)
           obtain ⟨ad265, e265, hx265_0⟩ := Kd.at_int HR264_0.out x105_5 p265 q265
           cases e265
           (try replace hx265_0 := (HB.out.cell (World.block_lt_of_cell? w _ hx265_0)).trans hx265_0)
           replace p265 := eq_true p265
           replace q265 := eq_true q265
           have p266 : 0 ≤ ((rd (rd_L1 l0_3 x91_4) x105_5) : Int) := of_decide_eq_true (by first | (with_reducible assumption) | assumption)
           have q266 : (rd (rd_L1 l0_3 x91_4) x105_5) < (x13_4.length : Int) := of_decide_eq_true (by first | (with_reducible assumption) | assumption)
           obtain ⟨ad266, e266, hx266_0⟩ := Kd.at_bool (Kd.R_reads' HO_13.out).2.2 (rd (rd_L1 l0_3 x91_4) x105_5) p266 q266
           (try rw [← Nbq55.out] at hx266_0)
           obtain rfl : ad263 = ad266 := (by injection e266)
           replace p266 := eq_true p266
           replace q266 := eq_true q266
           go_wp2
           go_roundg k5
           case measure => have := HK1.out; have := HK2.out; have := HK3.out; have := HK4.out; have := HK5.out; omega
           case rel => exact ⟨(rdOf false x13_4 (rd (rd_L1 l0_3 x91_4) x105_5)), (wrap64 (x105_5 + 1)), (by first | rfl | (simp; done) | (simp [*]; done)), (by first | rfl | (simp; done) | (simp [*]; done)), H', ⟨by have := HK1.out; have := HK2.out; have := HK3.out; have := HK4.out; have := HK5.out; omega⟩, ⟨by (try simp only [hl8_1]); (try simp only [hl13_4]); (with_reducible repeat (first | apply Kd.R_alloc | apply Kd.R_drewN | apply Kd.R_drew)); exact HO_13.out⟩, ⟨by (try simp only [hl8_1]); (try simp only [hl13_4]); (with_reducible repeat (first | refine blk_drewN ?_ _ | refine blk_drew ?_ | refine blk_alloc ?_ _)); exact BK233.out⟩, ⟨by repeat (first | (with_reducible first | exact HB.out | apply below_alloc | apply pw_below_drewN | apply below_drew1 | refine below_set ?_ GE233.out) | exact HB.out)⟩⟩
           )
           (focus
           rw [if_neg c64] at H
           exact absurd H (by simp)
           )
           )
           (focus
           rw [if_neg c63] at H
           exact absurd H (by simp)
           )
           )
           )
           (focus
           rw [if_neg c61] at H
           exact absurd H (by simp)
           )
           )
           (focus
           rw [if_neg c60] at H
           exact absurd H (by simp)
           )
           )
           (focus
           rw [if_neg c59] at H
           have c59b0 : decide (x105_5 < ((rd_L1 l0_3 x91_4).length : Int)) = false := decide_eq_false c59
           (try (have c59b0_hl8_1 := c59b0; simp only [hl8_1] at c59b0_hl8_1))
           (try (have c59b0_hl13_4 := c59b0; simp only [hl13_4] at c59b0_hl13_4))
           clear c59
           by_cases c65 : x18_5 = true
           (focus
           subst c65
           have H1 : (dfa_Infinite.l5 k5 x13_4 x16_4 (x13_3.length : Int) (wrap64 (x91_4 + 1)) a0_0 a0_1 l0_2 l0_3) = some r := by rw [if_pos rfl] at H; exact H
           clear H
           have H := H1
           clear H1
           have H' := Aside0.mk H
           clear H
           go_wp2
           (try simp only [← hl13_4])
           go_roundg k5
           case measure => have := HK1.out; have := HK2.out; have := HK3.out; have := HK4.out; have := HK5.out; omega
           case rel => exact ⟨(x13_4), (x16_4), (wrap64 (x91_4 + 1)), (by first | rfl | (simp; done) | (simp [*]; done)), (by first | rfl | (simp; done) | (simp [*]; done)), H', ⟨by have := HK1.out; have := HK2.out; have := HK3.out; have := HK4.out; have := HK5.out; omega⟩, ⟨by (try simp only [hl8_1]); (try simp only [hl13_4]); (with_reducible repeat (first | apply Kd.R_alloc | apply Kd.R_drewN | apply Kd.R_drew)); exact HO_13.out⟩, ⟨by (try simp only [hl8_1]); (try simp only [hl13_4]); (with_reducible repeat (first | refine blk_drewN ?_ _ | refine blk_drew ?_ | refine blk_alloc ?_ _)); exact BK233.out⟩, ⟨by repeat (first | (with_reducible first | exact HB.out | apply below_alloc | apply pw_below_drewN | apply below_drew1 | refine below_set ?_ GE233.out) | exact HB.out)⟩⟩
           )
           (focus
           replace c65 := Bool.eq_false_iff.mpr c65
           subst c65
           have H1 : (if 0 ≤ x91_4 then (if x91_4 < (x13_4.length : Int) then (dfa_Infinite.l5 k5 (x13_4.set (x91_4 : Int).toNat false) true (x13_3.length : Int) (wrap64 (x91_4 + 1)) a0_0 a0_1 l0_2 l0_3) else (none)) else (none)) = some r := by rw [if_neg (show ¬ (false = true) by decide)] at H; exact H
           clear H
           have H := H1
           clear H1
           by_cases c66 : 0 ≤ x91_4
           (focus
           rw [if_pos c66] at H
           have c66b0 : decide (0 ≤ x91_4) = true := decide_eq_true c66
           clear c66
           by_cases c67 : x91_4 < (x13_4.length : Int)
           (focus
           rw [if_pos c67] at H
           have c67b0 : decide (x91_4 < (x13_4.length : Int)) = true := decide_eq_true c67
           (try (have c67b0_hl8_1 := c67b0; simp only [hl8_1] at c67b0_hl8_1))
           (try (have c67b0_hl13_4 := c67b0; simp only [hl13_4] at c67b0_hl13_4))
           clear c67
           obtain ⟨y267, hy267⟩ : ∃ y_ : List Bool, y_ = (x13_4.set (x91_4 : Int).toNat false) := ⟨_, rfl⟩
           replace H : (dfa_Infinite.l5 k5 y267 true (x13_3.length : Int) (wrap64 (x91_4 + 1)) a0_0 a0_1 l0_2 l0_3) = some r := by first | (rw [hy267]; with_reducible exact H) | (have H2_ := (Option.bind_some _ _).symm.trans H; rw [hy267]; with_reducible exact H2_) | (have H2_ := (Option.bind_some _ _).symm.trans H; with_reducible exact H2_) | with_reducible exact H | (rw [hy267]; exact H) | exact H
           have Ny267 := Aside0.mk hy267
           clear hy267
           have H' := Aside0.mk H
           clear H
           have p68 : 0 ≤ (x91_4 : Int) := of_decide_eq_true (by first | (with_reducible assumption) | assumption)
           have q68 : (x91_4 : Int) < ((x13_4.length : Int) : Int) := of_decide_eq_true (by first | (with_reducible assumption) | assumption)
           obtain ⟨go68, co68, eo68, gb68, gl68, cl68, HG68⟩ := Kd.R_form HO_13.out (by first | omega | (have e_ := (Kd.R_reads' HO_13.out).1; omega))
           (first | cases eo68 | (injection eo68 with ea_ en_ ec_; (first | subst ea_ | (injection ea_ with ea_; subst ea_)); subst ec_; clear en_))
           have GB68 := Aside0.mk gb68
           have GG68 := Aside0.mk HG68
           clear gb68 gl68 HG68
           (first | simp only [add_plain] at hx263_0 | skip)
           (try simp only [Int.toNat_natCast] at hx263_0)
           (first | simp only [add_plain] at hx266_0 | skip)
           (try simp only [Int.toNat_natCast] at hx266_0)
           obtain ⟨hx68_0, hf68_0⟩ := Kd.R_celln false HO_13.out (x91_4 : Int) p68 q68
           replace p68 := eq_true p68
           replace q68 := eq_true q68
           have HP69 := Kd.R_putg HO_13.out (x91_4 : Int) false
           go_wp2_with (first | ((with_reducible refine gate_store (t := 4) (p := 121) rfl ?_); refine store_event (t := 4) (p := 121) (v := ?vo_w70) (w1 := (wr.setCell ⟨go68, (x91_4 : Int).toNat, none⟩ (.bool false))) ?hg ?ho ?hn ?hr ?_; (case ho => rfl); (case hg => rfl); (case hn => rfl); (case hr => first | (go_simp; done) | (go_simp; rfl)); intro w70 hw; have hg : wr.grownBy w70 (some go68) := (by rw [hw]; exact HP69.2); have hp_ : Kd.R Kd.bool 4 w70 w.heap.size (fun _ => True) (.slice (some ⟨go68, 0, none⟩) x13_4.length co51) y267 := (by rw [hw, Ny267.out]; exact HP69.1); clear HP69; have n0_ := Aside0.mk (hp_); have n1_ := Aside0.mk (blk_grown (g := gb233) (o := .cells #[.int .i64 a0_0, .int .i64 a0_1, .slice A0_2 l0_2.length c0_2, .slice (some ad264) l0_3.length c0_3] 25 (0, 0)) (uB BK233.out) hg (Kd.R_ne HO_13.out BK233.out (by decide))); have n2_ := Aside0.mk ((by rw [hw]; exact below_set (HB.out) GB68.out : Below w.heap.size w w70)); clear HO_13; clear BK233; clear HB; have HO_13 := n0_; have BK233 := n1_; have HB := n2_; clear n0_ n1_ n2_; clear hg hw hp_))
           (try simp only [← hl13_4])
           go_roundg k5
           case measure => have := HK1.out; have := HK2.out; have := HK3.out; have := HK4.out; have := HK5.out; omega
           case rel => exact ⟨(y267), (true), (wrap64 (x91_4 + 1)), (by first | rfl | (simp; done) | (simp [*]; done)), (by first | rfl | (simp; done) | (simp [*]; done)), H', ⟨by have := HK1.out; have := HK2.out; have := HK3.out; have := HK4.out; have := HK5.out; omega⟩, ⟨by (try simp only [hl8_1]); (try simp only [hl13_4]); (with_reducible repeat (first | apply Kd.R_alloc | apply Kd.R_drewN | apply Kd.R_drew)); exact HO_13.out⟩, ⟨by (try simp only [hl8_1]); (try simp only [hl13_4]); (with_reducible repeat (first | refine blk_drewN ?_ _ | refine blk_drew ?_ | refine blk_alloc ?_ _)); exact BK233.out⟩, ⟨by repeat (first | (with_reducible first | exact HB.out | apply below_alloc | apply pw_below_drewN | apply below_drew1 | refine below_set ?_ GE233.out) | exact HB.out)⟩⟩
           )
           (focus
           rw [if_neg c67] at H
           exact absurd H (by simp)
           )
           )
           (focus
           rw [if_neg c66] at H
           exact absurd H (by simp)
           )
           )
           )
         )
         (focus
         rw [if_neg c57] at H
         exact absurd H (by simp)
         )
         )
         (focus
         replace c56 := Bool.eq_false_iff.mpr c56
         subst c56
         have H1 : (dfa_Infinite.l5 k4 x13_4 x16_4 (x13_3.length : Int) (wrap64 (x91_4 + 1)) a0_0 a0_1 l0_2 l0_3) = some r := by rw [if_neg (show ¬ (false = true) by decide)] at H; exact H
         clear H
         have H := H1
         clear H1
         have H' := Aside0.mk H
         clear H
         have p263 : 0 ≤ (x91_4 : Int) := of_decide_eq_true (by first | (with_reducible assumption) | assumption)
         have q263 : x91_4 < (x13_4.length : Int) := of_decide_eq_true (by first | (with_reducible assumption) | assumption)
         obtain ⟨ad263, e263, hx263_0⟩ := Kd.at_bool (Kd.R_reads' HO_13.out).2.2 x91_4 p263 q263
         (try rw [← Nbq55.out] at hx263_0)
         cases e263
         replace p263 := eq_true p263
         replace q263 := eq_true q263
         go_wp2
         (try simp only [← hl13_4])
         go_roundg k4
         case measure => have := HK1.out; have := HK2.out; have := HK3.out; have := HK4.out; omega
         case rel => exact ⟨(x13_4), (x16_4), (wrap64 (x91_4 + 1)), (by first | rfl | (simp; done) | (simp [*]; done)), (by first | rfl | (simp; done) | (simp [*]; done)), H', ⟨by have := HK1.out; have := HK2.out; have := HK3.out; have := HK4.out; omega⟩, ⟨by (try simp only [hl8_1]); (try simp only [hl13_4]); (with_reducible repeat (first | apply Kd.R_alloc | apply Kd.R_drewN | apply Kd.R_drew)); exact HO_13.out⟩, ⟨by (try simp only [hl8_1]); (try simp only [hl13_4]); (with_reducible repeat (first | refine blk_drewN ?_ _ | refine blk_drew ?_ | refine blk_alloc ?_ _)); exact BK233.out⟩, ⟨by repeat (first | (with_reducible first | exact HB.out | apply below_alloc | apply pw_below_drewN | apply below_drew1 | refine below_set ?_ GE233.out) | exact HB.out)⟩⟩
         )
         )
         (focus
         rw [if_neg c54] at H
         exact absurd H (by simp)
         )
         )
         (focus
         rw [if_neg c53] at H
         exact absurd H (by simp)
         )
         )
         (focus
         rw [if_neg c52] at H
         have c52b0 : decide (x91_4 < (x13_3.length : Int)) = false := decide_eq_false c52
         (try (have c52b0_hl8_1 := c52b0; simp only [hl8_1] at c52b0_hl8_1))
         (try (have c52b0_hl13_4 := c52b0; simp only [hl13_4] at c52b0_hl13_4))
         clear c52
         have H' := Aside0.mk H
         clear H
         go_wp2
         (try simp only [← hl13_4])
         go_roundg k4
         case measure => have := HK1.out; have := HK2.out; have := HK3.out; have := HK4.out; omega
         case rel => exact ⟨(x13_4), (x16_4), (by first | rfl | (simp; done) | (simp [*]; done)), H', ⟨by have := HK1.out; have := HK2.out; have := HK3.out; have := HK4.out; omega⟩, ⟨by (try simp only [hl8_1]); (try simp only [hl13_4]); (with_reducible repeat (first | apply Kd.R_alloc | apply Kd.R_drewN | apply Kd.R_drew)); exact HO_13.out⟩, ⟨by (try simp only [hl8_1]); (try simp only [hl13_4]); (with_reducible repeat (first | refine blk_drewN ?_ _ | refine blk_drew ?_ | refine blk_alloc ?_ _)); exact BK233.out⟩, ⟨by repeat (first | (with_reducible first | exact HB.out | apply below_alloc | apply pw_below_drewN | apply below_drew1 | refine below_set ?_ GE233.out) | exact HB.out)⟩⟩
         )
       )
       (focus
       replace c50 := Bool.eq_false_iff.mpr c50
       subst c50
       have H1 : (if 0 ≤ a0_1 then (if a0_1 < (x13_3.length : Int) then (some (rdOf false x13_3 a0_1)) else (none)) else (none)) = some r := by rw [if_neg (show ¬ (false = true) by decide)] at H; exact H
       clear H
       have H := H1
       clear H1
       by_cases c71 : 0 ≤ a0_1
       (focus
       rw [if_pos c71] at H
       have c71b0 : decide (0 ≤ a0_1) = true := decide_eq_true c71
       clear c71
       by_cases c72 : a0_1 < (x13_3.length : Int)
       (focus
       rw [if_pos c72] at H
       have c72b0 : decide (a0_1 < (x13_3.length : Int)) = true := decide_eq_true c72
       (try (have c72b0_hl8_1 := c72b0; simp only [hl8_1] at c72b0_hl8_1))
       clear c72
       obtain rfl := Option.some.inj H
       have hcz73_0 : wr.cell? ⟨gb233, 0, none⟩ = some (.int .i64 a0_0) := (blk_cell BK233.out 0).trans rfl
       have hcz73_1 : wr.cell? ⟨gb233, 1, none⟩ = some (.int .i64 a0_1) := (blk_cell BK233.out 1).trans rfl
       have hcz73_2 : wr.cell? ⟨gb233, 2, none⟩ = some (.slice A0_2 l0_2.length c0_2) := (blk_cell BK233.out 2).trans rfl
       have hcz73_3 : wr.cell? ⟨gb233, 3, none⟩ = some (.slice A0_3 l0_3.length c0_3) := (blk_cell BK233.out 3).trans rfl
       have hfz73_0 := blk_frozen BK233.out 0
       have hfz73_1 := blk_frozen BK233.out 1
       have hfz73_2 := blk_frozen BK233.out 2
       have hfz73_3 := blk_frozen BK233.out 3
       obtain ⟨Ao74, co74, eo74⟩ := Kd.R_slice HO_13.out
       subst eo74
       have p262 : 0 ≤ (a0_1 : Int) := of_decide_eq_true (by first | (with_reducible assumption) | assumption)
       have q262 : a0_1 < (x13_3.length : Int) := of_decide_eq_true (by first | (with_reducible assumption) | assumption)
       obtain ⟨ad262, e262, hx262_0⟩ := Kd.at_bool (Kd.R_reads' HO_13.out).2.2 a0_1 p262 q262
       cases e262
       replace p262 := eq_true p262
       replace q262 := eq_true q262
       go_wp2
       go_ret
       exact ⟨by first | rfl | (simp [errW_none, errW_some] <;> rfl) | (simp [*, errW_none, errW_some] <;> rfl), by repeat (first | (with_reducible first | exact HB.out | apply below_alloc | apply pw_below_drewN | apply below_drew1 | refine below_set ?_ GE233.out) | exact HB.out)⟩
       )
       (focus
       rw [if_neg c72] at H
       exact absurd H (by simp)
       )
       )
       (focus
       rw [if_neg c71] at H
       exact absurd H (by simp)
       )
       )
     )
   )
   (focus
   rw [if_neg c37] at H
   exact absurd H (by simp)
   )
   )
   (focus
   rw [if_neg c36] at H
   exact absurd H (by simp)
   )
   )
 )
 (focus
 rw [if_neg c6] at H
 exact absurd H (by simp)
 )
 )
 (focus
 rw [if_neg c5] at H
 exact absurd H (by simp)
 )
 )
 (focus
 rw [if_neg c3] at H
 have c3b0 : (t234 == 0) = false := beq_eq_false_iff_ne.mpr c3
 have c3b1 : (t234 != 0) = true := bne_iff_ne.mpr c3
 obtain rfl := Option.some.inj H
 go_enter Try.func38, Try.ntmps38
 go_wp2_with (first | ((with_reducible refine gate_dst (N := 1) rfl ?_); refine box_event ?hg (N := 1) ?hd (cs := #[.int .i64 a0_0, .int .i64 a0_1, .slice A0_2 l0_2.length c0_2, .slice A0_3 l0_3.length c0_3]) (t := 25) ?hr ?_; (case hd => rfl); (case hg => rfl); (case hr => first | (go_simp; done) | (go_simp; rfl)); intro gb233 hg w75 hbox hb; have n0_ := Aside0.mk (below_step (by repeat (first | (with_reducible first | exact HB.out | apply below_alloc | apply pw_below_drewN | apply below_drew1) | exact HB.out)) hb); have n1_ := Aside0.mk (hbox); have n2_ := Aside0.mk ((by rw [hg]; exact (below_size (by repeat (first | (with_reducible first | exact HB.out | apply below_alloc | apply pw_below_drewN | apply below_drew1) | exact HB.out))) : w.heap.size ≤ gb233)); have n3_ := Aside0.mk ((by rw [hg]; exact (below_size (by repeat (first | (with_reducible first | exact HB.out | apply below_alloc | apply pw_below_drewN | apply below_drew1) | exact HB.out))) : w.heap.size ≤ gb233)); clear HB; have HB := n0_; have BK233 := n1_; have GW233 := n2_; have GE233 := n3_; clear n0_ n1_ n2_ n3_; clear hb hbox hg; have hcz76_0 : w75.cell? ⟨gb233, 0, none⟩ = some (.int .i64 a0_0) := (blk_cell BK233.out 0).trans rfl; have hcz76_1 : w75.cell? ⟨gb233, 1, none⟩ = some (.int .i64 a0_1) := (blk_cell BK233.out 1).trans rfl; have hcz76_2 : w75.cell? ⟨gb233, 2, none⟩ = some (.slice A0_2 l0_2.length c0_2) := (blk_cell BK233.out 2).trans rfl; have hcz76_3 : w75.cell? ⟨gb233, 3, none⟩ = some (.slice A0_3 l0_3.length c0_3) := (blk_cell BK233.out 3).trans rfl; have hfz76_0 := blk_frozen BK233.out 0; have hfz76_1 := blk_frozen BK233.out 1; have hfz76_2 := blk_frozen BK233.out 2; have hfz76_3 := blk_frozen BK233.out 3) | ((with_reducible refine gate_callee (f := 14) rfl ?_); refine goesL_ (some 22) rfl rfl Try.func14 (by kernel_rfl) rfl #[.agg #[.int .i64 a0_0, .int .i64 a0_1, .slice A0_2 l0_2.length c0_2, .slice A0_3 l0_3.length c0_3]] rfl (by (try simp only [List.map_toArray, List.map_cons, List.map_nil]); first | done | rfl | (simp only [List.length_drop, List.length_take]; rfl)) ?_; (with_reducible refine (dfa_Validate.calls k a0_0 a0_1 _ _ l0_2 _ _ l0_3 t234 _ ?side1 ?side2 ?side3 ?side4 A2.out).mono ?_); (case side1 => repeat (first | exact (Kd.C_below HR0_2.out HB.out) | (with_reducible refine Kd.C_alloc ?_ _) | (with_reducible refine Kd.C_drewN ?_ _) | (with_reducible refine Kd.C_drew ?_))); (case side2 => exact HC0_2.out); (case side3 => repeat (first | exact (Kd.C_below HR0_3.out HB.out) | (with_reducible refine Kd.C_alloc ?_ _) | (with_reducible refine Kd.C_drewN ?_ _) | (with_reducible refine Kd.C_drew ?_))); (case side4 => exact HC0_3.out); rintro e w77 ⟨rfl, hb⟩; refine ⟨_, rfl, ?_⟩; have n0_ := Aside0.mk (blk_below (g := gb233) (o := .cells #[.int .i64 a0_0, .int .i64 a0_1, .slice A0_2 l0_2.length c0_2, .slice A0_3 l0_3.length c0_3] 25 (0, 0)) (uB BK233.out) hb); have n1_ := Aside0.mk (below_step (by repeat (first | (with_reducible first | exact HB.out | apply below_alloc | apply pw_below_drewN | apply below_drew1 | refine below_set ?_ GE233.out) | exact HB.out)) hb); clear BK233; clear HB; have BK233 := n0_; have HB := n1_; clear n0_ n1_; (try clear hb); (try clear hb2); (try clear hk); (try clear hi)))
 go_ret
 exact ⟨by first | rfl | (simp [errW_none, errW_some] <;> rfl) | (simp [*, errW_none, errW_some] <;> rfl), by repeat (first | (with_reducible first | exact HB.out | apply below_alloc | apply pw_below_drewN | apply below_drew1 | refine below_set ?_ GE233.out) | exact HB.out)⟩
 )
end Go.Proofs.Ytpjbmgoagehjkaa.PDfaInfinite
