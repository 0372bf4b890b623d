import Derived.Test.YtpjbmgoagehjkaaZDfaProductsx0
import Derived.Test.YtpjbmgoagehjkaaZDfaProductsx1
namespace Go.Proofs.Ytpjbmgoagehjkaa.PDfaProducts
open Go.RowKit Go.Proofs.YtpjbmgoagehjkaaH Go.Proofs.YtpjbmgoagehjkaaW.PrintWords Go.Proofs.YtpjbmgoagehjkaaW.PrintLast Go.Proofs.YtpjbmgoagehjkaaW.PrintMore
attribute [local go_sem] max2_int min2_int max_two min_two max_three min_three max_four min_four   -- for this text's walks alone
set_option linter.unusedVariables false
set_option linter.unusedSimpArgs false
/-! ### dfa_Product: function 31 -/
mutual
def dfa_Product.j0 : Nat → Int → Bool → Int → Int → List Bool → List (List Int) → Int → Int → List Bool → List (List Int) → Option (Int × Int × List Bool × (List (List Int)) × Int)
 | 0, _, _, _, _, _, _, _, _, _, _ => none
 | k + 1, x2, x45, x200000, x200001, x200002, x200003, x201000, x201001, x201002, x201003 => if x45 = true then (some (0, 0, ([] : List Bool), ([] : List (List Int)), 1)) else (dfa_Product.l0 k x2 (([(⟨x200001, x201001⟩ : S64)] : List (S64))) 0 x200000 x200001 x200002 x200003 x201000 x201001 x201002 x201003 (AM.put (AM.nil : AM S64 Int) (⟨x200001, x201001⟩ : S64) 0) x200000 0 ([] : List Bool) ([] : List (List Int)))
def dfa_Product.l0 : Nat → Int → List (S64) → Int → Int → Int → List Bool → List (List Int) → Int → Int → List Bool → List (List Int) → AM S64 Int → Int → Int → List Bool → List (List Int) → Option (Int × Int × List Bool × (List (List Int)) × Int)
 | 0, _, _, _, _, _, _, _, _, _, _, _, _, _, _, _, _ => none
 | k + 1, x2, x11, x13, x200000, x200001, x200002, x200003, x201000, x201001, x201002, x201003, x205000, x210000, x210001, x210002, x210003 => if x13 < (x11.length : Int) then (if 0 ≤ x13 then (if 0 ≤ x200000 then (if (x200000 : Int).toNat ≤ 35184372088832 then ((some (List.replicate (x200000 : Int).toNat 0 : List Int)).bind fun y212 => (dfa_Product.l1 k x2 x11 x13 y212 (y212.length : Int) 0 x200000 x200001 x200002 x200003 x201000 x201001 x201002 x201003 x205000 x210000 x210001 x210002 x210003 ((rd_T64 x11 x13).f0) ((rd_T64 x11 x13).f1))) else (none)) else (none)) else (none)) else (some (x210000, x210001, x210002, x210003, 0))
def dfa_Product.l1 : Nat → Int → List (S64) → Int → List Int → Int → Int → Int → Int → List Bool → List (List Int) → Int → Int → List Bool → List (List Int) → AM S64 Int → Int → Int → List Bool → List (List Int) → Int → Int → Option (Int × Int × List Bool × (List (List Int)) × Int)
 | 0, _, _, _, _, _, _, _, _, _, _, _, _, _, _, _, _, _, _, _, _, _ => none
 | k + 1, x2, x11, x13, x15, x77, x78, x200000, x200001, x200002, x200003, x201000, x201001, x201002, x201003, x205000, x210000, x210001, x210002, x210003, x212000, x212001 => if x78 < x77 then (if 0 ≤ x212000 then (if x212000 < (x200003.length : Int) then (if 0 ≤ x78 then (if x78 < ((rd_L1 x200003 x212000).length : Int) then (if 0 ≤ x212001 then (if x212001 < (x201003.length : Int) then (if x78 < ((rd_L1 x201003 x212001).length : Int) then (if ((AM.has x205000 (⟨rd (rd_L1 x200003 x212000) x78, rd (rd_L1 x201003 x212001) x78⟩ : S64)) = true) then (if x78 < (x15.length : Int) then (dfa_Product.l1 k x2 x11 x13 (x15.set (x78 : Int).toNat (AM.get x205000 (⟨rd (rd_L1 x200003 x212000) x78, rd (rd_L1 x201003 x212001) x78⟩ : S64) 0)) x77 (wrap64 (x78 + 1)) x200000 x200001 x200002 x200003 x201000 x201001 x201002 x201003 x205000 x210000 x210001 x210002 x210003 x212000 x212001) else (none)) else (if (x11.length : Int) ≥ 512 then (some (0, 0, ([] : List Bool), ([] : List (List Int)), 3)) else (if x11.length < 8796093022208 then (if x78 < (x15.length : Int) then (dfa_Product.l1 k x2 (x11 ++ [(⟨rd (rd_L1 x200003 x212000) x78, rd (rd_L1 x201003 x212001) x78⟩ : S64)]) x13 (x15.set (x78 : Int).toNat (x11.length : Int)) x77 (wrap64 (x78 + 1)) x200000 x200001 x200002 x200003 x201000 x201001 x201002 x201003 (AM.put x205000 (⟨rd (rd_L1 x200003 x212000) x78, rd (rd_L1 x201003 x212001) x78⟩ : S64) (x11.length : Int)) x210000 x210001 x210002 x210003 x212000 x212001) else (none)) else (none)))) else (none)) else (none)) else (none)) else (none)) else (none)) else (none)) else (none)) else (if 0 ≤ x212000 then (if x212000 < (x200002.length : Int) then (if rdOf false x200002 x212000 = true then (if 0 ≤ x212001 then (if x212001 < (x201002.length : Int) then (if rdOf false x201002 x212001 = true then (if x210003.length < 5864062014805 then (if x210002.length < 140737488355328 then (dfa_Product.l0 k x2 x11 (wrap64 (x13 + 1)) x200000 x200001 x200002 x200003 x201000 x201001 x201002 x201003 x205000 x210000 x210001 (x210002 ++ [((Go.bits .and .i64 (x2 / 2 ^ ((0 + 2) + 1 : Int).toNat) 1) == 1)]) (x210003 ++ [x15])) else (none)) else (none)) else (if x210003.length < 5864062014805 then (if x210002.length < 140737488355328 then (dfa_Product.l0 k x2 x11 (wrap64 (x13 + 1)) x200000 x200001 x200002 x200003 x201000 x201001 x201002 x201003 x205000 x210000 x210001 (x210002 ++ [((Go.bits .and .i64 (x2 / 2 ^ (0 + 2 : Int).toNat) 1) == 1)]) (x210003 ++ [x15])) else (none)) else (none))) else (none)) else (none)) else (if 0 ≤ x212001 then (if x212001 < (x201002.length : Int) then (if rdOf false x201002 x212001 = true then (if x210003.length < 5864062014805 then (if x210002.length < 140737488355328 then (dfa_Product.l0 k x2 x11 (wrap64 (x13 + 1)) x200000 x200001 x200002 x200003 x201000 x201001 x201002 x201003 x205000 x210000 x210001 (x210002 ++ [((Go.bits .and .i64 (x2 / 2 ^ (0 + 1 : Int).toNat) 1) == 1)]) (x210003 ++ [x15])) else (none)) else (none)) else (if x210003.length < 5864062014805 then (if x210002.length < 140737488355328 then (dfa_Product.l0 k x2 x11 (wrap64 (x13 + 1)) x200000 x200001 x200002 x200003 x201000 x201001 x201002 x201003 x205000 x210000 x210001 (x210002 ++ [((Go.bits .and .i64 x2 1) == 1)]) (x210003 ++ [x15])) else (none)) else (none))) else (none)) else (none))) else (none)) else (none))
end
def dfa_Product.f (k : Nat) (a0_0 : Int) (a0_1 : Int) (l0_2 : List Bool) (l0_3 : List (List Int)) (a1_0 : Int) (a1_1 : Int) (l1_2 : List Bool) (l1_3 : List (List Int)) (a2 : Int) : Option (Int × Int × List Bool × (List (List Int)) × Int) := (dfa_Validate.f k a0_0 a0_1 l0_2 l0_3).bind fun t202 => (if t202 = 0 then ((dfa_Validate.f k a1_0 a1_1 l1_2 l1_3).bind fun t203 => (if t203 = 0 then (if a0_0 = a1_0 then (if a2 < 0 then (dfa_Product.j0 k a2 true a0_0 a0_1 l0_2 l0_3 a1_0 a1_1 l1_2 l1_3) else (dfa_Product.j0 k a2 (decide (a2 > 15)) a0_0 a0_1 l0_2 l0_3 a1_0 a1_1 l1_2 l1_3)) else (dfa_Product.j0 k a2 true a0_0 a0_1 l0_2 l0_3 a1_0 a1_1 l1_2 l1_3)) else (some (0, 0, ([] : List Bool), ([] : List (List Int)), t203)))) else (some (0, 0, ([] : List Bool), ([] : List (List Int)), t202)))
theorem dfa_Product.mono_l : ∀ k, (∀ y0 y1 y2 y3 y4 y5 y6 y7 y8 y9, LeO (dfa_Product.j0 k y0 y1 y2 y3 y4 y5 y6 y7 y8 y9) (dfa_Product.j0 (k + 1) y0 y1 y2 y3 y4 y5 y6 y7 y8 y9)) ∧ (∀ y0 y1 y2 y3 y4 y5 y6 y7 y8 y9 y10 y11 y12 y13 y14 y15, LeO (dfa_Product.l0 k y0 y1 y2 y3 y4 y5 y6 y7 y8 y9 y10 y11 y12 y13 y14 y15) (dfa_Product.l0 (k + 1) y0 y1 y2 y3 y4 y5 y6 y7 y8 y9 y10 y11 y12 y13 y14 y15)) ∧ (∀ y0 y1 y2 y3 y4 y5 y6 y7 y8 y9 y10 y11 y12 y13 y14 y15 y16 y17 y18 y19 y20, LeO (dfa_Product.l1 k y0 y1 y2 y3 y4 y5 y6 y7 y8 y9 y10 y11 y12 y13 y14 y15 y16 y17 y18 y19 y20) (dfa_Product.l1 (k + 1) y0 y1 y2 y3 y4 y5 y6 y7 y8 y9 y10 y11 y12 y13 y14 y15 y16 y17 y18 y19 y20))
 | 0 => ⟨fun _ _ _ _ _ _ _ _ _ _ r h => by simp [dfa_Product.j0] at h, fun _ _ _ _ _ _ _ _ _ _ _ _ _ _ _ _ r h => by simp [dfa_Product.l0] at h, fun _ _ _ _ _ _ _ _ _ _ _ _ _ _ _ _ _ _ _ _ _ r h => by simp [dfa_Product.l1] at h⟩
 | k + 1 => by
  obtain ⟨ih0, ih1, ih2⟩ := dfa_Product.mono_l k
  refine ⟨?_, ?_, ?_⟩
  (focus
  intro y0 y1 y2 y3 y4 y5 y6 y7 y8 y9
  unfold dfa_Product.j0
  repeat' first
  | (with_reducible exact ih0 _ _ _ _ _ _ _ _ _ _)
  | (with_reducible exact ih1 _ _ _ _ _ _ _ _ _ _ _ _ _ _ _ _)
  | (with_reducible exact ih2 _ _ _ _ _ _ _ _ _ _ _ _ _ _ _ _ _ _ _ _ _)
  | (with_reducible exact dfa_Validate.mono _ _ _ _ _)
  | (with_reducible exact LeO.refl _)
  | (with_reducible exact LeO.none _)
  | (with_reducible refine LeO.ite ?_ ?_)
  | (with_reducible refine LeO.bind ?_ (fun _ => ?_))
  | exact ih0 _ _ _ _ _ _ _ _ _ _
  | exact ih1 _ _ _ _ _ _ _ _ _ _ _ _ _ _ _ _
  | exact ih2 _ _ _ _ _ _ _ _ _ _ _ _ _ _ _ _ _ _ _ _ _
  | exact dfa_Validate.mono _ _ _ _ _
  | exact LeO.none _
  | refine LeO.ite ?_ ?_
  | refine LeO.bind ?_ (fun _ => ?_)
  )
  (focus
  intro y0 y1 y2 y3 y4 y5 y6 y7 y8 y9 y10 y11 y12 y13 y14 y15
  unfold dfa_Product.l0
  repeat' first
  | (with_reducible exact ih0 _ _ _ _ _ _ _ _ _ _)
  | (with_reducible exact ih1 _ _ _ _ _ _ _ _ _ _ _ _ _ _ _ _)
  | (with_reducible exact ih2 _ _ _ _ _ _ _ _ _ _ _ _ _ _ _ _ _ _ _ _ _)
  | (with_reducible exact dfa_Validate.mono _ _ _ _ _)
  | (with_reducible exact LeO.refl _)
  | (with_reducible exact LeO.none _)
  | (with_reducible refine LeO.ite ?_ ?_)
  | (with_reducible refine LeO.bind ?_ (fun _ => ?_))
  | exact ih0 _ _ _ _ _ _ _ _ _ _
  | exact ih1 _ _ _ _ _ _ _ _ _ _ _ _ _ _ _ _
  | exact ih2 _ _ _ _ _ _ _ _ _ _ _ _ _ _ _ _ _ _ _ _ _
  | exact dfa_Validate.mono _ _ _ _ _
  | exact LeO.none _
  | refine LeO.ite ?_ ?_
  | refine LeO.bind ?_ (fun _ => ?_)
  )
  (focus
  intro y0 y1 y2 y3 y4 y5 y6 y7 y8 y9 y10 y11 y12 y13 y14 y15 y16 y17 y18 y19 y20
  unfold dfa_Product.l1
  repeat' first
  | (with_reducible exact ih0 _ _ _ _ _ _ _ _ _ _)
  | (with_reducible exact ih1 _ _ _ _ _ _ _ _ _ _ _ _ _ _ _ _)
  | (with_reducible exact ih2 _ _ _ _ _ _ _ _ _ _ _ _ _ _ _ _ _ _ _ _ _)
  | (with_reducible exact dfa_Validate.mono _ _ _ _ _)
  | (with_reducible exact LeO.refl _)
  | (with_reducible exact LeO.none _)
  | (with_reducible refine LeO.ite ?_ ?_)
  | (with_reducible refine LeO.bind ?_ (fun _ => ?_))
  | exact ih0 _ _ _ _ _ _ _ _ _ _
  | exact ih1 _ _ _ _ _ _ _ _ _ _ _ _ _ _ _ _
  | exact ih2 _ _ _ _ _ _ _ _ _ _ _ _ _ _ _ _ _ _ _ _ _
  | exact dfa_Validate.mono _ _ _ _ _
  | exact LeO.none _
  | refine LeO.ite ?_ ?_
  | refine LeO.bind ?_ (fun _ => ?_)
  )
theorem dfa_Product.mono : ∀ a0 a1 a2 a3 a4 a5 a6 a7 a8 k, LeO (dfa_Product.f k a0 a1 a2 a3 a4 a5 a6 a7 a8) (dfa_Product.f (k + 1) a0 a1 a2 a3 a4 a5 a6 a7 a8) := by
 intro a0 a1 a2 a3 a4 a5 a6 a7 a8 k
 obtain ⟨ih0, ih1, ih2⟩ := dfa_Product.mono_l k
 unfold dfa_Product.f
 repeat' first
  | (with_reducible exact ih0 _ _ _ _ _ _ _ _ _ _)
  | (with_reducible exact ih1 _ _ _ _ _ _ _ _ _ _ _ _ _ _ _ _)
  | (with_reducible exact ih2 _ _ _ _ _ _ _ _ _ _ _ _ _ _ _ _ _ _ _ _ _)
  | (with_reducible exact dfa_Validate.mono _ _ _ _ _)
  | (with_reducible exact LeO.refl _)
  | (with_reducible exact LeO.none _)
  | (with_reducible refine LeO.ite ?_ ?_)
  | (with_reducible refine LeO.bind ?_ (fun _ => ?_))
  | exact ih0 _ _ _ _ _ _ _ _ _ _
  | exact ih1 _ _ _ _ _ _ _ _ _ _ _ _ _ _ _ _
  | exact ih2 _ _ _ _ _ _ _ _ _ _ _ _ _ _ _ _ _ _ _ _ _
  | exact dfa_Validate.mono _ _ _ _ _
  | exact LeO.none _
  | refine LeO.ite ?_ ?_
  | refine LeO.bind ?_ (fun _ => ?_)
def dfa_Product.T20 : Bool × List (List Nat × List Nat) := (true, [([], []), ([0], [0]), ([], []), ([2], [2]), ([1, 3], [1, 3]), ([4], [4]), ([], []), ([5, 6], [5, 6]), ([7], [7]), ([], []), ([9], [9]), ([], []), ([11], [11]), ([10, 12], [10, 12]), ([13], [13]), ([], []), ([14, 15], [14, 15]), ([16], [16]), ([8, 17], [8, 17]), ([], []), ([19, 18, 0, 1, 2, 3, 4, 5, 6, 7, 8, 9, 10, 11, 12, 13, 14, 15, 16, 17, 18, 19], [18, 19])])
def dfa_Product.B20 : List Nat := [0, 1, 0, 4, 15, 31, 0, 127, 255, 0, 512, 0, 2048, 7680, 15872, 0, 65024, 130560, 262143, 0, 1048575]
theorem dfa_Product.tab20 : rtab .any (opsOf Try.f31 20) = dfa_Product.T20 := by kernel_rfl
theorem dfa_Product.bits20 : waitsOk dfa_Product.T20.2 dfa_Product.B20 = true := by kernel_rfl
end Go.Proofs.Ytpjbmgoagehjkaa.PDfaProducts
