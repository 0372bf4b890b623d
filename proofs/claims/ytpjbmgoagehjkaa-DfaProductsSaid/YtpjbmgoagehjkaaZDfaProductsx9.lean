import Derived.Test.YtpjbmgoagehjkaaZDfaProductsx0
import Derived.Test.YtpjbmgoagehjkaaZDfaProductsx8
namespace Go.Proofs.Ytpjbmgoagehjkaa.PDfaProducts
open Go.RowKit Go.Proofs.YtpjbmgoagehjkaaH Go.Proofs.YtpjbmgoagehjkaaW.PrintWords Go.Proofs.YtpjbmgoagehjkaaW.PrintLast Go.Proofs.YtpjbmgoagehjkaaW.PrintMore
attribute [local go_sem] max2_int min2_int max_two min_two max_three min_three max_four min_four   -- for this text's walks alone
set_option linter.unusedVariables false
set_option linter.unusedSimpArgs false
/-! ### semigroupref07_Product: function 32 -/
mutual
def semigroupref07_Product.j0 : Nat → Int → Bool → Int → Int → List Bool → List (List Int) → Int → Int → List Bool → List (List Int) → Option (Int × Int × List Bool × (List (List Int)) × Int)
 | 0, _, _, _, _, _, _, _, _, _, _ => none
 | k + 1, x2, x31, x258000, x258001, x258002, x258003, x259000, x259001, x259002, x259003 => if x31 = true then (some (0, 0, ([] : List Bool), ([] : List (List Int)), 1)) else (semigroupref07_Product.l0 k x2 (([(⟨x258001, x259001⟩ : S70)] : List (S70))) 0 x258000 x258001 x258002 x258003 x259000 x259001 x259002 x259003 (AM.put (AM.nil : AM S70 Int) (⟨x258001, x259001⟩ : S70) 0) x258000 0 ([] : List Bool) ([] : List (List Int)))
def semigroupref07_Product.l0 : Nat → Int → List (S70) → Int → Int → Int → List Bool → List (List Int) → Int → Int → List Bool → List (List Int) → AM S70 Int → Int → Int → List Bool → List (List Int) → Option (Int × Int × List Bool × (List (List Int)) × Int)
 | 0, _, _, _, _, _, _, _, _, _, _, _, _, _, _, _, _ => none
 | k + 1, x2, x9, x12, x258000, x258001, x258002, x258003, x259000, x259001, x259002, x259003, x265000, x267000, x267001, x267002, x267003 => if x12 < (x9.length : Int) then (if 0 ≤ x12 then (semigroupref07_Product.l1 k x2 x9 x12 ([] : List Int) 0 x258000 x258001 x258002 x258003 x259000 x259001 x259002 x259003 x265000 x267000 x267001 x267002 x267003 ((rd_T70 x9 x12).f0) ((rd_T70 x9 x12).f1)) else (none)) else (some (x267000, x267001, x267002, x267003, 0))
def semigroupref07_Product.l1 : Nat → Int → List (S70) → Int → List Int → Int → Int → Int → List Bool → List (List Int) → Int → Int → List Bool → List (List Int) → AM S70 Int → Int → Int → List Bool → List (List Int) → Int → Int → Option (Int × Int × List Bool × (List (List Int)) × Int)
 | 0, _, _, _, _, _, _, _, _, _, _, _, _, _, _, _, _, _, _, _, _ => none
 | k + 1, x2, x9, x12, x14, x15, x258000, x258001, x258002, x258003, x259000, x259001, x259002, x259003, x265000, x267000, x267001, x267002, x267003, x269000, x269001 => if x15 < x258000 then (if 0 ≤ x269000 then (if x269000 < (x258003.length : Int) then (if 0 ≤ x15 then (if x15 < ((rd_L1 x258003 x269000).length : Int) then (if 0 ≤ x269001 then (if x269001 < (x259003.length : Int) then (if x15 < ((rd_L1 x259003 x269001).length : Int) then (if ((AM.has x265000 (⟨rd (rd_L1 x258003 x269000) x15, rd (rd_L1 x259003 x269001) x15⟩ : S70)) = true) then (if x14.length < 17592186044416 then (semigroupref07_Product.l1 k x2 x9 x12 (x14 ++ [AM.get x265000 (⟨rd (rd_L1 x258003 x269000) x15, rd (rd_L1 x259003 x269001) x15⟩ : S70) 0]) (wrap64 (x15 + 1)) x258000 x258001 x258002 x258003 x259000 x259001 x259002 x259003 x265000 x267000 x267001 x267002 x267003 x269000 x269001) else (none)) else (if (x9.length : Int) = 512 then (some (0, 0, ([] : List Bool), ([] : List (List Int)), 3)) else (if x9.length < 8796093022208 then (if x14.length < 17592186044416 then (semigroupref07_Product.l1 k x2 (x9 ++ [(⟨rd (rd_L1 x258003 x269000) x15, rd (rd_L1 x259003 x269001) x15⟩ : S70)]) x12 (x14 ++ [(x9.length : Int)]) (wrap64 (x15 + 1)) x258000 x258001 x258002 x258003 x259000 x259001 x259002 x259003 (AM.put x265000 (⟨rd (rd_L1 x258003 x269000) x15, rd (rd_L1 x259003 x269001) x15⟩ : S70) (x9.length : Int)) x267000 x267001 x267002 x267003 x269000 x269001) else (none)) else (none)))) else (none)) else (none)) else (none)) else (none)) else (none)) else (none)) else (none)) else (if x267003.length < 5864062014805 then (if 0 ≤ x269000 then (if x269000 < (x258002.length : Int) then (if 0 ≤ x269001 then (if x269001 < (x259002.length : Int) then ((semigroupref07_By.f x2 (rdOf false x258002 x269000) (rdOf false x259002 x269001)).bind fun t274 => (if x267002.length < 140737488355328 then (semigroupref07_Product.l0 k x2 x9 (wrap64 (x12 + 1)) x258000 x258001 x258002 x258003 x259000 x259001 x259002 x259003 x265000 x267000 x267001 (x267002 ++ [t274]) (x267003 ++ [x14])) else (none))) else (none)) else (none)) else (none)) else (none)) else (none))
end
def semigroupref07_Product.f (k : Nat) (a0_0 : Int) (a0_1 : Int) (l0_2 : List Bool) (l0_3 : List (List Int)) (a1_0 : Int) (a1_1 : Int) (l1_2 : List Bool) (l1_3 : List (List Int)) (a2 : Int) : Option (Int × Int × List Bool × (List (List Int)) × Int) := (semigroupref07_Pair.f k a0_0 a0_1 l0_2 l0_3 a1_0 a1_1 l1_2 l1_3).bind fun t260 => (if t260 = 0 then (if a2 < 0 then (semigroupref07_Product.j0 k a2 true a0_0 a0_1 l0_2 l0_3 a1_0 a1_1 l1_2 l1_3) else (semigroupref07_Product.j0 k a2 (decide (a2 > 15)) a0_0 a0_1 l0_2 l0_3 a1_0 a1_1 l1_2 l1_3)) else (some (0, 0, ([] : List Bool), ([] : List (List Int)), t260)))
theorem semigroupref07_Product.mono_l : ∀ k, (∀ y0 y1 y2 y3 y4 y5 y6 y7 y8 y9, LeO (semigroupref07_Product.j0 k y0 y1 y2 y3 y4 y5 y6 y7 y8 y9) (semigroupref07_Product.j0 (k + 1) y0 y1 y2 y3 y4 y5 y6 y7 y8 y9)) ∧ (∀ y0 y1 y2 y3 y4 y5 y6 y7 y8 y9 y10 y11 y12 y13 y14 y15, LeO (semigroupref07_Product.l0 k y0 y1 y2 y3 y4 y5 y6 y7 y8 y9 y10 y11 y12 y13 y14 y15) (semigroupref07_Product.l0 (k + 1) y0 y1 y2 y3 y4 y5 y6 y7 y8 y9 y10 y11 y12 y13 y14 y15)) ∧ (∀ y0 y1 y2 y3 y4 y5 y6 y7 y8 y9 y10 y11 y12 y13 y14 y15 y16 y17 y18 y19, LeO (semigroupref07_Product.l1 k y0 y1 y2 y3 y4 y5 y6 y7 y8 y9 y10 y11 y12 y13 y14 y15 y16 y17 y18 y19) (semigroupref07_Product.l1 (k + 1) y0 y1 y2 y3 y4 y5 y6 y7 y8 y9 y10 y11 y12 y13 y14 y15 y16 y17 y18 y19))
 | 0 => ⟨fun _ _ _ _ _ _ _ _ _ _ r h => by simp [semigroupref07_Product.j0] at h, fun _ _ _ _ _ _ _ _ _ _ _ _ _ _ _ _ r h => by simp [semigroupref07_Product.l0] at h, fun _ _ _ _ _ _ _ _ _ _ _ _ _ _ _ _ _ _ _ _ r h => by simp [semigroupref07_Product.l1] at h⟩
 | k + 1 => by
  obtain ⟨ih0, ih1, ih2⟩ := semigroupref07_Product.mono_l k
  refine ⟨?_, ?_, ?_⟩
  (focus
  intro y0 y1 y2 y3 y4 y5 y6 y7 y8 y9
  unfold semigroupref07_Product.j0
  repeat' first
  | (with_reducible exact ih0 _ _ _ _ _ _ _ _ _ _)
  | (with_reducible exact ih1 _ _ _ _ _ _ _ _ _ _ _ _ _ _ _ _)
  | (with_reducible exact ih2 _ _ _ _ _ _ _ _ _ _ _ _ _ _ _ _ _ _ _ _)
  | (with_reducible exact semigroupref07_Pair.mono _ _ _ _ _ _ _ _ _)
  | (with_reducible exact LeO.refl _)
  | (with_reducible exact LeO.none _)
  | (with_reducible refine LeO.ite ?_ ?_)
  | (with_reducible refine LeO.bind ?_ (fun _ => ?_))
  | exact ih0 _ _ _ _ _ _ _ _ _ _
  | exact ih1 _ _ _ _ _ _ _ _ _ _ _ _ _ _ _ _
  | exact ih2 _ _ _ _ _ _ _ _ _ _ _ _ _ _ _ _ _ _ _ _
  | exact semigroupref07_Pair.mono _ _ _ _ _ _ _ _ _
  | exact LeO.none _
  | refine LeO.ite ?_ ?_
  | refine LeO.bind ?_ (fun _ => ?_)
  )
  (focus
  intro y0 y1 y2 y3 y4 y5 y6 y7 y8 y9 y10 y11 y12 y13 y14 y15
  unfold semigroupref07_Product.l0
  repeat' first
  | (with_reducible exact ih0 _ _ _ _ _ _ _ _ _ _)
  | (with_reducible exact ih1 _ _ _ _ _ _ _ _ _ _ _ _ _ _ _ _)
  | (with_reducible exact ih2 _ _ _ _ _ _ _ _ _ _ _ _ _ _ _ _ _ _ _ _)
  | (with_reducible exact semigroupref07_Pair.mono _ _ _ _ _ _ _ _ _)
  | (with_reducible exact LeO.refl _)
  | (with_reducible exact LeO.none _)
  | (with_reducible refine LeO.ite ?_ ?_)
  | (with_reducible refine LeO.bind ?_ (fun _ => ?_))
  | exact ih0 _ _ _ _ _ _ _ _ _ _
  | exact ih1 _ _ _ _ _ _ _ _ _ _ _ _ _ _ _ _
  | exact ih2 _ _ _ _ _ _ _ _ _ _ _ _ _ _ _ _ _ _ _ _
  | exact semigroupref07_Pair.mono _ _ _ _ _ _ _ _ _
  | exact LeO.none _
  | refine LeO.ite ?_ ?_
  | refine LeO.bind ?_ (fun _ => ?_)
  )
  (focus
  intro y0 y1 y2 y3 y4 y5 y6 y7 y8 y9 y10 y11 y12 y13 y14 y15 y16 y17 y18 y19
  unfold semigroupref07_Product.l1
  repeat' first
  | (with_reducible exact ih0 _ _ _ _ _ _ _ _ _ _)
  | (with_reducible exact ih1 _ _ _ _ _ _ _ _ _ _ _ _ _ _ _ _)
  | (with_reducible exact ih2 _ _ _ _ _ _ _ _ _ _ _ _ _ _ _ _ _ _ _ _)
  | (with_reducible exact semigroupref07_Pair.mono _ _ _ _ _ _ _ _ _)
  | (with_reducible exact LeO.refl _)
  | (with_reducible exact LeO.none _)
  | (with_reducible refine LeO.ite ?_ ?_)
  | (with_reducible refine LeO.bind ?_ (fun _ => ?_))
  | exact ih0 _ _ _ _ _ _ _ _ _ _
  | exact ih1 _ _ _ _ _ _ _ _ _ _ _ _ _ _ _ _
  | exact ih2 _ _ _ _ _ _ _ _ _ _ _ _ _ _ _ _ _ _ _ _
  | exact semigroupref07_Pair.mono _ _ _ _ _ _ _ _ _
  | exact LeO.none _
  | refine LeO.ite ?_ ?_
  | refine LeO.bind ?_ (fun _ => ?_)
  )
theorem semigroupref07_Product.mono : ∀ a0 a1 a2 a3 a4 a5 a6 a7 a8 k, LeO (semigroupref07_Product.f k a0 a1 a2 a3 a4 a5 a6 a7 a8) (semigroupref07_Product.f (k + 1) a0 a1 a2 a3 a4 a5 a6 a7 a8) := by
 intro a0 a1 a2 a3 a4 a5 a6 a7 a8 k
 obtain ⟨ih0, ih1, ih2⟩ := semigroupref07_Product.mono_l k
 unfold semigroupref07_Product.f
 repeat' first
  | (with_reducible exact ih0 _ _ _ _ _ _ _ _ _ _)
  | (with_reducible exact ih1 _ _ _ _ _ _ _ _ _ _ _ _ _ _ _ _)
  | (with_reducible exact ih2 _ _ _ _ _ _ _ _ _ _ _ _ _ _ _ _ _ _ _ _)
  | (with_reducible exact semigroupref07_Pair.mono _ _ _ _ _ _ _ _ _)
  | (with_reducible exact LeO.refl _)
  | (with_reducible exact LeO.none _)
  | (with_reducible refine LeO.ite ?_ ?_)
  | (with_reducible refine LeO.bind ?_ (fun _ => ?_))
  | exact ih0 _ _ _ _ _ _ _ _ _ _
  | exact ih1 _ _ _ _ _ _ _ _ _ _ _ _ _ _ _ _
  | exact ih2 _ _ _ _ _ _ _ _ _ _ _ _ _ _ _ _ _ _ _ _
  | exact semigroupref07_Pair.mono _ _ _ _ _ _ _ _ _
  | exact LeO.none _
  | refine LeO.ite ?_ ?_
  | refine LeO.bind ?_ (fun _ => ?_)
def semigroupref07_Product.T17 : Bool × List (List Nat × List Nat) := (true, [([], []), ([0], [0]), ([], []), ([2], [2]), ([1, 3], [1, 3]), ([4], [4]), ([], []), ([5, 6], [5, 6]), ([7], [7]), ([], []), ([9], [9]), ([], []), ([11], [11]), ([10, 12], [10, 12]), ([13], [13]), ([], []), ([14, 15], [14, 15]), ([16], [16]), ([8, 17], [8, 17]), ([], []), ([19, 18, 0, 1, 2, 3, 4, 5, 6, 7, 8, 9, 10, 11, 12, 13, 14, 15, 16, 17, 18, 19], [18, 19])])
def semigroupref07_Product.B17 : List Nat := [0, 1, 0, 4, 15, 31, 0, 127, 255, 0, 512, 0, 2048, 7680, 15872, 0, 65024, 130560, 262143, 0, 1048575]
theorem semigroupref07_Product.tab17 : rtab .any (opsOf Try.f32 17) = semigroupref07_Product.T17 := by kernel_rfl
theorem semigroupref07_Product.bits17 : waitsOk semigroupref07_Product.T17.2 semigroupref07_Product.B17 = true := by kernel_rfl
def semigroupref07_Product.T26 : Bool × List (List Nat × List Nat) := (true, [([], []), ([0], [0]), ([], []), ([2], [2]), ([1, 3], [1, 3]), ([], []), ([5], [5]), ([], []), ([], []), ([8], [8]), ([], []), ([10], [10]), ([9, 11], [9, 11]), ([12], [12]), ([], []), ([14], [14]), ([], []), ([16], [16]), ([15, 17], [15, 17]), ([18], [18]), ([7, 13, 19, 4], [7, 13, 19]), ([20], [20]), ([6, 21, 20], [6, 21]), ([0, 1, 2, 3, 4, 5, 6], []), ([23, 4, 22, 0, 1, 2, 3, 4, 5, 6], [4, 23]), ([0, 1, 2, 3, 4, 5, 6, 7, 8, 9, 10, 11, 12, 13, 14, 15, 16, 17, 18, 19, 20, 21, 22, 23, 24], []), ([25, 22, 24, 0, 1, 2, 3, 4, 5, 6, 7, 8, 9, 10, 11, 12, 13, 14, 15, 16, 17, 18, 19, 20, 21, 22, 23, 24], [22, 25])])
def semigroupref07_Product.B26 : List Nat := [0, 1, 0, 4, 15, 0, 32, 0, 0, 256, 0, 1024, 3840, 7936, 0, 16384, 0, 65536, 245760, 507904, 1048479, 2097055, 4194303, 127, 16777215, 33554431, 67108863]
theorem semigroupref07_Product.tab26 : rtab .any (opsOf Try.f32 26) = semigroupref07_Product.T26 := by kernel_rfl
theorem semigroupref07_Product.bits26 : waitsOk semigroupref07_Product.T26.2 semigroupref07_Product.B26 = true := by kernel_rfl
set_option maxHeartbeats 8000000 in
set_option maxRecDepth 100000 in
theorem semigroupref07_Product.calls (k : Nat) (a0_0 : Int) (a0_1 : Int) (A0_2 : Option Addr) (c0_2 : Nat) (l0_2 : List Bool) (A0_3 : Option Addr) (c0_3 : Nat) (l0_3 : List (List Int)) (a1_0 : Int) (a1_1 : Int) (A1_2 : Option Addr) (c1_2 : Nat) (l1_2 : List Bool) (A1_3 : Option Addr) (c1_3 : Nat) (l1_3 : List (List Int)) (a2 : Int) (r1 : Int) (r2 : Int) (r3 : List Bool) (r4 : List (List Int)) (r5 : Int) (w : World) (hr0_2 : Kd.C Kd.bool w A0_2 l0_2.length l0_2) (hc0_2 : l0_2.length ≤ c0_2) (hr0_3 : Kd.C (Kd.slice 3 (Kd.int .i64)) w A0_3 l0_3.length l0_3) (hc0_3 : l0_3.length ≤ c0_3) (hr1_2 : Kd.C Kd.bool w A1_2 l1_2.length l1_2) (hc1_2 : l1_2.length ≤ c1_2) (hr1_3 : Kd.C (Kd.slice 3 (Kd.int .i64)) w A1_3 l1_3.length l1_3) (hc1_3 : l1_3.length ≤ c1_3) (h : semigroupref07_Product.f k a0_0 a0_1 l0_2 l0_3 a1_0 a1_1 l1_2 l1_3 a2 = some (r1, r2, r3, r4, r5)) :
 Calls Try.prog 32 #[.agg #[.int .i64 a0_0, .int .i64 a0_1, .slice A0_2 l0_2.length c0_2, .slice A0_3 l0_3.length c0_3], .agg #[.int .i64 a1_0, .int .i64 a1_1, .slice A1_2 l1_2.length c1_2, .slice A1_3 l1_3.length c1_3], .int .i64 a2] w fun e w' => ∃ v2_ v3_ : Value, e = .returned (.tuple #[.agg #[.int .i64 r1, .int .i64 r2, v2_, v3_], .int .i64 r5]) ∧ Kd.R Kd.bool 4 w' w.heap.size (fun _ => True) v2_ r3 ∧ Kd.S (Kd.slice 3 (Kd.int .i64)) 38 w' w.heap.size (fun _ => True) v3_ r4 ∧ Below w.heap.size w w' := by
 have hu25 := Try.underlying25
 have hu70 := Try.underlying70
 have ia70_0 : ∀ (g_ : Nat) (w_ : World), (Instr.indexAt 70 (.pointer (some ⟨g_, 0, none⟩)) (.int .i64 0)).run Try.prog w_ = .ok (.pointer (some ⟨g_, 0, none⟩)) w_ := fun _ _ => by kernel_rfl
 have ia70_1 : ∀ (g_ : Nat) (w_ : World), (Instr.indexAt 70 (.pointer (some ⟨g_, 0, none⟩)) (.int .i64 1)).run Try.prog w_ = .ok (.pointer (some ⟨g_, 1, none⟩)) w_ := fun _ _ => by kernel_rfl
 have HR0_2 := Aside0.mk hr0_2
 have HC0_2 := Aside0.mk hc0_2
 clear hr0_2 hc0_2
 have HR0_3 := Aside0.mk hr0_3
 have HC0_3 := Aside0.mk hc0_3
 clear hr0_3 hc0_3
 have HR1_2 := Aside0.mk hr1_2
 have HC1_2 := Aside0.mk hc1_2
 clear hr1_2 hc1_2
 have HR1_3 := Aside0.mk hr1_3
 have HC1_3 := Aside0.mk hc1_3
 clear hr1_3 hc1_3
 have HB := aM (Below.refl w.heap.size w)
 have H : ((semigroupref07_Pair.f k a0_0 a0_1 l0_2 l0_3 a1_0 a1_1 l1_2 l1_3).bind fun t260 => (if t260 = 0 then (if a2 < 0 then (semigroupref07_Product.j0 k a2 true a0_0 a0_1 l0_2 l0_3 a1_0 a1_1 l1_2 l1_3) else (semigroupref07_Product.j0 k a2 (decide (a2 > 15)) a0_0 a0_1 l0_2 l0_3 a1_0 a1_1 l1_2 l1_3)) else (some (0, 0, ([] : List Bool), ([] : List (List Int)), t260)))) = some (r1, r2, r3, r4, r5) := h
 clear h
 replace H := Option.bind_eq_some_iff.mp H
 obtain ⟨t260, A40, H⟩ := H
 replace H : (if t260 = 0 then (if a2 < 0 then (semigroupref07_Product.j0 k a2 true a0_0 a0_1 l0_2 l0_3 a1_0 a1_1 l1_2 l1_3) else (semigroupref07_Product.j0 k a2 (decide (a2 > 15)) a0_0 a0_1 l0_2 l0_3 a1_0 a1_1 l1_2 l1_3)) else (some (0, 0, ([] : List Bool), ([] : List (List Int)), t260))) = some (r1, r2, r3, r4, r5) := H
 have A4 := Aside0.mk A40
 clear A40
 by_cases c5 : t260 = 0
 (focus
 rw [if_pos c5] at H
 have c5b0 : (t260 == 0) = true := beq_iff_eq.mpr c5
 have c5b1 : (t260 != 0) = false := bne_eq_false_iff_eq.mpr c5
 clear c5
 have HC6 := Aside0.mk H
 clear H
 go_enter Try.func32, Try.ntmps32
 go_upto_region 4 with (first | ((with_reducible refine gate_dst (N := 3) rfl ?_); refine box_event ?hg (N := 3) ?hd (cs := #[.int .i64 a0_0, .int .i64 a0_1, .slice A0_2 l0_2.length c0_2, .slice A0_3 l0_3.length c0_3]) (t := 25) ?hr ?_; (case hd => rfl); (case hg => rfl); (case hr => first | (go_simp; done) | (go_simp; rfl)); intro gb257 hg w7 hbox hb; have n0_ := aM (below_step (by repeat (first | (with_reducible first | exact HB.out | apply bA | apply bN | apply bD) | exact HB.out)) hb); have n1_ := aM (hbox); have n2_ := aM ((by rw [hg]; exact (below_size (by repeat (first | (with_reducible first | exact HB.out | apply bA | apply bN | apply bD) | exact HB.out))) : w.heap.size ≤ gb257)); have n3_ := aM ((by rw [hg]; exact (below_size (by repeat (first | (with_reducible first | exact HB.out | apply bA | apply bN | apply bD) | exact HB.out))) : w.heap.size ≤ gb257)); clear HB; have HB := n0_; have BK257 := n1_; have GW257 := n2_; have GE257 := n3_; clear n0_ n1_ n2_ n3_; clear hb hbox hg) | ((with_reducible refine gate_dst (N := 4) rfl ?_); refine box_event ?hg (N := 4) ?hd (cs := #[.int .i64 a1_0, .int .i64 a1_1, .slice A1_2 l1_2.length c1_2, .slice A1_3 l1_3.length c1_3]) (t := 25) ?hr ?_; (case hd => rfl); (case hg => rfl); (case hr => first | (go_simp; done) | (go_simp; rfl)); intro gb258 hg w8 hbox hb; have n0_ := aM (blk_below (uB BK257.out) hb); have n1_ := aM (below_step (by repeat (first | (with_reducible first | exact HB.out | apply bA | apply bN | apply bD | refine bS ?_ ‹_›) | exact HB.out)) hb); have n2_ := aM (hbox); have n3_ := aM ((by rw [hg]; exact (below_size (by repeat (first | (with_reducible first | exact HB.out | apply bA | apply bN | apply bD | refine bS ?_ ‹_›) | exact HB.out))) : w.heap.size ≤ gb258)); have n4_ := aM ((by rw [hg]; exact (below_size (by repeat (first | (with_reducible first | exact HB.out | apply bA | apply bN | apply bD | refine bS ?_ ‹_›) | exact HB.out))) : w.heap.size ≤ gb258)); have n5_ := aM ((by rw [hg]; exact Nat.ne_of_lt (blk_lt (uB BK257.out)) : gb257 ≠ gb258)); have n6_ := aM ((by rw [hg]; exact Nat.ne_of_gt (blk_lt (uB BK257.out)) : gb258 ≠ gb257)); clear BK257; clear HB; have BK257 := n0_; have HB := n1_; have BK258 := n2_; have GW258 := n3_; have GE258 := n4_; have NB257_258 := n5_; have NB258_257 := n6_; clear n0_ n1_ n2_ n3_ n4_ n5_ n6_; clear hb hbox hg) | ((with_reducible refine gate_dst (N := 6) rfl ?_); refine box_event ?hg (N := 6) ?hd (cs := #[.int .i64 0, .int .i64 0, .slice none 0 0, .slice none 0 0]) (t := 25) ?hr ?_; (case hd => rfl); (case hg => rfl); (case hr => first | (go_simp; done) | (go_simp; rfl)); intro gb259 hg w9 hbox hb; have n0_ := aM (blk_below (uB BK257.out) hb); have n1_ := aM (blk_below (uB BK258.out) hb); have n2_ := aM (below_step (by repeat (first | (with_reducible first | exact HB.out | apply bA | apply bN | apply bD | refine bS ?_ ‹_›) | exact HB.out)) hb); have n3_ := aM (hbox); have n4_ := aM ((by rw [hg]; exact (below_size (by repeat (first | (with_reducible first | exact HB.out | apply bA | apply bN | apply bD | refine bS ?_ ‹_›) | exact HB.out))) : w.heap.size ≤ gb259)); have n5_ := aM ((by rw [hg]; exact (below_size (by repeat (first | (with_reducible first | exact HB.out | apply bA | apply bN | apply bD | refine bS ?_ ‹_›) | exact HB.out))) : w.heap.size ≤ gb259)); have n6_ := aM ((by rw [hg]; exact Nat.ne_of_lt (blk_lt (uB BK257.out)) : gb257 ≠ gb259)); have n7_ := aM ((by rw [hg]; exact Nat.ne_of_gt (blk_lt (uB BK257.out)) : gb259 ≠ gb257)); have n8_ := aM ((by rw [hg]; exact Nat.ne_of_lt (blk_lt (uB BK258.out)) : gb258 ≠ gb259)); have n9_ := aM ((by rw [hg]; exact Nat.ne_of_gt (blk_lt (uB BK258.out)) : gb259 ≠ gb258)); clear BK257; clear BK258; clear HB; have BK257 := n0_; have BK258 := n1_; have HB := n2_; have BK259 := n3_; have GW259 := n4_; have GE259 := n5_; have NB257_259 := n6_; have NB259_257 := n7_; have NB258_259 := n8_; have NB259_258 := n9_; clear n0_ n1_ n2_ n3_ n4_ n5_ n6_ n7_ n8_ n9_; clear hb hbox hg; have hnb10 := NB257_258.out; have hnc10 := NB258_257.out; have hnb11 := NB257_259.out; have hnc11 := NB259_257.out; have hcz12_0 : w9.cell? ⟨gb257, 0, none⟩ = some (.int .i64 a0_0) := (blk_cell BK257.out 0).trans rfl; have hcz12_1 : w9.cell? ⟨gb257, 1, none⟩ = some (.int .i64 a0_1) := (blk_cell BK257.out 1).trans rfl; have hcz12_2 : w9.cell? ⟨gb257, 2, none⟩ = some (.slice A0_2 l0_2.length c0_2) := (blk_cell BK257.out 2).trans rfl; have hcz12_3 : w9.cell? ⟨gb257, 3, none⟩ = some (.slice A0_3 l0_3.length c0_3) := (blk_cell BK257.out 3).trans rfl; have hfz12_0 := blk_frozen BK257.out 0; have hfz12_1 := blk_frozen BK257.out 1; have hfz12_2 := blk_frozen BK257.out 2; have hfz12_3 := blk_frozen BK257.out 3; have hnb13 := NB258_259.out; have hnc13 := NB259_258.out; have hcz14_0 : w9.cell? ⟨gb258, 0, none⟩ = some (.int .i64 a1_0) := (blk_cell BK258.out 0).trans rfl; have hcz14_1 : w9.cell? ⟨gb258, 1, none⟩ = some (.int .i64 a1_1) := (blk_cell BK258.out 1).trans rfl; have hcz14_2 : w9.cell? ⟨gb258, 2, none⟩ = some (.slice A1_2 l1_2.length c1_2) := (blk_cell BK258.out 2).trans rfl; have hcz14_3 : w9.cell? ⟨gb258, 3, none⟩ = some (.slice A1_3 l1_3.length c1_3) := (blk_cell BK258.out 3).trans rfl; have hfz14_0 := blk_frozen BK258.out 0; have hfz14_1 := blk_frozen BK258.out 1; have hfz14_2 := blk_frozen BK258.out 2; have hfz14_3 := blk_frozen BK258.out 3) | ((with_reducible refine gate_callee (f := 50) rfl ?_); refine goesL_ (some 21) rfl rfl Try.func50 (by kernel_rfl) rfl #[.agg #[.int .i64 a0_0, .int .i64 a0_1, .slice A0_2 l0_2.length c0_2, .slice A0_3 l0_3.length c0_3], .agg #[.int .i64 a1_0, .int .i64 a1_1, .slice A1_2 l1_2.length c1_2, .slice A1_3 l1_3.length c1_3]] rfl (by (try simp only [List.map_toArray, List.map_cons, List.map_nil]); first | done | rfl | (simp only [List.length_drop, List.length_take]; rfl)) ?_; (with_reducible refine (semigroupref07_Pair.calls k a0_0 a0_1 _ _ l0_2 _ _ l0_3 a1_0 a1_1 _ _ l1_2 _ _ l1_3 t260 _ ?side1 ?side2 ?side3 ?side4 ?side5 ?side6 ?side7 ?side8 A4.out).mono ?_); (case side1 => repeat (first | exact (Kd.C_below HR0_2.out HB.out) | (with_reducible refine Kd.C_alloc ?_ _) | (with_reducible refine Kd.C_drewN ?_ _) | (with_reducible refine Kd.C_drew ?_))); (case side2 => exact HC0_2.out); (case side3 => repeat (first | exact (Kd.C_below HR0_3.out HB.out) | (with_reducible refine Kd.C_alloc ?_ _) | (with_reducible refine Kd.C_drewN ?_ _) | (with_reducible refine Kd.C_drew ?_))); (case side4 => exact HC0_3.out); (case side5 => repeat (first | exact (Kd.C_below HR1_2.out HB.out) | (with_reducible refine Kd.C_alloc ?_ _) | (with_reducible refine Kd.C_drewN ?_ _) | (with_reducible refine Kd.C_drew ?_))); (case side6 => exact HC1_2.out); (case side7 => repeat (first | exact (Kd.C_below HR1_3.out HB.out) | (with_reducible refine Kd.C_alloc ?_ _) | (with_reducible refine Kd.C_drewN ?_ _) | (with_reducible refine Kd.C_drew ?_))); (case side8 => exact HC1_3.out); rintro e w15 ⟨rfl, hb⟩; refine ⟨_, rfl, ?_⟩; have n0_ := aM (blk_below (uB BK257.out) hb); have n1_ := aM (blk_below (uB BK258.out) hb); have n2_ := aM (blk_below (uB BK259.out) hb); have n3_ := aM (below_step (by repeat (first | (with_reducible first | exact HB.out | apply bA | apply bN | apply bD | refine bS ?_ ‹_›) | exact HB.out)) hb); clear BK257; clear BK258; clear BK259; clear HB; have BK257 := n0_; have BK258 := n1_; have BK259 := n2_; have HB := n3_; clear n0_ n1_ n2_ n3_; (try clear hb); (try clear hb2); (try clear hk); (try clear hi)))
 (try simp only [Act.put, sA, sB, sC])
 go_cut [31] (fun v31 wc => ∃ (kq : Nat) (x31_5 : Bool), v31 = .bool x31_5 ∧ Aside0 (semigroupref07_Product.j0 kq a2 x31_5 a0_0 a0_1 l0_2 l0_3 a1_0 a1_1 l1_2 l1_3 = some (r1, r2, r3, r4, r5)) ∧ Aside0 (kq ≤ k) ∧ Aside0 (wc.heap[gb257]? = some (.cells #[.int .i64 a0_0, .int .i64 a0_1, (.slice A0_2 l0_2.length c0_2), (.slice A0_3 l0_3.length c0_3)] 25 (0, 0))) ∧ Aside0 (wc.heap[gb258]? = some (.cells #[.int .i64 a1_0, .int .i64 a1_1, (.slice A1_2 l1_2.length c1_2), (.slice A1_3 l1_3.length c1_3)] 25 (0, 0))) ∧ Aside0 (wc.heap[gb259]? = some (.cells #[.int .i64 0, .int .i64 0, (.slice none 0 0), (.slice none 0 0)] 25 (0, 0))) ∧ Aside0 (Below w.heap.size w wc))
 case first =>
  have H := HC6.out
  clear HC6
  by_cases c16 : a2 < 0
  (focus
  rw [if_pos c16] at H
  have c16b0 : decide (a2 < 0) = true := decide_eq_true c16
  clear c16
  (first | rw [c16b0] | (simp only [i64_w, i32_w]; rw [c16b0]) | skip)
  have H' := Aside0.mk H
  clear H
  go_wp2
  go_meet
  case rel => exact ⟨_, (true), (by first | rfl | (simp; done) | (simp [*]; done)), H', ⟨by first | omega | exact Nat.le_refl _⟩, ⟨by (with_reducible repeat (first | refine kN ?_ | refine kD ?_ | refine kA ?_)); exact BK257.out⟩, ⟨by (with_reducible repeat (first | refine kN ?_ | refine kD ?_ | refine kA ?_)); exact BK258.out⟩, ⟨by (with_reducible repeat (first | refine kN ?_ | refine kD ?_ | refine kA ?_)); exact BK259.out⟩, ⟨by repeat (first | (with_reducible first | exact HB.out | apply bA | apply bN | apply bD | refine bS ?_ ‹_›) | exact HB.out)⟩⟩
  )
  (focus
  rw [if_neg c16] at H
  have c16b0 : decide (a2 < 0) = false := decide_eq_false c16
  clear c16
  (first | rw [c16b0] | (simp only [i64_w, i32_w]; rw [c16b0]) | skip)
  have H' := Aside0.mk H
  clear H
  go_wp2
  go_meet
  case rel => exact ⟨_, (decide (a2 > 15)), (by first | rfl | (simp; done) | (simp [*]; done)), H', ⟨by first | omega | exact Nat.le_refl _⟩, ⟨by (with_reducible repeat (first | refine kN ?_ | refine kD ?_ | refine kA ?_)); exact BK257.out⟩, ⟨by (with_reducible repeat (first | refine kN ?_ | refine kD ?_ | refine kA ?_)); exact BK258.out⟩, ⟨by (with_reducible repeat (first | refine kN ?_ | refine kD ?_ | refine kA ?_)); exact BK259.out⟩, ⟨by repeat (first | (with_reducible first | exact HB.out | apply bA | apply bN | apply bD | refine bS ?_ ‹_›) | exact HB.out)⟩⟩
  )
 case rest =>
  clear HC6
  try clear c1
  try clear p2
  try clear c3
  try clear c5
  try clear c5b0
  try clear c5b1
  try clear c10
  try clear c11
  try clear c13
  try clear c16
  try clear c16b0
  try clear hcz12_0
  try clear hcz12_1
  try clear hcz12_2
  try clear hcz12_3
  try clear hcz14_0
  try clear hcz14_1
  try clear hcz14_2
  try clear hcz14_3
  try clear hfz12_0
  try clear hfz12_1
  try clear hfz12_2
  try clear hfz12_3
  try clear hfz14_0
  try clear hfz14_1
  try clear hfz14_2
  try clear hfz14_3
  obtain ⟨kq, x31_5, rfl, HA, HJ5, BK257, BK258, BK259, HB⟩ := hcut
  cases kq with
  | zero => exact absurd HA.out (by simp [semigroupref07_Product.j0])
  | succ kj5 =>
   have H := HA.out
   clear HA
   simp only [semigroupref07_Product.j0] at H
   by_cases c17 : x31_5 = true
   (focus
   subst c17
   have H1 : (some (0, 0, ([] : List Bool), ([] : List (List Int)), 1)) = some (r1, r2, r3, r4, r5) := by rw [if_pos rfl] at H; exact H
   clear H
   have H := H1
   clear H1
   simp only [Option.some.injEq, Prod.mk.injEq] at H
   obtain ⟨rfl, rfl, rfl, rfl, rfl⟩ := H
   have hnb18 := NB259_257.out
   have hnc18 := NB257_259.out
   have hnb19 := NB259_258.out
   have hnc19 := NB258_259.out
   have hcz20_0 : wc.cell? ⟨gb259, 0, none⟩ = some (.int .i64 0) := (blk_cell BK259.out 0).trans rfl
   have hcz20_1 : wc.cell? ⟨gb259, 1, none⟩ = some (.int .i64 0) := (blk_cell BK259.out 1).trans rfl
   have hcz20_2 : wc.cell? ⟨gb259, 2, none⟩ = some (.slice none 0 0) := (blk_cell BK259.out 2).trans rfl
   have hcz20_3 : wc.cell? ⟨gb259, 3, none⟩ = some (.slice none 0 0) := (blk_cell BK259.out 3).trans rfl
   have hfz20_0 := blk_frozen BK259.out 0
   have hfz20_1 := blk_frozen BK259.out 1
   have hfz20_2 := blk_frozen BK259.out 2
   have hfz20_3 := blk_frozen BK259.out 3
   go_wp2
   refine bodyPost_ret (results_ct rfl _ _ gb259 25 #[.int .i64 0, .int .i64 0, .slice none 0 0, .slice none 0 0] (0, 0) _ rfl (by (with_reducible repeat (first | refine kN ?_ | refine kD ?_ | refine kA ?_)); refine blk_put (cs := #[.int .i64 0, .int .i64 0, .slice none 0 0, .slice none 0 0]) ?_ 3 _ rfl; (with_reducible repeat (first | refine kN ?_ | refine kD ?_ | refine kA ?_)); refine blk_put (cs := #[.int .i64 0, .int .i64 0, .slice none 0 0, .slice none 0 0]) ?_ 2 _ rfl; (with_reducible repeat (first | refine kN ?_ | refine kD ?_ | refine kA ?_)); refine blk_put (cs := #[.int .i64 0, .int .i64 0, .slice none 0 0, .slice none 0 0]) ?_ 1 _ rfl; (with_reducible repeat (first | refine kN ?_ | refine kD ?_ | refine kA ?_)); refine blk_put (cs := #[.int .i64 0, .int .i64 0, .slice none 0 0, .slice none 0 0]) ?_ 0 _ rfl; (with_reducible repeat (first | refine kN ?_ | refine kD ?_ | refine kA ?_)); exact BK259.out) Try.underlying25 rfl (by kernel_rfl)) rfl ?_
   exact ⟨_, _, by first | rfl | (simp [errW_none, errW_some] <;> rfl) | (simp [*, errW_none, errW_some] <;> rfl), by first | exact Kd.R_nil _ _ _ _ _ | exact Kd.N_nil _ _ _ _ _ | exact Kd.V_nil _ _ _ _ _ | exact Kd.Q_nil _ _ _ _ _ | exact Kd.S_nil _ _ _ _ _, by first | exact Kd.S_nil _ _ _ _ _ | exact Kd.N_nil _ _ _ _ _ | exact Kd.V_nil _ _ _ _ _ | exact Kd.Q_nil _ _ _ _ _ | exact Kd.R_nil _ _ _ _ _, by repeat (first | (with_reducible first | exact HB.out | apply bA | apply bN | apply bD | refine bS ?_ ‹_›) | exact HB.out)⟩
   )
   (focus
   replace c17 := Bool.eq_false_iff.mpr c17
   subst c17
   have H1 : (semigroupref07_Product.l0 kj5 a2 (([(⟨a0_1, a1_1⟩ : S70)] : List (S70))) 0 a0_0 a0_1 l0_2 l0_3 a1_0 a1_1 l1_2 l1_3 (AM.put (AM.nil : AM S70 Int) (⟨a0_1, a1_1⟩ : S70) 0) a0_0 0 ([] : List Bool) ([] : List (List Int))) = some (r1, r2, r3, r4, r5) := by rw [if_neg (show ¬ (false = true) by decide)] at H; exact H
   clear H
   have H := H1
   clear H1
   obtain ⟨y261, hy261⟩ : ∃ y_ : List (S70), y_ = (([(⟨a0_1, a1_1⟩ : S70)] : List (S70))) := ⟨_, rfl⟩
   replace H : (semigroupref07_Product.l0 kj5 a2 y261 0 a0_0 a0_1 l0_2 l0_3 a1_0 a1_1 l1_2 l1_3 (AM.put (AM.nil : AM S70 Int) (⟨a0_1, a1_1⟩ : S70) 0) a0_0 0 ([] : List Bool) ([] : List (List Int))) = some (r1, r2, r3, r4, r5) := by first | (rw [hy261]; with_reducible exact H) | (have H2_ := (Option.bind_some _ _).symm.trans H; rw [hy261]; with_reducible exact H2_) | (have H2_ := (Option.bind_some _ _).symm.trans H; with_reducible exact H2_) | with_reducible exact H | (rw [hy261]; exact H) | exact H
   have Ny261 := Aside0.mk hy261
   clear hy261
   obtain ⟨y265, hy265⟩ : ∃ y_ : AM S70 Int, y_ = (AM.put (AM.nil : AM S70 Int) (⟨a0_1, a1_1⟩ : S70) 0) := ⟨_, rfl⟩
   replace H : (semigroupref07_Product.l0 kj5 a2 y261 0 a0_0 a0_1 l0_2 l0_3 a1_0 a1_1 l1_2 l1_3 y265 a0_0 0 ([] : List Bool) ([] : List (List Int))) = some (r1, r2, r3, r4, r5) := by first | (rw [hy265]; with_reducible exact H) | (have H2_ := (Option.bind_some _ _).symm.trans H; rw [hy265]; with_reducible exact H2_) | (have H2_ := (Option.bind_some _ _).symm.trans H; with_reducible exact H2_) | with_reducible exact H | (rw [hy265]; exact H) | exact H
   have Ny265 := Aside0.mk hy265
   clear hy265
   have H' := Aside0.mk H
   clear H
   have hnb21 := NB257_258.out
   have hnc21 := NB258_257.out
   have hnb22 := NB257_259.out
   have hnc22 := NB259_257.out
   have hcz23_0 : wc.cell? ⟨gb257, 0, none⟩ = some (.int .i64 a0_0) := (blk_cell BK257.out 0).trans rfl
   have hcz23_1 : wc.cell? ⟨gb257, 1, none⟩ = some (.int .i64 a0_1) := (blk_cell BK257.out 1).trans rfl
   have hcz23_2 : wc.cell? ⟨gb257, 2, none⟩ = some (.slice A0_2 l0_2.length c0_2) := (blk_cell BK257.out 2).trans rfl
   have hcz23_3 : wc.cell? ⟨gb257, 3, none⟩ = some (.slice A0_3 l0_3.length c0_3) := (blk_cell BK257.out 3).trans rfl
   have hfz23_0 := blk_frozen BK257.out 0
   have hfz23_1 := blk_frozen BK257.out 1
   have hfz23_2 := blk_frozen BK257.out 2
   have hfz23_3 := blk_frozen BK257.out 3
   have hnb24 := NB258_259.out
   have hnc24 := NB259_258.out
   have hcz25_0 : wc.cell? ⟨gb258, 0, none⟩ = some (.int .i64 a1_0) := (blk_cell BK258.out 0).trans rfl
   have hcz25_1 : wc.cell? ⟨gb258, 1, none⟩ = some (.int .i64 a1_1) := (blk_cell BK258.out 1).trans rfl
   have hcz25_2 : wc.cell? ⟨gb258, 2, none⟩ = some (.slice A1_2 l1_2.length c1_2) := (blk_cell BK258.out 2).trans rfl
   have hcz25_3 : wc.cell? ⟨gb258, 3, none⟩ = some (.slice A1_3 l1_3.length c1_3) := (blk_cell BK258.out 3).trans rfl
   have hfz25_0 := blk_frozen BK258.out 0
   have hfz25_1 := blk_frozen BK258.out 1
   have hfz25_2 := blk_frozen BK258.out 2
   have hfz25_3 := blk_frozen BK258.out 3
   go_wp2_with (first | ((with_reducible refine gate_dst (N := 38) rfl ?_); refine Kd.R_lit k70 _ 70 ?hg (N := 38) ?hd (xs := ([(⟨a0_1, a1_1⟩ : S70)] : List (S70))) (inner := [.int .i64 a0_1, .int .i64 a1_1]) (ok := fun _ => True) (okp := fun _ => True) ?hr ?hp (fun _ hk => hk) trivial (Below.refl _ _) (Nat.le_refl _) (by simp) ?_; (case hd => rfl); (case hg => rfl); (case hr => first | (go_simp; done) | (go_simp; rfl)); (case hp => exact (Reps.c2 (show Kd.M k70 _ _ _ (⟨a0_1, a1_1⟩ : S70) [.int .i64 a0_1, .int .i64 a1_1] from (k70_mkM _ _ _ (⟨a0_1, a1_1⟩ : S70) )) (Reps.none _ _))); intro v262 w26 ho27 hb hg_ hnew_; clear hg_ hnew_; (first | rw [← Ny261.out] at ho27 | (simp only [Int.reduceToNat] at ho27; rw [← Ny261.out] at ho27)); have n0_ := aM (Kd.R_lower ho27 (below_size (by repeat (first | (with_reducible first | exact HB.out | apply bA | apply bN | apply bD | refine bS ?_ ‹_›) | exact HB.out)))); have n1_ := aM (blk_below (uB BK257.out) hb); have n2_ := aM (blk_below (uB BK258.out) hb); have n3_ := aM (blk_below (uB BK259.out) hb); have n4_ := aM (below_step (by repeat (first | (with_reducible first | exact HB.out | apply bA | apply bN | apply bD | refine bS ?_ ‹_›) | exact HB.out)) hb); clear BK257; clear BK258; clear BK259; clear HB; have HO263 := n0_; have BK257 := n1_; have BK258 := n2_; have BK259 := n3_; have HB := n4_; clear n0_ n1_ n2_ n3_ n4_; clear hb ho27) | ((with_reducible refine gate_dst (N := 39) rfl ?_); refine map_event ek70 (Value.int .i64) ?hg (N := 39) ?hd ?hr ?_; (case hd => rfl); (case hg => rfl); (case hr => first | rfl | (go_simp; done) | (go_simp; rfl)); intro gb264 hg w28 hbox hb; have n0_ := aM (Kd.R_below (uR HO263.out) hb); have n1_ := aM (blk_below (uB BK257.out) hb); have n2_ := aM (blk_below (uB BK258.out) hb); have n3_ := aM (blk_below (uB BK259.out) hb); have n4_ := aM (below_step (by repeat (first | (with_reducible first | exact HB.out | apply bA | apply bN | apply bD | refine bS ?_ ‹_›) | exact HB.out)) hb); have n5_ := aM (hbox); have n6_ := aM ((by rw [hg]; exact (below_size (by repeat (first | (with_reducible first | exact HB.out | apply bA | apply bN | apply bD | refine bS ?_ ‹_›) | exact HB.out))) : w.heap.size ≤ gb264)); have n7_ := aM ((by rw [hg]; exact (below_size (by repeat (first | (with_reducible first | exact HB.out | apply bA | apply bN | apply bD | refine bS ?_ ‹_›) | exact HB.out))) : w.heap.size ≤ gb264)); have n8_ := aM ((by rw [hg]; exact Nat.ne_of_lt (blk_lt (uB BK257.out)) : gb257 ≠ gb264)); have n9_ := aM ((by rw [hg]; exact Nat.ne_of_gt (blk_lt (uB BK257.out)) : gb264 ≠ gb257)); have n10_ := aM ((by rw [hg]; exact Nat.ne_of_lt (blk_lt (uB BK258.out)) : gb258 ≠ gb264)); have n11_ := aM ((by rw [hg]; exact Nat.ne_of_gt (blk_lt (uB BK258.out)) : gb264 ≠ gb258)); have n12_ := aM ((by rw [hg]; exact Nat.ne_of_lt (blk_lt (uB BK259.out)) : gb259 ≠ gb264)); have n13_ := aM ((by rw [hg]; exact Nat.ne_of_gt (blk_lt (uB BK259.out)) : gb264 ≠ gb259)); clear HO263; clear BK257; clear BK258; clear BK259; clear HB; have HO263 := n0_; have BK257 := n1_; have BK258 := n2_; have BK259 := n3_; have HB := n4_; have BK264 := n5_; have GW264 := n6_; have GE264 := n7_; have NB257_264 := n8_; have NB264_257 := n9_; have NB258_264 := n10_; have NB264_258 := n11_; have NB259_264 := n12_; have NB264_259 := n13_; clear n0_ n1_ n2_ n3_ n4_ n5_ n6_ n7_ n8_ n9_ n10_ n11_ n12_ n13_; clear hb hbox hg; have hnb29 := NB257_264.out; have hnc29 := NB264_257.out; have hcz30_0 : w28.cell? ⟨gb257, 0, none⟩ = some (.int .i64 a0_0) := (blk_cell BK257.out 0).trans rfl; have hcz30_1 : w28.cell? ⟨gb257, 1, none⟩ = some (.int .i64 a0_1) := (blk_cell BK257.out 1).trans rfl; have hcz30_2 : w28.cell? ⟨gb257, 2, none⟩ = some (.slice A0_2 l0_2.length c0_2) := (blk_cell BK257.out 2).trans rfl; have hcz30_3 : w28.cell? ⟨gb257, 3, none⟩ = some (.slice A0_3 l0_3.length c0_3) := (blk_cell BK257.out 3).trans rfl; have hfz30_0 := blk_frozen BK257.out 0; have hfz30_1 := blk_frozen BK257.out 1; have hfz30_2 := blk_frozen BK257.out 2; have hfz30_3 := blk_frozen BK257.out 3; have hnb31 := NB258_264.out; have hnc31 := NB264_258.out; have hcz32_0 : w28.cell? ⟨gb258, 0, none⟩ = some (.int .i64 a1_0) := (blk_cell BK258.out 0).trans rfl; have hcz32_1 : w28.cell? ⟨gb258, 1, none⟩ = some (.int .i64 a1_1) := (blk_cell BK258.out 1).trans rfl; have hcz32_2 : w28.cell? ⟨gb258, 2, none⟩ = some (.slice A1_2 l1_2.length c1_2) := (blk_cell BK258.out 2).trans rfl; have hcz32_3 : w28.cell? ⟨gb258, 3, none⟩ = some (.slice A1_3 l1_3.length c1_3) := (blk_cell BK258.out 3).trans rfl; have hfz32_0 := blk_frozen BK258.out 0; have hfz32_1 := blk_frozen BK258.out 1; have hfz32_2 := blk_frozen BK258.out 2; have hfz32_3 := blk_frozen BK258.out 3) | (skip; refine wp_putM rfl _ _ _ 72 (.inr rfl) 70 3 keyOk70 Try.underlying72 gb264 (AM.nil : AM S70 Int) (show _ = some (mapO ek70 (Value.int .i64) (AM.nil : AM S70 Int)) from by (with_reducible repeat (first | refine kN ?_ | refine kD ?_ | refine kA ?_)); exact BK264.out) rfl (⟨a0_1, a1_1⟩ : S70) rfl 0 rfl ?_; intro w33 hbox hg; rw [← Ny265.out] at hbox; have n0_ := aM (blk_grown (uB BK257.out) hg (fun e_ => NB257_264.out (Option.some.inj e_))); have n1_ := aM (blk_grown (uB BK258.out) hg (fun e_ => NB258_264.out (Option.some.inj e_))); have n2_ := aM (blk_grown (uB BK259.out) hg (fun e_ => NB259_264.out (Option.some.inj e_))); have n3_ := aM (R_overM (uR HO263.out) (show _ = some (mapO ek70 (Value.int .i64) (AM.nil : AM S70 Int)) from by (with_reducible repeat (first | refine kN ?_ | refine kD ?_ | refine kA ?_)); exact BK264.out) hg); have n4_ := aM (hbox); have n5_ := aM (below_mapO (by repeat (first | (with_reducible first | exact HB.out | apply bA | apply bN | apply bD | refine bS ?_ ‹_›) | exact HB.out)) (below_size (by repeat (first | (with_reducible first | exact HB.out | apply bA | apply bN | apply bD | refine bS ?_ ‹_›) | exact HB.out))) GE264.out hg); clear BK257; clear BK258; clear BK259; clear HO263; clear BK264; clear HB; have BK257 := n0_; have BK258 := n1_; have BK259 := n2_; have HO263 := n3_; have BK264 := n4_; have HB := n5_; clear n0_ n1_ n2_ n3_ n4_ n5_; clear hbox hg; have hcz34_0 : w33.cell? ⟨gb257, 0, none⟩ = some (.int .i64 a0_0) := (blk_cell BK257.out 0).trans rfl; have hcz34_1 : w33.cell? ⟨gb257, 1, none⟩ = some (.int .i64 a0_1) := (blk_cell BK257.out 1).trans rfl; have hcz34_2 : w33.cell? ⟨gb257, 2, none⟩ = some (.slice A0_2 l0_2.length c0_2) := (blk_cell BK257.out 2).trans rfl; have hcz34_3 : w33.cell? ⟨gb257, 3, none⟩ = some (.slice A0_3 l0_3.length c0_3) := (blk_cell BK257.out 3).trans rfl; have hfz34_0 := blk_frozen BK257.out 0; have hfz34_1 := blk_frozen BK257.out 1; have hfz34_2 := blk_frozen BK257.out 2; have hfz34_3 := blk_frozen BK257.out 3) | ((with_reducible refine gate_dst (N := 11) rfl ?_); refine box_event ?hg (N := 11) ?hd (cs := #[.int .i64 0, .int .i64 0, .slice none 0 0, .slice none 0 0]) (t := 25) ?hr ?_; (case hd => rfl); (case hg => rfl); (case hr => first | (go_simp; done) | (go_simp; rfl)); intro gb266 hg w35 hbox hb; have n0_ := aM (Kd.R_below (uR HO263.out) hb); have n1_ := aM (blk_below (uB BK257.out) hb); have n2_ := aM (blk_below (uB BK258.out) hb); have n3_ := aM (blk_below (uB BK259.out) hb); have n4_ := aM (blk_below (g := gb264) (o := mapO ek70 (Value.int .i64) y265) (uB BK264.out) hb); have n5_ := aM (below_step (by repeat (first | (with_reducible first | exact HB.out | apply bA | apply bN | apply bD | refine bS ?_ ‹_›) | exact HB.out)) hb); have n6_ := aM (hbox); have n7_ := aM ((by rw [hg]; exact (below_size (by repeat (first | (with_reducible first | exact HB.out | apply bA | apply bN | apply bD | refine bS ?_ ‹_›) | exact HB.out))) : w.heap.size ≤ gb266)); have n8_ := aM ((by rw [hg]; exact (below_size (by repeat (first | (with_reducible first | exact HB.out | apply bA | apply bN | apply bD | refine bS ?_ ‹_›) | exact HB.out))) : w.heap.size ≤ gb266)); have n9_ := aM ((by rw [hg]; exact Nat.ne_of_lt (blk_lt (uB BK257.out)) : gb257 ≠ gb266)); have n10_ := aM ((by rw [hg]; exact Nat.ne_of_gt (blk_lt (uB BK257.out)) : gb266 ≠ gb257)); have n11_ := aM ((by rw [hg]; exact Nat.ne_of_lt (blk_lt (uB BK258.out)) : gb258 ≠ gb266)); have n12_ := aM ((by rw [hg]; exact Nat.ne_of_gt (blk_lt (uB BK258.out)) : gb266 ≠ gb258)); have n13_ := aM ((by rw [hg]; exact Nat.ne_of_lt (blk_lt (uB BK259.out)) : gb259 ≠ gb266)); have n14_ := aM ((by rw [hg]; exact Nat.ne_of_gt (blk_lt (uB BK259.out)) : gb266 ≠ gb259)); have n15_ := aM ((by rw [hg]; exact Nat.ne_of_lt (blk_lt (g := gb264) (o := mapO ek70 (Value.int .i64) y265) (uB BK264.out)) : gb264 ≠ gb266)); have n16_ := aM ((by rw [hg]; exact Nat.ne_of_gt (blk_lt (g := gb264) (o := mapO ek70 (Value.int .i64) y265) (uB BK264.out)) : gb266 ≠ gb264)); clear HO263; clear BK257; clear BK258; clear BK259; clear BK264; clear HB; have HO263 := n0_; have BK257 := n1_; have BK258 := n2_; have BK259 := n3_; have BK264 := n4_; have HB := n5_; have BK266 := n6_; have GW266 := n7_; have GE266 := n8_; have NB257_266 := n9_; have NB266_257 := n10_; have NB258_266 := n11_; have NB266_258 := n12_; have NB259_266 := n13_; have NB266_259 := n14_; have NB264_266 := n15_; have NB266_264 := n16_; clear n0_ n1_ n2_ n3_ n4_ n5_ n6_ n7_ n8_ n9_ n10_ n11_ n12_ n13_ n14_ n15_ n16_; clear hb hbox hg; have hnb36 := NB266_257.out; have hnc36 := NB257_266.out; have hnb37 := NB266_258.out; have hnc37 := NB258_266.out; have hnb38 := NB266_259.out; have hnc38 := NB259_266.out; have hnb39 := NB266_264.out; have hnc39 := NB264_266.out; have hcz40_0 : w35.cell? ⟨gb266, 0, none⟩ = some (.int .i64 0) := (blk_cell BK266.out 0).trans rfl; have hcz40_1 : w35.cell? ⟨gb266, 1, none⟩ = some (.int .i64 0) := (blk_cell BK266.out 1).trans rfl; have hcz40_2 : w35.cell? ⟨gb266, 2, none⟩ = some (.slice none 0 0) := (blk_cell BK266.out 2).trans rfl; have hcz40_3 : w35.cell? ⟨gb266, 3, none⟩ = some (.slice none 0 0) := (blk_cell BK266.out 3).trans rfl; have hfz40_0 := blk_frozen BK266.out 0; have hfz40_1 := blk_frozen BK266.out 1; have hfz40_2 := blk_frozen BK266.out 2; have hfz40_3 := blk_frozen BK266.out 3))
   go_loopg [9, 12] kj5 (fun kq v9 v12 w' => ∃ (x9_2 : List (S70)) (x12_2 : Int) (x260000_2 : Int) (x260001_2 : Int) (x265000_2 : AM S70 Int) (x267002_2 : List Bool) (x267003_2 : List (List Int)) (u267002 : Value) (u267003 : Value), v12 = .int .i64 x12_2 ∧ Aside0 (semigroupref07_Product.l0 kq a2 x9_2 x12_2 a0_0 a0_1 l0_2 l0_3 a1_0 a1_1 l1_2 l1_3 x265000_2 a0_0 0 x267002_2 x267003_2 = some (r1, r2, r3, r4, r5)) ∧ Aside0 (kq ≤ kj5) ∧ Aside0 (Kd.R k70 70 w' w.heap.size (fun _ => True) v9 x9_2) ∧ Aside0 (Kd.R Kd.bool 4 w' w.heap.size (fun _ => True) u267002 x267002_2) ∧ Aside0 (Kd.S (Kd.slice 3 (Kd.int .i64)) 38 w' w.heap.size (fun _ => True) u267003 x267003_2) ∧ Aside0 (w'.heap[gb257]? = some (.cells #[.int .i64 a0_0, .int .i64 a0_1, (.slice A0_2 l0_2.length c0_2), (.slice A0_3 l0_3.length c0_3)] 25 (0, 0))) ∧ Aside0 (w'.heap[gb258]? = some (.cells #[.int .i64 a1_0, .int .i64 a1_1, (.slice A1_2 l1_2.length c1_2), (.slice A1_3 l1_3.length c1_3)] 25 (0, 0))) ∧ Aside0 (w'.heap[gb259]? = some (.cells #[.int .i64 x260000_2, .int .i64 x260001_2, (.slice none 0 0), (.slice none 0 0)] 25 (0, 0))) ∧ Aside0 (w'.heap[gb264]? = some (mapO ek70 (Value.int .i64) x265000_2)) ∧ Aside0 (w'.heap[gb266]? = some (.cells #[.int .i64 a0_0, .int .i64 0, u267002, u267003] 25 (0, 0))) ∧ Aside0 (Below w.heap.size w w'))
   case atStart => exact ⟨(y261), (0), (0), (0), (y265), (([] : List Bool)), (([] : List (List Int))), (.slice none 0 0), (.slice none 0 0), (by first | rfl | (simp; done) | (simp [*]; done)), H', ⟨Nat.le_refl _⟩, ⟨by (with_reducible repeat (first | apply Kd.R_alloc | apply Kd.R_drewN | apply Kd.R_drew)); exact Kd.R_mono (Kd.R_far (p := ⟨gb266, 3, none⟩) (Kd.R_far (p := ⟨gb266, 2, none⟩) (Kd.R_far (p := ⟨gb266, 1, none⟩) (Kd.R_far (p := ⟨gb266, 0, none⟩) (Kd.R_types HO263.out BK266.out (by decide)) (fun _ hk => hk.2) (.int .i64 a0_0)) (fun _ hk => hk.2) (.int .i64 0)) (fun _ hk => hk.2) (.slice none 0 0)) (fun _ hk => hk.2) (.slice none 0 0)) (fun _ hk => trivial)⟩, ⟨by first | exact Kd.R_nil _ _ _ _ _ | exact Kd.N_nil _ _ _ _ _ | exact Kd.V_nil _ _ _ _ _ | exact Kd.Q_nil _ _ _ _ _ | exact Kd.S_nil _ _ _ _ _⟩, ⟨by first | exact Kd.S_nil _ _ _ _ _ | exact Kd.N_nil _ _ _ _ _ | exact Kd.V_nil _ _ _ _ _ | exact Kd.Q_nil _ _ _ _ _ | exact Kd.R_nil _ _ _ _ _⟩, ⟨by (with_reducible repeat (first | refine kN ?_ | refine kD ?_ | refine kA ?_ | refine blk_far ?_ NB257_266.out _)); exact BK257.out⟩, ⟨by (with_reducible repeat (first | refine kN ?_ | refine kD ?_ | refine kA ?_ | refine blk_far ?_ NB258_266.out _)); exact BK258.out⟩, ⟨by (with_reducible repeat (first | refine kN ?_ | refine kD ?_ | refine kA ?_ | refine blk_far ?_ NB259_266.out _)); exact BK259.out⟩, ⟨by (with_reducible repeat (first | refine kN ?_ | refine kD ?_ | refine kA ?_)); refine blkF ?_ NB264_266.out _; (with_reducible repeat (first | refine kN ?_ | refine kD ?_ | refine kA ?_)); refine blkF ?_ NB264_266.out _; (with_reducible repeat (first | refine kN ?_ | refine kD ?_ | refine kA ?_)); refine blkF ?_ NB264_266.out _; (with_reducible repeat (first | refine kN ?_ | refine kD ?_ | refine kA ?_)); refine blkF ?_ NB264_266.out _; (with_reducible repeat (first | refine kN ?_ | refine kD ?_ | refine kA ?_)); exact BK264.out⟩, ⟨by (with_reducible repeat (first | refine kN ?_ | refine kD ?_ | refine kA ?_)); refine blk_put (cs := #[.int .i64 a0_0, .int .i64 0, .slice none 0 0, .slice none 0 0]) ?_ 3 _ rfl; (with_reducible repeat (first | refine kN ?_ | refine kD ?_ | refine kA ?_)); refine blk_put (cs := #[.int .i64 a0_0, .int .i64 0, .slice none 0 0, .slice none 0 0]) ?_ 2 _ rfl; (with_reducible repeat (first | refine kN ?_ | refine kD ?_ | refine kA ?_)); refine blk_put (cs := #[.int .i64 a0_0, .int .i64 0, .slice none 0 0, .slice none 0 0]) ?_ 1 _ rfl; (with_reducible repeat (first | refine kN ?_ | refine kD ?_ | refine kA ?_)); refine blk_put (cs := #[.int .i64 0, .int .i64 0, .slice none 0 0, .slice none 0 0]) ?_ 0 _ rfl; (with_reducible repeat (first | refine kN ?_ | refine kD ?_ | refine kA ?_)); exact BK266.out⟩, ⟨by repeat (first | (with_reducible first | exact HB.out | apply bA | apply bN | apply bD | refine bS ?_ ‹_›) | exact HB.out)⟩⟩
   case round =>
    clear H'
    try clear c1
    try clear c2
    try clear p2
    try clear c3
    try clear c5
    try clear c5b0
    try clear c5b1
    try clear c10
    try clear c11
    try clear c13
    try clear c16
    try clear c16b0
    try clear c17
    try clear c18
    try clear c19
    try clear c21
    try clear c22
    try clear c24
    try clear c29
    try clear c31
    try clear c32
    try clear c36
    try clear c37
    try clear c38
    try clear c39
    try clear hcz12_0
    try clear hcz12_1
    try clear hcz12_2
    try clear hcz12_3
    try clear hcz14_0
    try clear hcz14_1
    try clear hcz14_2
    try clear hcz14_3
    try clear hcz20_0
    try clear hcz20_1
    try clear hcz20_2
    try clear hcz20_3
    try clear hcz23_0
    try clear hcz23_1
    try clear hcz23_2
    try clear hcz23_3
    try clear hcz25_0
    try clear hcz25_1
    try clear hcz25_2
    try clear hcz25_3
    try clear hcz30_0
    try clear hcz30_1
    try clear hcz30_2
    try clear hcz30_3
    try clear hcz32_0
    try clear hcz32_1
    try clear hcz32_2
    try clear hcz32_3
    try clear hcz34_0
    try clear hcz34_1
    try clear hcz34_2
    try clear hcz34_3
    try clear hcz40_0
    try clear hcz40_1
    try clear hcz40_2
    try clear hcz40_3
    try clear hfz12_0
    try clear hfz12_1
    try clear hfz12_2
    try clear hfz12_3
    try clear hfz14_0
    try clear hfz14_1
    try clear hfz14_2
    try clear hfz14_3
    try clear hfz20_0
    try clear hfz20_1
    try clear hfz20_2
    try clear hfz20_3
    try clear hfz23_0
    try clear hfz23_1
    try clear hfz23_2
    try clear hfz23_3
    try clear hfz25_0
    try clear hfz25_1
    try clear hfz25_2
    try clear hfz25_3
    try clear hfz30_0
    try clear hfz30_1
    try clear hfz30_2
    try clear hfz30_3
    try clear hfz32_0
    try clear hfz32_1
    try clear hfz32_2
    try clear hfz32_3
    try clear hfz34_0
    try clear hfz34_1
    try clear hfz34_2
    try clear hfz34_3
    try clear hfz40_0
    try clear hfz40_1
    try clear hfz40_2
    try clear hfz40_3
    try clear p2
    obtain ⟨x9_2, x12_2, x260000_2, x260001_2, x265000_2, x267002_2, x267003_2, u267002, u267003, rfl, HA, HK2, HO_9, HO_267002, HO_267003, BK257, BK258, BK259, BK264, BK266, HB⟩ := hrel
    cases gk with
    | zero => exact absurd HA.out (by simp [semigroupref07_Product.l0])
    | succ k2 =>
     have H := HA.out
     clear HA
     simp only [semigroupref07_Product.l0] at H
     by_cases c41 : x12_2 < (x9_2.length : Int)
     (focus
     rw [if_pos c41] at H
     have c41b0 : decide (x12_2 < (x9_2.length : Int)) = true := decide_eq_true c41
     clear c41
     by_cases c42 : 0 ≤ x12_2
     (focus
     rw [if_pos c42] at H
     have c42b0 : decide (0 ≤ x12_2) = true := decide_eq_true c42
     clear c42
     have H' := Aside0.mk H
     clear H
     obtain ⟨Ao43, co43, eo43⟩ := Kd.R_slice HO_9.out
     subst eo43
     have p267 : 0 ≤ (x12_2 : Int) := of_decide_eq_true (by assumption)
     have q267 : x12_2 < (x9_2.length : Int) := of_decide_eq_true (by assumption)
     obtain ⟨ad267, e267, hx267_0, hx267_1⟩ := at_T70 (Kd.R_reads' HO_9.out).2.2 x12_2 p267 q267
     cases e267
     replace p267 := eq_true p267
     replace q267 := eq_true q267
     go_wp2_with (first | ((with_reducible refine gate_dst (N := 13) rfl ?_); refine box_event ?hg (N := 13) ?hd (cs := #[.int .i64 0, .int .i64 0]) (t := 70) ?hr ?_; (case hd => rfl); (case hg => rfl); (case hr => first | (go_simp; done) | (go_simp; rfl)); intro gb268 hg w44 hbox hb; have n0_ := aM (Kd.R_below (Kd.R_elderB (uR HO_9.out) gb268 (Nat.le_of_eq hg.symm)) hb); have n1_ := aM (Kd.R_below (uR HO_267002.out) hb); have n2_ := aM (Kd.S_below (by (with_reducible repeat (first | apply Kd.S_alloc | apply Kd.S_drewN | apply Kd.S_drew)); exact HO_267003.out) hb); have n3_ := aM (blk_below (uB BK257.out) hb); have n4_ := aM (blk_below (uB BK258.out) hb); have n5_ := aM (blk_below (uB BK259.out) hb); have n6_ := aM (blk_below (g := gb264) (o := mapO ek70 (Value.int .i64) x265000_2) (uB BK264.out) hb); have n7_ := aM (blk_below (uB BK266.out) hb); have n8_ := aM (below_step (by repeat (first | (with_reducible first | exact HB.out | apply bA | apply bN | apply bD | refine bS ?_ ‹_›) | exact HB.out)) hb); have n9_ := aM (hbox); have n10_ := aM ((by rw [hg]; exact (below_size (by repeat (first | (with_reducible first | exact HB.out | apply bA | apply bN | apply bD | refine bS ?_ ‹_›) | exact HB.out))) : w.heap.size ≤ gb268)); have n11_ := aM ((by rw [hg]; exact (below_size (by repeat (first | (with_reducible first | exact HB.out | apply bA | apply bN | apply bD | refine bS ?_ ‹_›) | exact HB.out))) : w.heap.size ≤ gb268)); have n12_ := aM ((by rw [hg]; exact Nat.ne_of_lt (blk_lt (uB BK257.out)) : gb257 ≠ gb268)); have n13_ := aM ((by rw [hg]; exact Nat.ne_of_gt (blk_lt (uB BK257.out)) : gb268 ≠ gb257)); have n14_ := aM ((by rw [hg]; exact Nat.ne_of_lt (blk_lt (uB BK258.out)) : gb258 ≠ gb268)); have n15_ := aM ((by rw [hg]; exact Nat.ne_of_gt (blk_lt (uB BK258.out)) : gb268 ≠ gb258)); have n16_ := aM ((by rw [hg]; exact Nat.ne_of_lt (blk_lt (uB BK259.out)) : gb259 ≠ gb268)); have n17_ := aM ((by rw [hg]; exact Nat.ne_of_gt (blk_lt (uB BK259.out)) : gb268 ≠ gb259)); have n18_ := aM ((by rw [hg]; exact Nat.ne_of_lt (blk_lt (g := gb264) (o := mapO ek70 (Value.int .i64) x265000_2) (uB BK264.out)) : gb264 ≠ gb268)); have n19_ := aM ((by rw [hg]; exact Nat.ne_of_gt (blk_lt (g := gb264) (o := mapO ek70 (Value.int .i64) x265000_2) (uB BK264.out)) : gb268 ≠ gb264)); have n20_ := aM ((by rw [hg]; exact Nat.ne_of_lt (blk_lt (uB BK266.out)) : gb266 ≠ gb268)); have n21_ := aM ((by rw [hg]; exact Nat.ne_of_gt (blk_lt (uB BK266.out)) : gb268 ≠ gb266)); clear HO_9; clear HO_267002; clear HO_267003; clear BK257; clear BK258; clear BK259; clear BK264; clear BK266; clear HB; have HO_9 := n0_; have HO_267002 := n1_; have HO_267003 := n2_; have BK257 := n3_; have BK258 := n4_; have BK259 := n5_; have BK264 := n6_; have BK266 := n7_; have HB := n8_; have BK268 := n9_; have GW268 := n10_; have GE268 := n11_; have NB257_268 := n12_; have NB268_257 := n13_; have NB258_268 := n14_; have NB268_258 := n15_; have NB259_268 := n16_; have NB268_259 := n17_; have NB264_268 := n18_; have NB268_264 := n19_; have NB266_268 := n20_; have NB268_266 := n21_; clear n0_ n1_ n2_ n3_ n4_ n5_ n6_ n7_ n8_ n9_ n10_ n11_ n12_ n13_ n14_ n15_ n16_ n17_ n18_ n19_ n20_ n21_; clear hb hbox hg; have hnb45 := NB268_257.out; have hnc45 := NB257_268.out; have hnb46 := NB268_258.out; have hnc46 := NB258_268.out; have hnb47 := NB268_259.out; have hnc47 := NB259_268.out; have hnb48 := NB268_264.out; have hnc48 := NB264_268.out; have hnb49 := NB268_266.out; have hnc49 := NB266_268.out; have hcz50_0 : w44.cell? ⟨gb268, 0, none⟩ = some (.int .i64 0) := (blk_cell BK268.out 0).trans rfl; have hcz50_1 : w44.cell? ⟨gb268, 1, none⟩ = some (.int .i64 0) := (blk_cell BK268.out 1).trans rfl; have hfz50_0 := blk_frozen BK268.out 0; have hfz50_1 := blk_frozen BK268.out 1))
     go_loopg [9, 14, 15] k2 (fun kq v9 v14 v15 w' => ∃ (x9_3 : List (S70)) (x14_3 : List Int) (x15_3 : Int) (x260000_3 : Int) (x260001_3 : Int) (x265000_3 : AM S70 Int), v15 = .int .i64 x15_3 ∧ Aside0 (semigroupref07_Product.l1 kq a2 x9_3 x12_2 x14_3 x15_3 a0_0 a0_1 l0_2 l0_3 a1_0 a1_1 l1_2 l1_3 x265000_3 a0_0 0 x267002_2 x267003_2 ((rd_T70 x9_2 x12_2).f0) ((rd_T70 x9_2 x12_2).f1) = some (r1, r2, r3, r4, r5)) ∧ Aside0 (kq ≤ k2) ∧ Aside0 (Kd.R k70 70 w' w.heap.size (fun k_ => k_ ≠ gb268) v9 x9_3) ∧ Aside0 (Kd.R (Kd.int .i64) 3 w' w.heap.size (fun _ => True) v14 x14_3) ∧ Aside0 (Kd.R Kd.bool 4 w' w.heap.size (fun _ => True) u267002 x267002_2) ∧ Aside0 (Kd.S (Kd.slice 3 (Kd.int .i64)) 38 w' w.heap.size (fun k_ => some k_ ≠ (v14 : Value).ownBlock) u267003 x267003_2) ∧ Aside0 (w'.heap[gb257]? = some (.cells #[.int .i64 a0_0, .int .i64 a0_1, (.slice A0_2 l0_2.length c0_2), (.slice A0_3 l0_3.length c0_3)] 25 (0, 0))) ∧ Aside0 (w'.heap[gb258]? = some (.cells #[.int .i64 a1_0, .int .i64 a1_1, (.slice A1_2 l1_2.length c1_2), (.slice A1_3 l1_3.length c1_3)] 25 (0, 0))) ∧ Aside0 (w'.heap[gb259]? = some (.cells #[.int .i64 x260000_3, .int .i64 x260001_3, (.slice none 0 0), (.slice none 0 0)] 25 (0, 0))) ∧ Aside0 (w'.heap[gb264]? = some (mapO ek70 (Value.int .i64) x265000_3)) ∧ Aside0 (w'.heap[gb266]? = some (.cells #[.int .i64 a0_0, .int .i64 0, u267002, u267003] 25 (0, 0))) ∧ Aside0 (w'.heap[gb268]? = some (.cells #[.int .i64 ((rd_T70 x9_2 x12_2).f0), .int .i64 ((rd_T70 x9_2 x12_2).f1)] 70 (0, 0))) ∧ Aside0 (Below w.heap.size w w'))
     case atStart => exact ⟨(x9_2), (([] : List Int)), (0), (x260000_2), (x260001_2), (x265000_2), (by first | rfl | (simp; done) | (simp [*]; done)), H', ⟨Nat.le_refl _⟩, ⟨by (with_reducible repeat (first | apply Kd.R_alloc | apply Kd.R_drewN | apply Kd.R_drew)); exact Kd.R_mono (Kd.R_far (p := ⟨gb268, 1, none⟩) (Kd.R_far (p := ⟨gb268, 0, none⟩) (Kd.R_mono HO_9.out (fun k_ hk => (⟨hk, hk.2⟩ : _ ∧ k_ ≠ gb268))) (fun _ hk => hk.2) (.int .i64 ((rd_T70 x9_2 x12_2).f0))) (fun _ hk => hk.2) (.int .i64 ((rd_T70 x9_2 x12_2).f1))) (fun _ hk => hk.1.2)⟩, ⟨by first | exact Kd.R_nil _ _ _ _ _ | exact Kd.N_nil _ _ _ _ _ | exact Kd.V_nil _ _ _ _ _ | exact Kd.Q_nil _ _ _ _ _ | exact Kd.S_nil _ _ _ _ _⟩, ⟨by (with_reducible repeat (first | apply Kd.R_alloc | apply Kd.R_drewN | apply Kd.R_drew)); exact Kd.R_mono (Kd.R_far (p := ⟨gb268, 1, none⟩) (Kd.R_far (p := ⟨gb268, 0, none⟩) (Kd.R_types HO_267002.out BK268.out (by decide)) (fun _ hk => hk.2) (.int .i64 ((rd_T70 x9_2 x12_2).f0))) (fun _ hk => hk.2) (.int .i64 ((rd_T70 x9_2 x12_2).f1))) (fun _ hk => trivial)⟩, ⟨by (with_reducible repeat (first | apply Kd.S_alloc | apply Kd.S_drewN | apply Kd.S_drew)); exact Kd.S_mono (Kd.S_far (p := ⟨gb268, 1, none⟩) (Kd.S_far (p := ⟨gb268, 0, none⟩) (Kd.S_types HO_267003.out BK268.out (by decide)) (fun _ hk => hk.2) (.int .i64 ((rd_T70 x9_2 x12_2).f0))) (fun _ hk => hk.2) (.int .i64 ((rd_T70 x9_2 x12_2).f1))) (fun _ hk => (by simp [Value.ownBlock]))⟩, ⟨by (with_reducible repeat (first | refine kN ?_ | refine kD ?_ | refine kA ?_ | refine blk_far ?_ NB257_268.out _)); exact BK257.out⟩, ⟨by (with_reducible repeat (first | refine kN ?_ | refine kD ?_ | refine kA ?_ | refine blk_far ?_ NB258_268.out _)); exact BK258.out⟩, ⟨by (with_reducible repeat (first | refine kN ?_ | refine kD ?_ | refine kA ?_ | refine blk_far ?_ NB259_268.out _)); exact BK259.out⟩, ⟨by (with_reducible repeat (first | refine kN ?_ | refine kD ?_ | refine kA ?_)); refine blkF ?_ NB264_268.out _; (with_reducible repeat (first | refine kN ?_ | refine kD ?_ | refine kA ?_)); refine blkF ?_ NB264_268.out _; (with_reducible repeat (first | refine kN ?_ | refine kD ?_ | refine kA ?_)); exact BK264.out⟩, ⟨by (with_reducible repeat (first | refine kN ?_ | refine kD ?_ | refine kA ?_ | refine blk_far ?_ NB266_268.out _)); exact BK266.out⟩, ⟨by (with_reducible repeat (first | refine kN ?_ | refine kD ?_ | refine kA ?_)); refine blk_put (cs := #[.int .i64 ((rd_T70 x9_2 x12_2).f0), .int .i64 0]) ?_ 1 _ rfl; (with_reducible repeat (first | refine kN ?_ | refine kD ?_ | refine kA ?_)); refine blk_put (cs := #[.int .i64 0, .int .i64 0]) ?_ 0 _ rfl; (with_reducible repeat (first | refine kN ?_ | refine kD ?_ | refine kA ?_)); exact BK268.out⟩, ⟨by repeat (first | (with_reducible first | exact HB.out | apply bA | apply bN | apply bD | refine bS ?_ ‹_›) | exact HB.out)⟩⟩
     case round =>
      clear H'
      try clear c1
      try clear c2
      try clear p2
      try clear q2
      try clear hx2
      try clear c3
      try clear c4
      try clear c5
      try clear c5b0
      try clear c5b1
      try clear c10
      try clear c11
      try clear c13
      try clear c16
      try clear c16b0
      try clear c17
      try clear c18
      try clear c19
      try clear c21
      try clear c22
      try clear c24
      try clear p26
      try clear q26
      try clear hx26
      try clear c29
      try clear c31
      try clear c32
      try clear c36
      try clear c37
      try clear c38
      try clear c39
      try clear c41
      try clear c41b0
      try clear c42
      try clear c42b0
      try clear c45
      try clear c46
      try clear c47
      try clear c48
      try clear c49
      try clear c50
      try clear hcz12_0
      try clear hcz12_1
      try clear hcz12_2
      try clear hcz12_3
      try clear hcz14_0
      try clear hcz14_1
      try clear hcz14_2
      try clear hcz14_3
      try clear hcz20_0
      try clear hcz20_1
      try clear hcz20_2
      try clear hcz20_3
      try clear hcz23_0
      try clear hcz23_1
      try clear hcz23_2
      try clear hcz23_3
      try clear hcz25_0
      try clear hcz25_1
      try clear hcz25_2
      try clear hcz25_3
      try clear hcz30_0
      try clear hcz30_1
      try clear hcz30_2
      try clear hcz30_3
      try clear hcz32_0
      try clear hcz32_1
      try clear hcz32_2
      try clear hcz32_3
      try clear hcz34_0
      try clear hcz34_1
      try clear hcz34_2
      try clear hcz34_3
      try clear hcz40_0
      try clear hcz40_1
      try clear hcz40_2
      try clear hcz40_3
      try clear hcz50_0
      try clear hcz50_1
      try clear hfz12_0
      try clear hfz12_1
      try clear hfz12_2
      try clear hfz12_3
      try clear hfz14_0
      try clear hfz14_1
      try clear hfz14_2
      try clear hfz14_3
      try clear hfz20_0
      try clear hfz20_1
      try clear hfz20_2
      try clear hfz20_3
      try clear hfz23_0
      try clear hfz23_1
      try clear hfz23_2
      try clear hfz23_3
      try clear hfz25_0
      try clear hfz25_1
      try clear hfz25_2
      try clear hfz25_3
      try clear hfz30_0
      try clear hfz30_1
      try clear hfz30_2
      try clear hfz30_3
      try clear hfz32_0
      try clear hfz32_1
      try clear hfz32_2
      try clear hfz32_3
      try clear hfz34_0
      try clear hfz34_1
      try clear hfz34_2
      try clear hfz34_3
      try clear hfz40_0
      try clear hfz40_1
      try clear hfz40_2
      try clear hfz40_3
      try clear hfz50_0
      try clear hfz50_1
      try clear hx267_0
      try clear hx267_1
      try clear p2
      try clear p267
      try clear q267
      obtain ⟨x9_3, x14_3, x15_3, x260000_3, x260001_3, x265000_3, rfl, HA, HK3, HO_9, HO_14, HO_267002, HO_267003, BK257, BK258, BK259, BK264, BK266, BK268, HB⟩ := hrel
      cases gk with
      | zero => exact absurd HA.out (by simp [semigroupref07_Product.l1])
      | succ k3 =>
       have H := HA.out
       clear HA
       simp only [semigroupref07_Product.l1] at H
       by_cases c51 : x15_3 < a0_0
       (focus
       rw [if_pos c51] at H
       have c51b0 : decide (x15_3 < a0_0) = true := decide_eq_true c51
       clear c51
       by_cases c52 : 0 ≤ ((rd_T70 x9_2 x12_2).f0)
       (focus
       rw [if_pos c52] at H
       have c52b0 : decide (0 ≤ ((rd_T70 x9_2 x12_2).f0)) = true := decide_eq_true c52
       clear c52
       by_cases c53 : ((rd_T70 x9_2 x12_2).f0) < (l0_3.length : Int)
       (focus
       rw [if_pos c53] at H
       have c53b0 : decide (((rd_T70 x9_2 x12_2).f0) < (l0_3.length : Int)) = true := decide_eq_true c53
       clear c53
       by_cases c54 : 0 ≤ x15_3
       (focus
       rw [if_pos c54] at H
       have c54b0 : decide (0 ≤ x15_3) = true := decide_eq_true c54
       clear c54
       by_cases c55 : x15_3 < ((rd_L1 l0_3 ((rd_T70 x9_2 x12_2).f0)).length : Int)
       (focus
       rw [if_pos c55] at H
       have c55b0 : decide (x15_3 < ((rd_L1 l0_3 ((rd_T70 x9_2 x12_2).f0)).length : Int)) = true := decide_eq_true c55
       clear c55
       by_cases c56 : 0 ≤ ((rd_T70 x9_2 x12_2).f1)
       (focus
       rw [if_pos c56] at H
       have c56b0 : decide (0 ≤ ((rd_T70 x9_2 x12_2).f1)) = true := decide_eq_true c56
       clear c56
       by_cases c57 : ((rd_T70 x9_2 x12_2).f1) < (l1_3.length : Int)
       (focus
       rw [if_pos c57] at H
       have c57b0 : decide (((rd_T70 x9_2 x12_2).f1) < (l1_3.length : Int)) = true := decide_eq_true c57
       clear c57
       by_cases c58 : x15_3 < ((rd_L1 l1_3 ((rd_T70 x9_2 x12_2).f1)).length : Int)
       (focus
       rw [if_pos c58] at H
       have c58b0 : decide (x15_3 < ((rd_L1 l1_3 ((rd_T70 x9_2 x12_2).f1)).length : Int)) = true := decide_eq_true c58
       clear c58
       by_cases c59 : ((AM.has x265000_3 (⟨rd (rd_L1 l0_3 ((rd_T70 x9_2 x12_2).f0)) x15_3, rd (rd_L1 l1_3 ((rd_T70 x9_2 x12_2).f1)) x15_3⟩ : S70)) = true)
       (focus
       rw [if_pos c59] at H
       have c59b0 : (AM.has x265000_3 (⟨rd (rd_L1 l0_3 ((rd_T70 x9_2 x12_2).f0)) x15_3, rd (rd_L1 l1_3 ((rd_T70 x9_2 x12_2).f1)) x15_3⟩ : S70)) = true := c59
       clear c59
       by_cases c60 : x14_3.length < 17592186044416
       (focus
       rw [if_pos c60] at H
       have LMc60 := Aside0.mk c60
       clear c60
       obtain ⟨y283, hy283⟩ : ∃ y_ : List Int, y_ = (x14_3 ++ [AM.get x265000_3 (⟨rd (rd_L1 l0_3 ((rd_T70 x9_2 x12_2).f0)) x15_3, rd (rd_L1 l1_3 ((rd_T70 x9_2 x12_2).f1)) x15_3⟩ : S70) 0]) := ⟨_, rfl⟩
       replace H : (semigroupref07_Product.l1 k3 a2 x9_3 x12_2 y283 (wrap64 (x15_3 + 1)) a0_0 a0_1 l0_2 l0_3 a1_0 a1_1 l1_2 l1_3 x265000_3 a0_0 0 x267002_2 x267003_2 ((rd_T70 x9_2 x12_2).f0) ((rd_T70 x9_2 x12_2).f1)) = some (r1, r2, r3, r4, r5) := by first | (rw [hy283]; with_reducible exact H) | (have H2_ := (Option.bind_some _ _).symm.trans H; rw [hy283]; with_reducible exact H2_) | (have H2_ := (Option.bind_some _ _).symm.trans H; with_reducible exact H2_) | with_reducible exact H | (rw [hy283]; exact H) | exact H
       have Ny283 := Aside0.mk hy283
       clear hy283
       have H' := Aside0.mk H
       clear H
       have hnb61 := NB257_258.out
       have hnc61 := NB258_257.out
       have hnb62 := NB257_259.out
       have hnc62 := NB259_257.out
       have hnb63 := NB257_264.out
       have hnc63 := NB264_257.out
       have hnb64 := NB257_266.out
       have hnc64 := NB266_257.out
       have hnb65 := NB257_268.out
       have hnc65 := NB268_257.out
       have hcz66_0 : wr.cell? ⟨gb257, 0, none⟩ = some (.int .i64 a0_0) := (blk_cell BK257.out 0).trans rfl
       have hcz66_1 : wr.cell? ⟨gb257, 1, none⟩ = some (.int .i64 a0_1) := (blk_cell BK257.out 1).trans rfl
       have hcz66_2 : wr.cell? ⟨gb257, 2, none⟩ = some (.slice A0_2 l0_2.length c0_2) := (blk_cell BK257.out 2).trans rfl
       have hcz66_3 : wr.cell? ⟨gb257, 3, none⟩ = some (.slice A0_3 l0_3.length c0_3) := (blk_cell BK257.out 3).trans rfl
       have hfz66_0 := blk_frozen BK257.out 0
       have hfz66_1 := blk_frozen BK257.out 1
       have hfz66_2 := blk_frozen BK257.out 2
       have hfz66_3 := blk_frozen BK257.out 3
       try go_wp2
       have n0_ := aM (Kd.R_drew HO_9.out)
       have n1_ := aM (Kd.R_drew HO_14.out)
       have n2_ := aM (Kd.R_drew HO_267002.out)
       have n3_ := aM (Kd.S_drew HO_267003.out)
       have n4_ := aM (blk_drew BK257.out)
       have n5_ := aM (blk_drew BK258.out)
       have n6_ := aM (blk_drew BK259.out)
       have n7_ := aM (blk_drew BK264.out)
       have n8_ := aM (blk_drew BK266.out)
       have n9_ := aM (blk_drew BK268.out)
       have n10_ := aM (below_drew1 HB.out)
       clear HO_9
       clear HO_14
       clear HO_267002
       clear HO_267003
       clear BK257
       clear BK258
       clear BK259
       clear BK264
       clear BK266
       clear BK268
       clear HB
       have HO_9 := n0_
       have HO_14 := n1_
       have HO_267002 := n2_
       have HO_267003 := n3_
       have BK257 := n4_
       have BK258 := n5_
       have BK259 := n6_
       have BK264 := n7_
       have BK266 := n8_
       have BK268 := n9_
       have HB := n10_
       clear n0_ n1_ n2_ n3_ n4_ n5_ n6_ n7_ n8_ n9_ n10_
       have p278 : 0 ≤ (((rd_T70 x9_2 x12_2).f0) : Int) := of_decide_eq_true (by assumption)
       have q278 : ((rd_T70 x9_2 x12_2).f0) < (l0_3.length : Int) := of_decide_eq_true (by assumption)
       obtain ⟨ad278, A278_0, c278_0, e278, hx278_0, hl278_0, hi278_0⟩ := at_L1 HR0_3.out ((rd_T70 x9_2 x12_2).f0) p278 q278
       have hw278_0 := hx278_0
       cases e278
       (try replace hx278_0 := (HB.out.cell (World.block_lt_of_cell? w _ hx278_0)).trans hx278_0)
       have HR278_0 := Aside0.mk hi278_0
       have HC278_0 := Aside0.mk hl278_0
       clear hi278_0 hl278_0
       replace p278 := eq_true p278
       replace q278 := eq_true q278
       have p279 : 0 ≤ (x15_3 : Int) := of_decide_eq_true (by assumption)
       have q279 : x15_3 < ((rd_L1 l0_3 ((rd_T70 x9_2 x12_2).f0)).length : Int) := of_decide_eq_true (by assumption)
       obtain ⟨ad279, e279, hx279_0⟩ := Kd.at_int HR278_0.out x15_3 p279 q279
       have hw279_0 := hx279_0
       cases e279
       (try replace hx279_0 := (HB.out.cell (World.block_lt_of_cell? w _ hx279_0)).trans hx279_0)
       replace p279 := eq_true p279
       replace q279 := eq_true q279
       have p280 : 0 ≤ (((rd_T70 x9_2 x12_2).f1) : Int) := of_decide_eq_true (by assumption)
       have q280 : ((rd_T70 x9_2 x12_2).f1) < (l1_3.length : Int) := of_decide_eq_true (by assumption)
       obtain ⟨ad280, A280_0, c280_0, e280, hx280_0, hl280_0, hi280_0⟩ := at_L1 HR1_3.out ((rd_T70 x9_2 x12_2).f1) p280 q280
       have hw280_0 := hx280_0
       cases e280
       (try replace hx280_0 := (HB.out.cell (World.block_lt_of_cell? w _ hx280_0)).trans hx280_0)
       have HR280_0 := Aside0.mk hi280_0
       have HC280_0 := Aside0.mk hl280_0
       clear hi280_0 hl280_0
       replace p280 := eq_true p280
       replace q280 := eq_true q280
       have p281 : 0 ≤ (x15_3 : Int) := of_decide_eq_true (by assumption)
       have q281 : x15_3 < ((rd_L1 l1_3 ((rd_T70 x9_2 x12_2).f1)).length : Int) := of_decide_eq_true (by assumption)
       obtain ⟨ad281, e281, hx281_0⟩ := Kd.at_int HR280_0.out x15_3 p281 q281
       have hw281_0 := hx281_0
       cases e281
       (try replace hx281_0 := (HB.out.cell (World.block_lt_of_cell? w _ hx281_0)).trans hx281_0)
       replace p281 := eq_true p281
       replace q281 := eq_true q281
       refine start_ (n := 21) (S := fun w' => w'.cell? ⟨gb257, 0, none⟩ = some (.int .i64 a0_0) ∧ w'.cell? ⟨gb257, 1, none⟩ = some (.int .i64 a0_1) ∧ w'.cell? ⟨gb257, 2, none⟩ = some (.slice A0_2 l0_2.length c0_2) ∧ w'.cell? ⟨gb257, 3, none⟩ = some (.slice (some ad278) l0_3.length c0_3) ∧ w'.cell? ⟨gb268, 0, none⟩ = some (.int .i64 ((rd_T70 x9_2 x12_2).f0)) ∧ w'.cell? ⟨gb268, 1, none⟩ = some (.int .i64 ((rd_T70 x9_2 x12_2).f1)) ∧ w'.cell? ⟨gb258, 0, none⟩ = some (.int .i64 a1_0) ∧ w'.cell? ⟨gb258, 1, none⟩ = some (.int .i64 a1_1) ∧ w'.cell? ⟨gb258, 2, none⟩ = some (.slice A1_2 l1_2.length c1_2) ∧ w'.cell? ⟨gb258, 3, none⟩ = some (.slice (some ad280) l1_3.length c1_3) ∧ w'.cell? (ad278.add (((rd_T70 x9_2 x12_2).f0)).toNat) = some (.slice (some ad279) (rd_L1 l0_3 ((rd_T70 x9_2 x12_2).f0)).length c278_0) ∧ w'.cell? (ad279.add (x15_3).toNat) = some (.int .i64 (rd (rd_L1 l0_3 ((rd_T70 x9_2 x12_2).f0)) x15_3)) ∧ w'.cell? (ad280.add (((rd_T70 x9_2 x12_2).f1)).toNat) = some (.slice (some ad281) (rd_L1 l1_3 ((rd_T70 x9_2 x12_2).f1)).length c280_0) ∧ w'.cell? (ad281.add (x15_3).toNat) = some (.int .i64 (rd (rd_L1 l1_3 ((rd_T70 x9_2 x12_2).f1)) x15_3))) (ds := []) #[false, false, false, false, false, false, false, false, false, false, false, false, false, false, false, false, false, false, false, false, false] (by kernel_rfl) rfl rfl ⟨(blk_cell BK257.out 0).trans rfl, (blk_cell BK257.out 1).trans rfl, (blk_cell BK257.out 2).trans rfl, (blk_cell BK257.out 3).trans rfl, (blk_cell BK268.out 0).trans rfl, (blk_cell BK268.out 1).trans rfl, (blk_cell BK258.out 0).trans rfl, (blk_cell BK258.out 1).trans rfl, (blk_cell BK258.out 2).trans rfl, (blk_cell BK258.out 3).trans rfl, ((HB.out.cell (World.block_lt_of_cell? w _ hw278_0)).trans hw278_0), ((HB.out.cell (World.block_lt_of_cell? w _ hw279_0)).trans hw279_0), ((HB.out.cell (World.block_lt_of_cell? w _ hw280_0)).trans hw280_0), ((HB.out.cell (World.block_lt_of_cell? w _ hw281_0)).trans hw281_0)⟩ (fun hHeld => ?_); refine with_tabW semigroupref07_Product.tab17 semigroupref07_Product.bits17 (fun HT_ HW_ => ?_)
       generalize wr.drew = w67 at HO_9 HO_14 HO_267002 HO_267003 BK257 BK258 BK259 BK264 BK266 BK268 HB HR278_0 HR280_0 hx278_0 hx279_0 hx280_0 hx281_0 hHeld ⊢
       refine pure_ (i := 0) (N := some 65) (v := ?_) (a' := ?_) #[true, false, false, false, false, false, false, false, false, false, false, false, false, false, false, false, false, false, false, false, false] rfl rfl (any_of HT_.out (by kernel_rfl)) (fun _ _ _ h => h) (Or.inl ⟨by rfl, ?_⟩) ?_ ?_
       rotate_left
       (focus
       intro w'
       go_simp
       with_reducible rfl
       )
       rotate_left
       (focus
       simp only [Act.put, sA, sB, sC, i64_w, i32_w]
       rfl
       )
       refine pure_ (i := 2) (N := some 67) (v := ?_) (a' := ?_) #[true, false, true, false, false, false, false, false, false, false, false, false, false, false, false, false, false, false, false, false, false] rfl rfl (any_of HT_.out (by kernel_rfl)) (fun _ _ _ h => h) (Or.inl ⟨by rfl, ?_⟩) ?_ ?_
       rotate_left
       (focus
       intro w'
       go_simp
       with_reducible rfl
       )
       rotate_left
       (focus
       simp only [Act.put, sA, sB, sC, i64_w, i32_w]
       rfl
       )
       refine pure_ (i := 6) (N := some 71) (v := ?_) (a' := ?_) #[true, false, true, false, false, false, true, false, false, false, false, false, false, false, false, false, false, false, false, false, false] rfl rfl (any_of HT_.out (by kernel_rfl)) (fun _ _ _ h => h) (Or.inl ⟨by rfl, ?_⟩) ?_ ?_
       rotate_left
       (focus
       intro w'
       go_simp
       with_reducible rfl
       )
       rotate_left
       (focus
       simp only [Act.put, sA, sB, sC, i64_w, i32_w]
       rfl
       )
       refine pure_ (i := 9) (N := some 74) (v := ?_) (a' := ?_) #[true, false, true, false, false, false, true, false, false, true, false, false, false, false, false, false, false, false, false, false, false] rfl rfl (any_of HT_.out (by kernel_rfl)) (fun _ _ _ h => h) (Or.inl ⟨by rfl, ?_⟩) ?_ ?_
       rotate_left
       (focus
       intro w'
       go_simp
       with_reducible rfl
       )
       rotate_left
       (focus
       simp only [Act.put, sA, sB, sC, i64_w, i32_w]
       rfl
       )
       refine pure_ (i := 11) (N := some 76) (v := ?_) (a' := ?_) #[true, false, true, false, false, false, true, false, false, true, false, true, false, false, false, false, false, false, false, false, false] rfl rfl (any_of HT_.out (by kernel_rfl)) (fun _ _ _ h => h) (Or.inl ⟨by rfl, ?_⟩) ?_ ?_
       rotate_left
       (focus
       intro w'
       go_simp
       with_reducible rfl
       )
       rotate_left
       (focus
       simp only [Act.put, sA, sB, sC, i64_w, i32_w]
       rfl
       )
       refine pure_ (i := 15) (N := some 80) (v := ?_) (a' := ?_) #[true, false, true, false, false, false, true, false, false, true, false, true, false, false, false, true, false, false, false, false, false] rfl rfl (any_of HT_.out (by kernel_rfl)) (fun _ _ _ h => h) (Or.inl ⟨by rfl, ?_⟩) ?_ ?_
       rotate_left
       (focus
       intro w'
       go_simp
       with_reducible rfl
       )
       rotate_left
       (focus
       simp only [Act.put, sA, sB, sC, i64_w, i32_w]
       rfl
       )
       refine take_ (i := 1) (N := some 66) (v := ?_) (a' := ?_) #[true, true, true, false, false, false, true, false, false, true, false, true, false, false, false, true, false, false, false, false, false] rfl rfl (take_ofW HT_.out HW_.out (by kernel_rfl)) (fun _ _ _ h => h) (Or.inl ⟨by rfl, ?_⟩) hHeld ?_ ?_
       rotate_left
       (focus
       rintro w' ⟨s0, s1, s2, s3, s4, s5, s6, s7, s8, s9, s10, s11, s12, s13⟩
       go_simp
       with_reducible rfl
       )
       rotate_left
       (focus
       simp only [Act.put, sA, sB, sC, i64_w, i32_w]
       rfl
       )
       refine take_ (i := 3) (N := some 68) (v := ?_) (a' := ?_) #[true, true, true, true, false, false, true, false, false, true, false, true, false, false, false, true, false, false, false, false, false] rfl rfl (take_ofW HT_.out HW_.out (by kernel_rfl)) (fun _ _ _ h => h) (Or.inl ⟨by rfl, ?_⟩) hHeld ?_ ?_
       rotate_left
       (focus
       rintro w' ⟨s0, s1, s2, s3, s4, s5, s6, s7, s8, s9, s10, s11, s12, s13⟩
       go_simp
       with_reducible rfl
       )
       rotate_left
       (focus
       simp only [Act.put, sA, sB, sC, i64_w, i32_w]
       rfl
       )
       refine pure_ (i := 4) (N := some 69) (v := ?_) (a' := ?_) #[true, true, true, true, true, false, true, false, false, true, false, true, false, false, false, true, false, false, false, false, false] rfl rfl (any_of HT_.out (by kernel_rfl)) (fun _ _ _ h => h) (Or.inl ⟨by rfl, ?_⟩) ?_ ?_
       rotate_left
       (focus
       intro w'
       go_simp
       with_reducible rfl
       )
       rotate_left
       (focus
       simp only [Act.put, sA, sB, sC, i64_w, i32_w]
       rfl
       )
       refine take_ (i := 5) (N := some 70) (v := ?_) (a' := ?_) #[true, true, true, true, true, true, true, false, false, true, false, true, false, false, false, true, false, false, false, false, false] rfl rfl (take_ofW HT_.out HW_.out (by kernel_rfl)) (fun _ _ _ h => h) (Or.inl ⟨by rfl, ?_⟩) hHeld ?_ ?_
       rotate_left
       (focus
       rintro w' ⟨s0, s1, s2, s3, s4, s5, s6, s7, s8, s9, s10, s11, s12, s13⟩
       go_simp
       with_reducible rfl
       )
       rotate_left
       (focus
       simp only [Act.put, sA, sB, sC, i64_w, i32_w]
       rfl
       )
       refine pure_ (i := 7) (N := some 72) (v := ?_) (a' := ?_) #[true, true, true, true, true, true, true, true, false, true, false, true, false, false, false, true, false, false, false, false, false] rfl rfl (any_of HT_.out (by kernel_rfl)) (fun _ _ _ h => h) (Or.inl ⟨by rfl, ?_⟩) ?_ ?_
       rotate_left
       (focus
       intro w'
       go_simp
       with_reducible rfl
       )
       rotate_left
       (focus
       simp only [Act.put, sA, sB, sC, i64_w, i32_w]
       rfl
       )
       refine take_ (i := 8) (N := some 73) (v := ?_) (a' := ?_) #[true, true, true, true, true, true, true, true, true, true, false, true, false, false, false, true, false, false, false, false, false] rfl rfl (take_ofW HT_.out HW_.out (by kernel_rfl)) (fun _ _ _ h => h) (Or.inl ⟨by rfl, ?_⟩) hHeld ?_ ?_
       rotate_left
       (focus
       rintro w' ⟨s0, s1, s2, s3, s4, s5, s6, s7, s8, s9, s10, s11, s12, s13⟩
       go_simp
       with_reducible rfl
       )
       rotate_left
       (focus
       simp only [Act.put, sA, sB, sC, i64_w, i32_w]
       rfl
       )
       refine take_ (i := 10) (N := some 75) (v := ?_) (a' := ?_) #[true, true, true, true, true, true, true, true, true, true, true, true, false, false, false, true, false, false, false, false, false] rfl rfl (take_ofW HT_.out HW_.out (by kernel_rfl)) (fun _ _ _ h => h) (Or.inl ⟨by rfl, ?_⟩) hHeld ?_ ?_
       rotate_left
       (focus
       rintro w' ⟨s0, s1, s2, s3, s4, s5, s6, s7, s8, s9, s10, s11, s12, s13⟩
       go_simp
       with_reducible rfl
       )
       rotate_left
       (focus
       simp only [Act.put, sA, sB, sC, i64_w, i32_w]
       rfl
       )
       refine take_ (i := 12) (N := some 77) (v := ?_) (a' := ?_) #[true, true, true, true, true, true, true, true, true, true, true, true, true, false, false, true, false, false, false, false, false] rfl rfl (take_ofW HT_.out HW_.out (by kernel_rfl)) (fun _ _ _ h => h) (Or.inl ⟨by rfl, ?_⟩) hHeld ?_ ?_
       rotate_left
       (focus
       rintro w' ⟨s0, s1, s2, s3, s4, s5, s6, s7, s8, s9, s10, s11, s12, s13⟩
       go_simp
       with_reducible rfl
       )
       rotate_left
       (focus
       simp only [Act.put, sA, sB, sC, i64_w, i32_w]
       rfl
       )
       refine pure_ (i := 13) (N := some 78) (v := ?_) (a' := ?_) #[true, true, true, true, true, true, true, true, true, true, true, true, true, true, false, true, false, false, false, false, false] rfl rfl (any_of HT_.out (by kernel_rfl)) (fun _ _ _ h => h) (Or.inl ⟨by rfl, ?_⟩) ?_ ?_
       rotate_left
       (focus
       intro w'
       go_simp
       with_reducible rfl
       )
       rotate_left
       (focus
       simp only [Act.put, sA, sB, sC, i64_w, i32_w]
       rfl
       )
       refine take_ (i := 14) (N := some 79) (v := ?_) (a' := ?_) #[true, true, true, true, true, true, true, true, true, true, true, true, true, true, true, true, false, false, false, false, false] rfl rfl (take_ofW HT_.out HW_.out (by kernel_rfl)) (fun _ _ _ h => h) (Or.inl ⟨by rfl, ?_⟩) hHeld ?_ ?_
       rotate_left
       (focus
       rintro w' ⟨s0, s1, s2, s3, s4, s5, s6, s7, s8, s9, s10, s11, s12, s13⟩
       go_simp
       with_reducible rfl
       )
       rotate_left
       (focus
       simp only [Act.put, sA, sB, sC, i64_w, i32_w]
       rfl
       )
       refine pure_ (i := 16) (N := some 81) (v := ?_) (a' := ?_) #[true, true, true, true, true, true, true, true, true, true, true, true, true, true, true, true, true, false, false, false, false] rfl rfl (any_of HT_.out (by kernel_rfl)) (fun _ _ _ h => h) (Or.inl ⟨by rfl, ?_⟩) ?_ ?_
       rotate_left
       (focus
       intro w'
       go_simp
       with_reducible rfl
       )
       rotate_left
       (focus
       simp only [Act.put, sA, sB, sC, i64_w, i32_w]
       rfl
       )
       refine take_ (i := 17) (N := some 82) (v := ?_) (a' := ?_) #[true, true, true, true, true, true, true, true, true, true, true, true, true, true, true, true, true, true, false, false, false] rfl rfl (take_ofW HT_.out HW_.out (by kernel_rfl)) (fun _ _ _ h => h) (Or.inl ⟨by rfl, ?_⟩) hHeld ?_ ?_
       rotate_left
       (focus
       rintro w' ⟨s0, s1, s2, s3, s4, s5, s6, s7, s8, s9, s10, s11, s12, s13⟩
       go_simp
       with_reducible rfl
       )
       rotate_left
       (focus
       simp only [Act.put, sA, sB, sC, i64_w, i32_w]
       rfl
       )
       refine pure_ (i := 18) (N := some 83) (v := ?_) (a' := ?_) #[true, true, true, true, true, true, true, true, true, true, true, true, true, true, true, true, true, true, true, false, false] rfl rfl (any_of HT_.out (by kernel_rfl)) (fun _ _ _ h => h) (Or.inl ⟨by rfl, ?_⟩) ?_ ?_
       rotate_left
       (focus
       intro w'
       go_simp
       with_reducible rfl
       )
       rotate_left
       (focus
       simp only [Act.put, sA, sB, sC, i64_w, i32_w]
       rfl
       )
       refine one_ (i := 19) (N := some 16) #[true, true, true, true, true, true, true, true, true, true, true, true, true, true, true, true, true, true, true, true, false] rfl rfl (one_of HT_.out (by kernel_rfl)) (by decide) (fun K hK => ?_)
       refine box_step ?hg (N := 16) ?hd (cs := #[.int .i64 0, .int .i64 0]) (t := 70) ?hr ?_; (case hd => rfl); (case hg => rfl); (case hr => first | (go_simp; done) | (go_simp; rfl))
       intro gb282 hg w68 hbox hb
       have n0_ := aM (Kd.R_below (Kd.R_elderB (uR HO_9.out) gb282 (Nat.le_of_eq hg.symm)) hb)
       have n1_ := aM (Kd.R_below (uR HO_14.out) hb)
       have n2_ := aM (Kd.R_below (uR HO_267002.out) hb)
       have n3_ := aM (Kd.S_below (by (with_reducible repeat (first | apply Kd.S_alloc | apply Kd.S_drewN | apply Kd.S_drew)); exact HO_267003.out) hb)
       have n4_ := aM (blk_below (uB BK257.out) hb)
       have n5_ := aM (blk_below (uB BK258.out) hb)
       have n6_ := aM (blk_below (uB BK259.out) hb)
       have n7_ := aM (blk_below (g := gb264) (o := mapO ek70 (Value.int .i64) x265000_3) (uB BK264.out) hb)
       have n8_ := aM (blk_below (uB BK266.out) hb)
       have n9_ := aM (blk_below (uB BK268.out) hb)
       have n10_ := aM (below_step (by repeat (first | (with_reducible first | exact HB.out | apply bA | apply bN | apply bD | refine bS ?_ ‹_›) | exact HB.out)) hb)
       have n11_ := aM (hbox)
       have n12_ := aM ((by rw [hg]; exact (below_size (by repeat (first | (with_reducible first | exact HB.out | apply bA | apply bN | apply bD | refine bS ?_ ‹_›) | exact HB.out))) : w.heap.size ≤ gb282))
       have n13_ := aM ((by rw [hg]; exact (below_size (by repeat (first | (with_reducible first | exact HB.out | apply bA | apply bN | apply bD | refine bS ?_ ‹_›) | exact HB.out))) : w.heap.size ≤ gb282))
       have n14_ := aM ((by rw [hg]; exact Nat.ne_of_lt (blk_lt (uB BK257.out)) : gb257 ≠ gb282))
       have n15_ := aM ((by rw [hg]; exact Nat.ne_of_gt (blk_lt (uB BK257.out)) : gb282 ≠ gb257))
       have n16_ := aM ((by rw [hg]; exact Nat.ne_of_lt (blk_lt (uB BK258.out)) : gb258 ≠ gb282))
       have n17_ := aM ((by rw [hg]; exact Nat.ne_of_gt (blk_lt (uB BK258.out)) : gb282 ≠ gb258))
       have n18_ := aM ((by rw [hg]; exact Nat.ne_of_lt (blk_lt (uB BK259.out)) : gb259 ≠ gb282))
       have n19_ := aM ((by rw [hg]; exact Nat.ne_of_gt (blk_lt (uB BK259.out)) : gb282 ≠ gb259))
       have n20_ := aM ((by rw [hg]; exact Nat.ne_of_lt (blk_lt (g := gb264) (o := mapO ek70 (Value.int .i64) x265000_3) (uB BK264.out)) : gb264 ≠ gb282))
       have n21_ := aM ((by rw [hg]; exact Nat.ne_of_gt (blk_lt (g := gb264) (o := mapO ek70 (Value.int .i64) x265000_3) (uB BK264.out)) : gb282 ≠ gb264))
       have n22_ := aM ((by rw [hg]; exact Nat.ne_of_lt (blk_lt (uB BK266.out)) : gb266 ≠ gb282))
       have n23_ := aM ((by rw [hg]; exact Nat.ne_of_gt (blk_lt (uB BK266.out)) : gb282 ≠ gb266))
       have n24_ := aM ((by rw [hg]; exact Nat.ne_of_lt (blk_lt (uB BK268.out)) : gb268 ≠ gb282))
       have n25_ := aM ((by rw [hg]; exact Nat.ne_of_gt (blk_lt (uB BK268.out)) : gb282 ≠ gb268))
       clear HO_9
       clear HO_14
       clear HO_267002
       clear HO_267003
       clear BK257
       clear BK258
       clear BK259
       clear BK264
       clear BK266
       clear BK268
       clear HB
       have HO_9 := n0_
       have HO_14 := n1_
       have HO_267002 := n2_
       have HO_267003 := n3_
       have BK257 := n4_
       have BK258 := n5_
       have BK259 := n6_
       have BK264 := n7_
       have BK266 := n8_
       have BK268 := n9_
       have HB := n10_
       have BK282 := n11_
       have GW282 := n12_
       have GE282 := n13_
       have NB257_282 := n14_
       have NB282_257 := n15_
       have NB258_282 := n16_
       have NB282_258 := n17_
       have NB259_282 := n18_
       have NB282_259 := n19_
       have NB264_282 := n20_
       have NB282_264 := n21_
       have NB266_282 := n22_
       have NB282_266 := n23_
       have NB268_282 := n24_
       have NB282_268 := n25_
       clear n0_ n1_ n2_ n3_ n4_ n5_ n6_ n7_ n8_ n9_ n10_ n11_ n12_ n13_ n14_ n15_ n16_ n17_ n18_ n19_ n20_ n21_ n22_ n23_ n24_ n25_
       clear hb hbox hg
       refine hK.out _ _ ⟨(blk_cell BK257.out 0).trans rfl, (blk_cell BK257.out 1).trans rfl, (blk_cell BK257.out 2).trans rfl, (blk_cell BK257.out 3).trans rfl, (blk_cell BK268.out 0).trans rfl, (blk_cell BK268.out 1).trans rfl, (blk_cell BK258.out 0).trans rfl, (blk_cell BK258.out 1).trans rfl, (blk_cell BK258.out 2).trans rfl, (blk_cell BK258.out 3).trans rfl, ((HB.out.cell (World.block_lt_of_cell? w _ hw278_0)).trans hw278_0), ((HB.out.cell (World.block_lt_of_cell? w _ hw279_0)).trans hw279_0), ((HB.out.cell (World.block_lt_of_cell? w _ hw280_0)).trans hw280_0), ((HB.out.cell (World.block_lt_of_cell? w _ hw281_0)).trans hw281_0)⟩ (fun hHeld => ?_)
       clear hK K
       refine norm_ (a' := ?_) ?_ ?_
       rotate_left
       (focus
       show Act.put _ (some 16) _ = _
       simp only [Act.put, sA, sB, sC, i64_w, i32_w]
       rfl
       )
       refine one_ (i := 20) (N := none) #[true, true, true, true, true, true, true, true, true, true, true, true, true, true, true, true, true, true, true, true, true] rfl rfl (one_of HT_.out (by kernel_rfl)) (by decide) (fun K hK => ?_)
       have hs69 : w68.cell? ⟨gb282, 0, none⟩ = some (.int .i64 0) := (blk_cell BK282.out 0).trans rfl
       have hfs69 := blk_frozen BK282.out 0
       have hns69_0 := NB257_282.out
       have hns69_1 := NB258_282.out
       have hns69_2 := NB259_282.out
       have hns69_3 := NB264_282.out
       have hns69_4 := NB266_282.out
       have hns69_5 := NB268_282.out
       have hms69_0 := NB282_257.out
       have hms69_1 := NB282_258.out
       have hms69_2 := NB282_259.out
       have hms69_3 := NB282_264.out
       have hms69_4 := NB282_266.out
       have hms69_5 := NB282_268.out
       have hs70 : w68.cell? ⟨gb282, 1, none⟩ = some (.int .i64 0) := (blk_cell BK282.out 1).trans rfl
       have hfs70 := blk_frozen BK282.out 1
       have hns70_0 := NB257_282.out
       have hns70_1 := NB258_282.out
       have hns70_2 := NB259_282.out
       have hns70_3 := NB264_282.out
       have hns70_4 := NB266_282.out
       have hns70_5 := NB268_282.out
       have hms70_0 := NB282_257.out
       have hms70_1 := NB282_258.out
       have hms70_2 := NB282_259.out
       have hms70_3 := NB282_264.out
       have hms70_4 := NB282_266.out
       have hms70_5 := NB282_268.out
       refine skip_ (w1 := ?_) (by rfl) rfl ?_ ?_
       rotate_left
       (focus
       go_simp
       rfl
       )
       refine hK.out _ _ ⟨((cell_far (p := ⟨gb282, _, none⟩) NB257_282.out _).trans (((cell_far (p := ⟨gb282, _, none⟩) NB257_282.out _).trans (hHeld.1)))), ((cell_far (p := ⟨gb282, _, none⟩) NB257_282.out _).trans (((cell_far (p := ⟨gb282, _, none⟩) NB257_282.out _).trans (hHeld.2.1)))), ((cell_far (p := ⟨gb282, _, none⟩) NB257_282.out _).trans (((cell_far (p := ⟨gb282, _, none⟩) NB257_282.out _).trans (hHeld.2.2.1)))), ((cell_far (p := ⟨gb282, _, none⟩) NB257_282.out _).trans (((cell_far (p := ⟨gb282, _, none⟩) NB257_282.out _).trans (hHeld.2.2.2.1)))), ((cell_far (p := ⟨gb282, _, none⟩) NB268_282.out _).trans (((cell_far (p := ⟨gb282, _, none⟩) NB268_282.out _).trans (hHeld.2.2.2.2.1)))), ((cell_far (p := ⟨gb282, _, none⟩) NB268_282.out _).trans (((cell_far (p := ⟨gb282, _, none⟩) NB268_282.out _).trans (hHeld.2.2.2.2.2.1)))), ((cell_far (p := ⟨gb282, _, none⟩) NB258_282.out _).trans (((cell_far (p := ⟨gb282, _, none⟩) NB258_282.out _).trans (hHeld.2.2.2.2.2.2.1)))), ((cell_far (p := ⟨gb282, _, none⟩) NB258_282.out _).trans (((cell_far (p := ⟨gb282, _, none⟩) NB258_282.out _).trans (hHeld.2.2.2.2.2.2.2.1)))), ((cell_far (p := ⟨gb282, _, none⟩) NB258_282.out _).trans (((cell_far (p := ⟨gb282, _, none⟩) NB258_282.out _).trans (hHeld.2.2.2.2.2.2.2.2.1)))), ((cell_far (p := ⟨gb282, _, none⟩) NB258_282.out _).trans (((cell_far (p := ⟨gb282, _, none⟩) NB258_282.out _).trans (hHeld.2.2.2.2.2.2.2.2.2.1)))), ((cell_far (p := ⟨gb282, _, none⟩) (by first | exact nl1 hw278_0 GW282.out | exact nl2 hw278_0 GW282.out | exact nl3 hw278_0 GW282.out | (dsimp only; exact Nat.ne_of_lt (Nat.lt_of_lt_of_le (by have := World.block_lt_of_cell? _ _ hw278_0; first | rwa [add_block] at this | exact this) GW282.out))) _).trans (((cell_far (p := ⟨gb282, _, none⟩) (by first | exact nl1 hw278_0 GW282.out | exact nl2 hw278_0 GW282.out | exact nl3 hw278_0 GW282.out | (dsimp only; exact Nat.ne_of_lt (Nat.lt_of_lt_of_le (by have := World.block_lt_of_cell? _ _ hw278_0; first | rwa [add_block] at this | exact this) GW282.out))) _).trans (hHeld.2.2.2.2.2.2.2.2.2.2.1)))), ((cell_far (p := ⟨gb282, _, none⟩) (by first | exact nl1 hw279_0 GW282.out | exact nl2 hw279_0 GW282.out | exact nl3 hw279_0 GW282.out | (dsimp only; exact Nat.ne_of_lt (Nat.lt_of_lt_of_le (by have := World.block_lt_of_cell? _ _ hw279_0; first | rwa [add_block] at this | exact this) GW282.out))) _).trans (((cell_far (p := ⟨gb282, _, none⟩) (by first | exact nl1 hw279_0 GW282.out | exact nl2 hw279_0 GW282.out | exact nl3 hw279_0 GW282.out | (dsimp only; exact Nat.ne_of_lt (Nat.lt_of_lt_of_le (by have := World.block_lt_of_cell? _ _ hw279_0; first | rwa [add_block] at this | exact this) GW282.out))) _).trans (hHeld.2.2.2.2.2.2.2.2.2.2.2.1)))), ((cell_far (p := ⟨gb282, _, none⟩) (by first | exact nl1 hw280_0 GW282.out | exact nl2 hw280_0 GW282.out | exact nl3 hw280_0 GW282.out | (dsimp only; exact Nat.ne_of_lt (Nat.lt_of_lt_of_le (by have := World.block_lt_of_cell? _ _ hw280_0; first | rwa [add_block] at this | exact this) GW282.out))) _).trans (((cell_far (p := ⟨gb282, _, none⟩) (by first | exact nl1 hw280_0 GW282.out | exact nl2 hw280_0 GW282.out | exact nl3 hw280_0 GW282.out | (dsimp only; exact Nat.ne_of_lt (Nat.lt_of_lt_of_le (by have := World.block_lt_of_cell? _ _ hw280_0; first | rwa [add_block] at this | exact this) GW282.out))) _).trans (hHeld.2.2.2.2.2.2.2.2.2.2.2.2.1)))), ((cell_far (p := ⟨gb282, _, none⟩) (by first | exact nl1 hw281_0 GW282.out | exact nl2 hw281_0 GW282.out | exact nl3 hw281_0 GW282.out | (dsimp only; exact Nat.ne_of_lt (Nat.lt_of_lt_of_le (by have := World.block_lt_of_cell? _ _ hw281_0; first | rwa [add_block] at this | exact this) GW282.out))) _).trans (((cell_far (p := ⟨gb282, _, none⟩) (by first | exact nl1 hw281_0 GW282.out | exact nl2 hw281_0 GW282.out | exact nl3 hw281_0 GW282.out | (dsimp only; exact Nat.ne_of_lt (Nat.lt_of_lt_of_le (by have := World.block_lt_of_cell? _ _ hw281_0; first | rwa [add_block] at this | exact this) GW282.out))) _).trans (hHeld.2.2.2.2.2.2.2.2.2.2.2.2.2))))⟩ (fun hHeld => ?_)
       clear hK K
       refine done_ (done_of HT_.out (by kernel_rfl)) ?_
       have hnb71 := NB282_257.out
       have hnc71 := NB257_282.out
       have hnb72 := NB282_258.out
       have hnc72 := NB258_282.out
       have hnb73 := NB282_259.out
       have hnc73 := NB259_282.out
       have hnb74 := NB282_264.out
       have hnc74 := NB264_282.out
       have hnb75 := NB282_266.out
       have hnc75 := NB266_282.out
       have hnb76 := NB282_268.out
       have hnc76 := NB268_282.out
       have hcz77_0 : w68.cell? ⟨gb282, 0, none⟩ = some (.int .i64 0) := (blk_cell BK282.out 0).trans rfl
       have hcz77_1 : w68.cell? ⟨gb282, 1, none⟩ = some (.int .i64 0) := (blk_cell BK282.out 1).trans rfl
       have hfz77_0 := blk_frozen BK282.out 0
       have hfz77_1 := blk_frozen BK282.out 1
       try go_wp2_with (first | ((with_reducible refine gate_dst (N := 87) rfl ?_); at_lookup; refine wp_lookOk rfl _ _ _ rfl 70 3 keyOk70 Try.underlying72 gb264 x265000_3 (show _ = some (mapO ek70 (Value.int .i64) x265000_3) from by (with_reducible repeat (first | refine kN ?_ | refine kD ?_ | refine kA ?_)); refine blkF ?_ NB264_282.out _; (with_reducible repeat (first | refine kN ?_ | refine kD ?_ | refine kA ?_)); refine blkF ?_ NB264_282.out _; (with_reducible repeat (first | refine kN ?_ | refine kD ?_ | refine kA ?_)); exact BK264.out) rfl (⟨rd (rd_L1 l0_3 ((rd_T70 x9_2 x12_2).f0)) x15_3, rd (rd_L1 l1_3 ((rd_T70 x9_2 x12_2).f1)) x15_3⟩ : S70) rfl 0 (zv3 _) ?_) | ((with_reducible refine gate_builtin (b := .append) (xs := #[.tmp 105, .tmp 107]) rfl ?_); at_builtin; refine Kd.R_append (Kd.int .i64) (w0 := w) w.heap.size rfl (.tmp 105) (.tmp 107) 38 3 (.int .i64 0) 8 rfl Try.underlying38 info3 rfl (by decide) (by omega) u14 x14_3 (AM.get x265000_3 (⟨rd (rd_L1 l0_3 ((rd_T70 x9_2 x12_2).f0)) x15_3, rd (rd_L1 l1_3 ((rd_T70 x9_2 x12_2).f1)) x15_3⟩ : S70) 0) [.int .i64 (AM.get x265000_3 (⟨rd (rd_L1 l0_3 ((rd_T70 x9_2 x12_2).f0)) x15_3, rd (rd_L1 l1_3 ((rd_T70 x9_2 x12_2).f1)) x15_3⟩ : S70) 0)] (fun _ => True) (fun _ => False) rfl (by first | (go_simp; done) | (go_simp; rfl)) ?aP (fun _ hk => hk.elim) ?aF ?aO ?aB ?aS ?aL ?_; (case aP => exact rfl); (case aB => exact (by repeat (first | (with_reducible first | exact HB.out | apply bA | apply bN | apply bD | refine bS ?_ ‹_›) | exact HB.out))); (case aF => exact (fun _ _ => trivial)); (case aO => exact (uR (Kd.R_mono (Kd.R_far (p := ⟨gb282, 1, none⟩) (Kd.R_far (p := ⟨gb282, 0, none⟩) (Kd.R_types HO_14.out BK282.out (by decide)) (fun _ hk => hk.2) (.int .i64 (rd (rd_L1 l0_3 ((rd_T70 x9_2 x12_2).f0)) x15_3))) (fun _ hk => hk.2) (.int .i64 (rd (rd_L1 l1_3 ((rd_T70 x9_2 x12_2).f1)) x15_3))) (fun _ hk => trivial)))); (case aS => exact (below_size (by repeat (first | (with_reducible first | exact HB.out | apply bA | apply bN | apply bD | refine bS ?_ ‹_›) | exact HB.out)))); (case aL => have := LMc60.out; omega); intro v284 w78 ho hb hg hat; rw [← Ny283.out] at ho; have n0_ := aM (Kd.R_over' (uR ((Kd.R_mono (Kd.R_far (p := ⟨gb282, 1, none⟩) (Kd.R_far (p := ⟨gb282, 0, none⟩) (Kd.R_mono HO_9.out (fun k_ hk => (⟨hk, hk.2⟩ : _ ∧ k_ ≠ gb282))) (fun _ hk => hk.2) (.int .i64 (rd (rd_L1 l0_3 ((rd_T70 x9_2 x12_2).f0)) x15_3))) (fun _ hk => hk.2) (.int .i64 (rd (rd_L1 l1_3 ((rd_T70 x9_2 x12_2).f1)) x15_3))) (fun _ h_ => h_.1)))) (Kd.R_typed (uR ((Kd.R_mono (Kd.R_far (p := ⟨gb282, 1, none⟩) (Kd.R_far (p := ⟨gb282, 0, none⟩) (Kd.R_types HO_14.out BK282.out (by decide)) (fun _ hk => hk.2) (.int .i64 (rd (rd_L1 l0_3 ((rd_T70 x9_2 x12_2).f0)) x15_3))) (fun _ hk => hk.2) (.int .i64 (rd (rd_L1 l1_3 ((rd_T70 x9_2 x12_2).f1)) x15_3))) (fun _ h_ => h_.1))))) (by decide) hg); have n1_ := aM (Kd.R_over' (uR ((Kd.R_mono (Kd.R_far (p := ⟨gb282, 1, none⟩) (Kd.R_far (p := ⟨gb282, 0, none⟩) (Kd.R_types HO_267002.out BK282.out (by decide)) (fun _ hk => hk.2) (.int .i64 (rd (rd_L1 l0_3 ((rd_T70 x9_2 x12_2).f0)) x15_3))) (fun _ hk => hk.2) (.int .i64 (rd (rd_L1 l1_3 ((rd_T70 x9_2 x12_2).f1)) x15_3))) (fun _ h_ => h_.1)))) (Kd.R_typed (uR ((Kd.R_mono (Kd.R_far (p := ⟨gb282, 1, none⟩) (Kd.R_far (p := ⟨gb282, 0, none⟩) (Kd.R_types HO_14.out BK282.out (by decide)) (fun _ hk => hk.2) (.int .i64 (rd (rd_L1 l0_3 ((rd_T70 x9_2 x12_2).f0)) x15_3))) (fun _ hk => hk.2) (.int .i64 (rd (rd_L1 l1_3 ((rd_T70 x9_2 x12_2).f1)) x15_3))) (fun _ h_ => h_.1))))) (by decide) hg); have n2_ := aM (Kd.S_after (ok := (fun _ => True)) (by (with_reducible repeat (first | apply Kd.S_alloc | apply Kd.S_drewN | apply Kd.S_drew)); exact Kd.S_mono (Kd.S_far (p := ⟨gb282, 1, none⟩) (Kd.S_far (p := ⟨gb282, 0, none⟩) (Kd.S_types HO_267003.out BK282.out (by decide)) (fun _ hk => hk.2) (.int .i64 (rd (rd_L1 l0_3 ((rd_T70 x9_2 x12_2).f0)) x15_3))) (fun _ hk => hk.2) (.int .i64 (rd (rd_L1 l1_3 ((rd_T70 x9_2 x12_2).f1)) x15_3))) (fun _ hk => ⟨trivial, hk.1⟩)) hg hat); have n3_ := aM (blk_grown (g := gb257) (o := .cells #[.int .i64 a0_0, .int .i64 a0_1, .slice A0_2 l0_2.length c0_2, .slice (some ad278) l0_3.length c0_3] 25 (0, 0)) (by (with_reducible repeat (first | refine kN ?_ | refine kD ?_ | refine kA ?_ | refine blk_far ?_ NB257_282.out _)); exact BK257.out) hg (Kd.R_ne HO_14.out BK257.out (by decide))); have n4_ := aM (blk_grown (g := gb258) (o := .cells #[.int .i64 a1_0, .int .i64 a1_1, .slice A1_2 l1_2.length c1_2, .slice (some ad280) l1_3.length c1_3] 25 (0, 0)) (by (with_reducible repeat (first | refine kN ?_ | refine kD ?_ | refine kA ?_ | refine blk_far ?_ NB258_282.out _)); exact BK258.out) hg (Kd.R_ne HO_14.out BK258.out (by decide))); have n5_ := aM (blk_grown (g := gb259) (o := .cells #[.int .i64 x260000_3, .int .i64 x260001_3, .slice none 0 0, .slice none 0 0] 25 (0, 0)) (by (with_reducible repeat (first | refine kN ?_ | refine kD ?_ | refine kA ?_ | refine blk_far ?_ NB259_282.out _)); exact BK259.out) hg (Kd.R_ne HO_14.out BK259.out (by decide))); have n6_ := aM (blk_grown (g := gb264) (o := mapO ek70 (Value.int .i64) x265000_3) (by (with_reducible repeat (first | refine kN ?_ | refine kD ?_ | refine kA ?_)); refine blkF ?_ NB264_282.out _; (with_reducible repeat (first | refine kN ?_ | refine kD ?_ | refine kA ?_)); refine blkF ?_ NB264_282.out _; (with_reducible repeat (first | refine kN ?_ | refine kD ?_ | refine kA ?_)); exact BK264.out) hg (R_neM HO_14.out BK264.out)); have n7_ := aM (blk_grown (g := gb266) (o := .cells #[.int .i64 a0_0, .int .i64 0, u267002, u267003] 25 (0, 0)) (by (with_reducible repeat (first | refine kN ?_ | refine kD ?_ | refine kA ?_ | refine blk_far ?_ NB266_282.out _)); exact BK266.out) hg (Kd.R_ne HO_14.out BK266.out (by decide))); have n8_ := aM (blk_grown (g := gb268) (o := .cells #[.int .i64 ((rd_T70 x9_2 x12_2).f0), .int .i64 ((rd_T70 x9_2 x12_2).f1)] 70 (0, 0)) (by (with_reducible repeat (first | refine kN ?_ | refine kD ?_ | refine kA ?_ | refine blk_far ?_ NB268_282.out _)); exact BK268.out) hg (Kd.R_ne HO_14.out BK268.out (by decide))); have n9_ := aM (blk_grown (g := gb282) (o := .cells #[.int .i64 (rd (rd_L1 l0_3 ((rd_T70 x9_2 x12_2).f0)) x15_3), .int .i64 (rd (rd_L1 l1_3 ((rd_T70 x9_2 x12_2).f1)) x15_3)] 70 (0, 0)) (by (with_reducible repeat (first | refine kN ?_ | refine kD ?_ | refine kA ?_)); refine blk_put (cs := #[.int .i64 (rd (rd_L1 l0_3 ((rd_T70 x9_2 x12_2).f0)) x15_3), .int .i64 0]) ?_ 1 _ rfl; (with_reducible repeat (first | refine kN ?_ | refine kD ?_ | refine kA ?_)); refine blk_put (cs := #[.int .i64 0, .int .i64 0]) ?_ 0 _ rfl; (with_reducible repeat (first | refine kN ?_ | refine kD ?_ | refine kA ?_)); exact BK282.out) hg (Kd.R_ne HO_14.out BK282.out (by decide))); have n10_ := aM (hb); have n11_ := aM (ho); clear HO_9; clear HO_267002; clear HO_267003; clear BK257; clear BK258; clear BK259; clear BK264; clear BK266; clear BK268; clear BK282; clear HB; clear HO_14; have HO_9 := n0_; have HO_267002 := n1_; have HO_267003 := n2_; have BK257 := n3_; have BK258 := n4_; have BK259 := n5_; have BK264 := n6_; have BK266 := n7_; have BK268 := n8_; have BK282 := n9_; have HB := n10_; have HO285 := n11_; clear n0_ n1_ n2_ n3_ n4_ n5_ n6_ n7_ n8_ n9_ n10_ n11_; clear ho hb hg hat))
       go_roundg k3
       case measure => have := HJ5.out; have := HK2.out; have := HK3.out; omega
       case rel => exact ⟨(x9_3), (y283), (wrap64 (x15_3 + 1)), (x260000_3), (x260001_3), (x265000_3), (by first | rfl | (simp; done) | (simp [*]; done)), H', ⟨by have := HJ5.out; have := HK2.out; have := HK3.out; omega⟩, ⟨by (with_reducible repeat (first | apply Kd.R_alloc | apply Kd.R_drewN | apply Kd.R_drew)); exact Kd.R_mono HO_9.out (fun _ hk => hk.1)⟩, ⟨by (with_reducible repeat (first | apply Kd.R_alloc | apply Kd.R_drewN | apply Kd.R_drew)); exact HO285.out⟩, ⟨by (with_reducible repeat (first | apply Kd.R_alloc | apply Kd.R_drewN | apply Kd.R_drew)); exact HO_267002.out⟩, ⟨by (with_reducible repeat (first | apply Kd.S_alloc | apply Kd.S_drewN | apply Kd.S_drew)); exact Kd.S_mono HO_267003.out (fun _ hk => hk.2)⟩, ⟨by (with_reducible repeat (first | refine kN ?_ | refine kD ?_ | refine kA ?_)); exact BK257.out⟩, ⟨by (with_reducible repeat (first | refine kN ?_ | refine kD ?_ | refine kA ?_)); exact BK258.out⟩, ⟨by (with_reducible repeat (first | refine kN ?_ | refine kD ?_ | refine kA ?_)); exact BK259.out⟩, ⟨by (with_reducible repeat (first | refine kN ?_ | refine kD ?_ | refine kA ?_)); exact BK264.out⟩, ⟨by (with_reducible repeat (first | refine kN ?_ | refine kD ?_ | refine kA ?_)); exact BK266.out⟩, ⟨by (with_reducible repeat (first | refine kN ?_ | refine kD ?_ | refine kA ?_)); exact BK268.out⟩, ⟨by repeat (first | (with_reducible first | exact HB.out | apply bA | apply bN | apply bD | refine bS ?_ ‹_›) | exact HB.out)⟩⟩
       )
       (focus
       rw [if_neg c60] at H
       exact absurd H (by simp)
       )
       )
       (focus
       rw [if_neg c59] at H
       have c59b0 : (AM.has x265000_3 (⟨rd (rd_L1 l0_3 ((rd_T70 x9_2 x12_2).f0)) x15_3, rd (rd_L1 l1_3 ((rd_T70 x9_2 x12_2).f1)) x15_3⟩ : S70)) = false := by simpa using c59
       clear c59
       by_cases c79 : (x9_3.length : Int) = 512
       (focus
       rw [if_pos c79] at H
       have c79b0 : ((x9_3.length : Int) == 512) = true := beq_iff_eq.mpr c79
       have c79b1 : ((x9_3.length : Int) != 512) = false := bne_eq_false_iff_eq.mpr c79
       clear c79
       simp only [Option.some.injEq, Prod.mk.injEq] at H
       obtain ⟨rfl, rfl, rfl, rfl, rfl⟩ := H
       have hnb80 := NB257_258.out
       have hnc80 := NB258_257.out
       have hnb81 := NB257_259.out
       have hnc81 := NB259_257.out
       have hnb82 := NB257_264.out
       have hnc82 := NB264_257.out
       have hnb83 := NB257_266.out
       have hnc83 := NB266_257.out
       have hnb84 := NB257_268.out
       have hnc84 := NB268_257.out
       have hcz85_0 : wr.cell? ⟨gb257, 0, none⟩ = some (.int .i64 a0_0) := (blk_cell BK257.out 0).trans rfl
       have hcz85_1 : wr.cell? ⟨gb257, 1, none⟩ = some (.int .i64 a0_1) := (blk_cell BK257.out 1).trans rfl
       have hcz85_2 : wr.cell? ⟨gb257, 2, none⟩ = some (.slice A0_2 l0_2.length c0_2) := (blk_cell BK257.out 2).trans rfl
       have hcz85_3 : wr.cell? ⟨gb257, 3, none⟩ = some (.slice A0_3 l0_3.length c0_3) := (blk_cell BK257.out 3).trans rfl
       have hfz85_0 := blk_frozen BK257.out 0
       have hfz85_1 := blk_frozen BK257.out 1
       have hfz85_2 := blk_frozen BK257.out 2
       have hfz85_3 := blk_frozen BK257.out 3
       try go_wp2
       have n0_ := aM (Kd.R_drew HO_9.out)
       have n1_ := aM (Kd.R_drew HO_14.out)
       have n2_ := aM (Kd.R_drew HO_267002.out)
       have n3_ := aM (Kd.S_drew HO_267003.out)
       have n4_ := aM (blk_drew BK257.out)
       have n5_ := aM (blk_drew BK258.out)
       have n6_ := aM (blk_drew BK259.out)
       have n7_ := aM (blk_drew BK264.out)
       have n8_ := aM (blk_drew BK266.out)
       have n9_ := aM (blk_drew BK268.out)
       have n10_ := aM (below_drew1 HB.out)
       clear HO_9
       clear HO_14
       clear HO_267002
       clear HO_267003
       clear BK257
       clear BK258
       clear BK259
       clear BK264
       clear BK266
       clear BK268
       clear HB
       have HO_9 := n0_
       have HO_14 := n1_
       have HO_267002 := n2_
       have HO_267003 := n3_
       have BK257 := n4_
       have BK258 := n5_
       have BK259 := n6_
       have BK264 := n7_
       have BK266 := n8_
       have BK268 := n9_
       have HB := n10_
       clear n0_ n1_ n2_ n3_ n4_ n5_ n6_ n7_ n8_ n9_ n10_
       have p278 : 0 ≤ (((rd_T70 x9_2 x12_2).f0) : Int) := of_decide_eq_true (by assumption)
       have q278 : ((rd_T70 x9_2 x12_2).f0) < (l0_3.length : Int) := of_decide_eq_true (by assumption)
       obtain ⟨ad278, A278_0, c278_0, e278, hx278_0, hl278_0, hi278_0⟩ := at_L1 HR0_3.out ((rd_T70 x9_2 x12_2).f0) p278 q278
       have hw278_0 := hx278_0
       cases e278
       (try replace hx278_0 := (HB.out.cell (World.block_lt_of_cell? w _ hx278_0)).trans hx278_0)
       have HR278_0 := Aside0.mk hi278_0
       have HC278_0 := Aside0.mk hl278_0
       clear hi278_0 hl278_0
       replace p278 := eq_true p278
       replace q278 := eq_true q278
       have p279 : 0 ≤ (x15_3 : Int) := of_decide_eq_true (by assumption)
       have q279 : x15_3 < ((rd_L1 l0_3 ((rd_T70 x9_2 x12_2).f0)).length : Int) := of_decide_eq_true (by assumption)
       obtain ⟨ad279, e279, hx279_0⟩ := Kd.at_int HR278_0.out x15_3 p279 q279
       have hw279_0 := hx279_0
       cases e279
       (try replace hx279_0 := (HB.out.cell (World.block_lt_of_cell? w _ hx279_0)).trans hx279_0)
       replace p279 := eq_true p279
       replace q279 := eq_true q279
       have p280 : 0 ≤ (((rd_T70 x9_2 x12_2).f1) : Int) := of_decide_eq_true (by assumption)
       have q280 : ((rd_T70 x9_2 x12_2).f1) < (l1_3.length : Int) := of_decide_eq_true (by assumption)
       obtain ⟨ad280, A280_0, c280_0, e280, hx280_0, hl280_0, hi280_0⟩ := at_L1 HR1_3.out ((rd_T70 x9_2 x12_2).f1) p280 q280
       have hw280_0 := hx280_0
       cases e280
       (try replace hx280_0 := (HB.out.cell (World.block_lt_of_cell? w _ hx280_0)).trans hx280_0)
       have HR280_0 := Aside0.mk hi280_0
       have HC280_0 := Aside0.mk hl280_0
       clear hi280_0 hl280_0
       replace p280 := eq_true p280
       replace q280 := eq_true q280
       have p281 : 0 ≤ (x15_3 : Int) := of_decide_eq_true (by assumption)
       have q281 : x15_3 < ((rd_L1 l1_3 ((rd_T70 x9_2 x12_2).f1)).length : Int) := of_decide_eq_true (by assumption)
       obtain ⟨ad281, e281, hx281_0⟩ := Kd.at_int HR280_0.out x15_3 p281 q281
       have hw281_0 := hx281_0
       cases e281
       (try replace hx281_0 := (HB.out.cell (World.block_lt_of_cell? w _ hx281_0)).trans hx281_0)
       replace p281 := eq_true p281
       replace q281 := eq_true q281
       refine start_ (n := 21) (S := fun w' => w'.cell? ⟨gb257, 0, none⟩ = some (.int .i64 a0_0) ∧ w'.cell? ⟨gb257, 1, none⟩ = some (.int .i64 a0_1) ∧ w'.cell? ⟨gb257, 2, none⟩ = some (.slice A0_2 l0_2.length c0_2) ∧ w'.cell? ⟨gb257, 3, none⟩ = some (.slice (some ad278) l0_3.length c0_3) ∧ w'.cell? ⟨gb268, 0, none⟩ = some (.int .i64 ((rd_T70 x9_2 x12_2).f0)) ∧ w'.cell? ⟨gb268, 1, none⟩ = some (.int .i64 ((rd_T70 x9_2 x12_2).f1)) ∧ w'.cell? ⟨gb258, 0, none⟩ = some (.int .i64 a1_0) ∧ w'.cell? ⟨gb258, 1, none⟩ = some (.int .i64 a1_1) ∧ w'.cell? ⟨gb258, 2, none⟩ = some (.slice A1_2 l1_2.length c1_2) ∧ w'.cell? ⟨gb258, 3, none⟩ = some (.slice (some ad280) l1_3.length c1_3) ∧ w'.cell? (ad278.add (((rd_T70 x9_2 x12_2).f0)).toNat) = some (.slice (some ad279) (rd_L1 l0_3 ((rd_T70 x9_2 x12_2).f0)).length c278_0) ∧ w'.cell? (ad279.add (x15_3).toNat) = some (.int .i64 (rd (rd_L1 l0_3 ((rd_T70 x9_2 x12_2).f0)) x15_3)) ∧ w'.cell? (ad280.add (((rd_T70 x9_2 x12_2).f1)).toNat) = some (.slice (some ad281) (rd_L1 l1_3 ((rd_T70 x9_2 x12_2).f1)).length c280_0) ∧ w'.cell? (ad281.add (x15_3).toNat) = some (.int .i64 (rd (rd_L1 l1_3 ((rd_T70 x9_2 x12_2).f1)) x15_3))) (ds := []) #[false, false, false, false, false, false, false, false, false, false, false, false, false, false, false, false, false, false, false, false, false] (by kernel_rfl) rfl rfl ⟨(blk_cell BK257.out 0).trans rfl, (blk_cell BK257.out 1).trans rfl, (blk_cell BK257.out 2).trans rfl, (blk_cell BK257.out 3).trans rfl, (blk_cell BK268.out 0).trans rfl, (blk_cell BK268.out 1).trans rfl, (blk_cell BK258.out 0).trans rfl, (blk_cell BK258.out 1).trans rfl, (blk_cell BK258.out 2).trans rfl, (blk_cell BK258.out 3).trans rfl, ((HB.out.cell (World.block_lt_of_cell? w _ hw278_0)).trans hw278_0), ((HB.out.cell (World.block_lt_of_cell? w _ hw279_0)).trans hw279_0), ((HB.out.cell (World.block_lt_of_cell? w _ hw280_0)).trans hw280_0), ((HB.out.cell (World.block_lt_of_cell? w _ hw281_0)).trans hw281_0)⟩ (fun hHeld => ?_); refine with_tabW semigroupref07_Product.tab17 semigroupref07_Product.bits17 (fun HT_ HW_ => ?_)
       generalize wr.drew = w86 at HO_9 HO_14 HO_267002 HO_267003 BK257 BK258 BK259 BK264 BK266 BK268 HB HR278_0 HR280_0 hx278_0 hx279_0 hx280_0 hx281_0 hHeld ⊢
       refine pure_ (i := 0) (N := some 65) (v := ?_) (a' := ?_) #[true, false, false, false, false, false, false, false, false, false, false, false, false, false, false, false, false, false, false, false, false] rfl rfl (any_of HT_.out (by kernel_rfl)) (fun _ _ _ h => h) (Or.inl ⟨by rfl, ?_⟩) ?_ ?_
       rotate_left
       (focus
       intro w'
       go_simp
       with_reducible rfl
       )
       rotate_left
       (focus
       simp only [Act.put, sA, sB, sC, i64_w, i32_w]
       rfl
       )
       refine pure_ (i := 2) (N := some 67) (v := ?_) (a' := ?_) #[true, false, true, false, false, false, false, false, false, false, false, false, false, false, false, false, false, false, false, false, false] rfl rfl (any_of HT_.out (by kernel_rfl)) (fun _ _ _ h => h) (Or.inl ⟨by rfl, ?_⟩) ?_ ?_
       rotate_left
       (focus
       intro w'
       go_simp
       with_reducible rfl
       )
       rotate_left
       (focus
       simp only [Act.put, sA, sB, sC, i64_w, i32_w]
       rfl
       )
       refine pure_ (i := 6) (N := some 71) (v := ?_) (a' := ?_) #[true, false, true, false, false, false, true, false, false, false, false, false, false, false, false, false, false, false, false, false, false] rfl rfl (any_of HT_.out (by kernel_rfl)) (fun _ _ _ h => h) (Or.inl ⟨by rfl, ?_⟩) ?_ ?_
       rotate_left
       (focus
       intro w'
       go_simp
       with_reducible rfl
       )
       rotate_left
       (focus
       simp only [Act.put, sA, sB, sC, i64_w, i32_w]
       rfl
       )
       refine pure_ (i := 9) (N := some 74) (v := ?_) (a' := ?_) #[true, false, true, false, false, false, true, false, false, true, false, false, false, false, false, false, false, false, false, false, false] rfl rfl (any_of HT_.out (by kernel_rfl)) (fun _ _ _ h => h) (Or.inl ⟨by rfl, ?_⟩) ?_ ?_
       rotate_left
       (focus
       intro w'
       go_simp
       with_reducible rfl
       )
       rotate_left
       (focus
       simp only [Act.put, sA, sB, sC, i64_w, i32_w]
       rfl
       )
       refine pure_ (i := 11) (N := some 76) (v := ?_) (a' := ?_) #[true, false, true, false, false, false, true, false, false, true, false, true, false, false, false, false, false, false, false, false, false] rfl rfl (any_of HT_.out (by kernel_rfl)) (fun _ _ _ h => h) (Or.inl ⟨by rfl, ?_⟩) ?_ ?_
       rotate_left
       (focus
       intro w'
       go_simp
       with_reducible rfl
       )
       rotate_left
       (focus
       simp only [Act.put, sA, sB, sC, i64_w, i32_w]
       rfl
       )
       refine pure_ (i := 15) (N := some 80) (v := ?_) (a' := ?_) #[true, false, true, false, false, false, true, false, false, true, false, true, false, false, false, true, false, false, false, false, false] rfl rfl (any_of HT_.out (by kernel_rfl)) (fun _ _ _ h => h) (Or.inl ⟨by rfl, ?_⟩) ?_ ?_
       rotate_left
       (focus
       intro w'
       go_simp
       with_reducible rfl
       )
       rotate_left
       (focus
       simp only [Act.put, sA, sB, sC, i64_w, i32_w]
       rfl
       )
       refine take_ (i := 1) (N := some 66) (v := ?_) (a' := ?_) #[true, true, true, false, false, false, true, false, false, true, false, true, false, false, false, true, false, false, false, false, false] rfl rfl (take_ofW HT_.out HW_.out (by kernel_rfl)) (fun _ _ _ h => h) (Or.inl ⟨by rfl, ?_⟩) hHeld ?_ ?_
       rotate_left
       (focus
       rintro w' ⟨s0, s1, s2, s3, s4, s5, s6, s7, s8, s9, s10, s11, s12, s13⟩
       go_simp
       with_reducible rfl
       )
       rotate_left
       (focus
       simp only [Act.put, sA, sB, sC, i64_w, i32_w]
       rfl
       )
       refine take_ (i := 3) (N := some 68) (v := ?_) (a' := ?_) #[true, true, true, true, false, false, true, false, false, true, false, true, false, false, false, true, false, false, false, false, false] rfl rfl (take_ofW HT_.out HW_.out (by kernel_rfl)) (fun _ _ _ h => h) (Or.inl ⟨by rfl, ?_⟩) hHeld ?_ ?_
       rotate_left
       (focus
       rintro w' ⟨s0, s1, s2, s3, s4, s5, s6, s7, s8, s9, s10, s11, s12, s13⟩
       go_simp
       with_reducible rfl
       )
       rotate_left
       (focus
       simp only [Act.put, sA, sB, sC, i64_w, i32_w]
       rfl
       )
       refine pure_ (i := 4) (N := some 69) (v := ?_) (a' := ?_) #[true, true, true, true, true, false, true, false, false, true, false, true, false, false, false, true, false, false, false, false, false] rfl rfl (any_of HT_.out (by kernel_rfl)) (fun _ _ _ h => h) (Or.inl ⟨by rfl, ?_⟩) ?_ ?_
       rotate_left
       (focus
       intro w'
       go_simp
       with_reducible rfl
       )
       rotate_left
       (focus
       simp only [Act.put, sA, sB, sC, i64_w, i32_w]
       rfl
       )
       refine take_ (i := 5) (N := some 70) (v := ?_) (a' := ?_) #[true, true, true, true, true, true, true, false, false, true, false, true, false, false, false, true, false, false, false, false, false] rfl rfl (take_ofW HT_.out HW_.out (by kernel_rfl)) (fun _ _ _ h => h) (Or.inl ⟨by rfl, ?_⟩) hHeld ?_ ?_
       rotate_left
       (focus
       rintro w' ⟨s0, s1, s2, s3, s4, s5, s6, s7, s8, s9, s10, s11, s12, s13⟩
       go_simp
       with_reducible rfl
       )
       rotate_left
       (focus
       simp only [Act.put, sA, sB, sC, i64_w, i32_w]
       rfl
       )
       refine pure_ (i := 7) (N := some 72) (v := ?_) (a' := ?_) #[true, true, true, true, true, true, true, true, false, true, false, true, false, false, false, true, false, false, false, false, false] rfl rfl (any_of HT_.out (by kernel_rfl)) (fun _ _ _ h => h) (Or.inl ⟨by rfl, ?_⟩) ?_ ?_
       rotate_left
       (focus
       intro w'
       go_simp
       with_reducible rfl
       )
       rotate_left
       (focus
       simp only [Act.put, sA, sB, sC, i64_w, i32_w]
       rfl
       )
       refine take_ (i := 8) (N := some 73) (v := ?_) (a' := ?_) #[true, true, true, true, true, true, true, true, true, true, false, true, false, false, false, true, false, false, false, false, false] rfl rfl (take_ofW HT_.out HW_.out (by kernel_rfl)) (fun _ _ _ h => h) (Or.inl ⟨by rfl, ?_⟩) hHeld ?_ ?_
       rotate_left
       (focus
       rintro w' ⟨s0, s1, s2, s3, s4, s5, s6, s7, s8, s9, s10, s11, s12, s13⟩
       go_simp
       with_reducible rfl
       )
       rotate_left
       (focus
       simp only [Act.put, sA, sB, sC, i64_w, i32_w]
       rfl
       )
       refine take_ (i := 10) (N := some 75) (v := ?_) (a' := ?_) #[true, true, true, true, true, true, true, true, true, true, true, true, false, false, false, true, false, false, false, false, false] rfl rfl (take_ofW HT_.out HW_.out (by kernel_rfl)) (fun _ _ _ h => h) (Or.inl ⟨by rfl, ?_⟩) hHeld ?_ ?_
       rotate_left
       (focus
       rintro w' ⟨s0, s1, s2, s3, s4, s5, s6, s7, s8, s9, s10, s11, s12, s13⟩
       go_simp
       with_reducible rfl
       )
       rotate_left
       (focus
       simp only [Act.put, sA, sB, sC, i64_w, i32_w]
       rfl
       )
       refine take_ (i := 12) (N := some 77) (v := ?_) (a' := ?_) #[true, true, true, true, true, true, true, true, true, true, true, true, true, false, false, true, false, false, false, false, false] rfl rfl (take_ofW HT_.out HW_.out (by kernel_rfl)) (fun _ _ _ h => h) (Or.inl ⟨by rfl, ?_⟩) hHeld ?_ ?_
       rotate_left
       (focus
       rintro w' ⟨s0, s1, s2, s3, s4, s5, s6, s7, s8, s9, s10, s11, s12, s13⟩
       go_simp
       with_reducible rfl
       )
       rotate_left
       (focus
       simp only [Act.put, sA, sB, sC, i64_w, i32_w]
       rfl
       )
       refine pure_ (i := 13) (N := some 78) (v := ?_) (a' := ?_) #[true, true, true, true, true, true, true, true, true, true, true, true, true, true, false, true, false, false, false, false, false] rfl rfl (any_of HT_.out (by kernel_rfl)) (fun _ _ _ h => h) (Or.inl ⟨by rfl, ?_⟩) ?_ ?_
       rotate_left
       (focus
       intro w'
       go_simp
       with_reducible rfl
       )
       rotate_left
       (focus
       simp only [Act.put, sA, sB, sC, i64_w, i32_w]
       rfl
       )
       refine take_ (i := 14) (N := some 79) (v := ?_) (a' := ?_) #[true, true, true, true, true, true, true, true, true, true, true, true, true, true, true, true, false, false, false, false, false] rfl rfl (take_ofW HT_.out HW_.out (by kernel_rfl)) (fun _ _ _ h => h) (Or.inl ⟨by rfl, ?_⟩) hHeld ?_ ?_
       rotate_left
       (focus
       rintro w' ⟨s0, s1, s2, s3, s4, s5, s6, s7, s8, s9, s10, s11, s12, s13⟩
       go_simp
       with_reducible rfl
       )
       rotate_left
       (focus
       simp only [Act.put, sA, sB, sC, i64_w, i32_w]
       rfl
       )
       refine pure_ (i := 16) (N := some 81) (v := ?_) (a' := ?_) #[true, true, true, true, true, true, true, true, true, true, true, true, true, true, true, true, true, false, false, false, false] rfl rfl (any_of HT_.out (by kernel_rfl)) (fun _ _ _ h => h) (Or.inl ⟨by rfl, ?_⟩) ?_ ?_
       rotate_left
       (focus
       intro w'
       go_simp
       with_reducible rfl
       )
       rotate_left
       (focus
       simp only [Act.put, sA, sB, sC, i64_w, i32_w]
       rfl
       )
       refine take_ (i := 17) (N := some 82) (v := ?_) (a' := ?_) #[true, true, true, true, true, true, true, true, true, true, true, true, true, true, true, true, true, true, false, false, false] rfl rfl (take_ofW HT_.out HW_.out (by kernel_rfl)) (fun _ _ _ h => h) (Or.inl ⟨by rfl, ?_⟩) hHeld ?_ ?_
       rotate_left
       (focus
       rintro w' ⟨s0, s1, s2, s3, s4, s5, s6, s7, s8, s9, s10, s11, s12, s13⟩
       go_simp
       with_reducible rfl
       )
       rotate_left
       (focus
       simp only [Act.put, sA, sB, sC, i64_w, i32_w]
       rfl
       )
       refine pure_ (i := 18) (N := some 83) (v := ?_) (a' := ?_) #[true, true, true, true, true, true, true, true, true, true, true, true, true, true, true, true, true, true, true, false, false] rfl rfl (any_of HT_.out (by kernel_rfl)) (fun _ _ _ h => h) (Or.inl ⟨by rfl, ?_⟩) ?_ ?_
       rotate_left
       (focus
       intro w'
       go_simp
       with_reducible rfl
       )
       rotate_left
       (focus
       simp only [Act.put, sA, sB, sC, i64_w, i32_w]
       rfl
       )
       refine one_ (i := 19) (N := some 16) #[true, true, true, true, true, true, true, true, true, true, true, true, true, true, true, true, true, true, true, true, false] rfl rfl (one_of HT_.out (by kernel_rfl)) (by decide) (fun K hK => ?_)
       refine box_step ?hg (N := 16) ?hd (cs := #[.int .i64 0, .int .i64 0]) (t := 70) ?hr ?_; (case hd => rfl); (case hg => rfl); (case hr => first | (go_simp; done) | (go_simp; rfl))
       intro gb282 hg w87 hbox hb
       have n0_ := aM (Kd.R_below (Kd.R_elderB (uR HO_9.out) gb282 (Nat.le_of_eq hg.symm)) hb)
       have n1_ := aM (Kd.R_below (uR HO_14.out) hb)
       have n2_ := aM (Kd.R_below (uR HO_267002.out) hb)
       have n3_ := aM (Kd.S_below (by (with_reducible repeat (first | apply Kd.S_alloc | apply Kd.S_drewN | apply Kd.S_drew)); exact HO_267003.out) hb)
       have n4_ := aM (blk_below (uB BK257.out) hb)
       have n5_ := aM (blk_below (uB BK258.out) hb)
       have n6_ := aM (blk_below (uB BK259.out) hb)
       have n7_ := aM (blk_below (g := gb264) (o := mapO ek70 (Value.int .i64) x265000_3) (uB BK264.out) hb)
       have n8_ := aM (blk_below (uB BK266.out) hb)
       have n9_ := aM (blk_below (uB BK268.out) hb)
       have n10_ := aM (below_step (by repeat (first | (with_reducible first | exact HB.out | apply bA | apply bN | apply bD | refine bS ?_ ‹_›) | exact HB.out)) hb)
       have n11_ := aM (hbox)
       have n12_ := aM ((by rw [hg]; exact (below_size (by repeat (first | (with_reducible first | exact HB.out | apply bA | apply bN | apply bD | refine bS ?_ ‹_›) | exact HB.out))) : w.heap.size ≤ gb282))
       have n13_ := aM ((by rw [hg]; exact (below_size (by repeat (first | (with_reducible first | exact HB.out | apply bA | apply bN | apply bD | refine bS ?_ ‹_›) | exact HB.out))) : w.heap.size ≤ gb282))
       have n14_ := aM ((by rw [hg]; exact Nat.ne_of_lt (blk_lt (uB BK257.out)) : gb257 ≠ gb282))
       have n15_ := aM ((by rw [hg]; exact Nat.ne_of_gt (blk_lt (uB BK257.out)) : gb282 ≠ gb257))
       have n16_ := aM ((by rw [hg]; exact Nat.ne_of_lt (blk_lt (uB BK258.out)) : gb258 ≠ gb282))
       have n17_ := aM ((by rw [hg]; exact Nat.ne_of_gt (blk_lt (uB BK258.out)) : gb282 ≠ gb258))
       have n18_ := aM ((by rw [hg]; exact Nat.ne_of_lt (blk_lt (uB BK259.out)) : gb259 ≠ gb282))
       have n19_ := aM ((by rw [hg]; exact Nat.ne_of_gt (blk_lt (uB BK259.out)) : gb282 ≠ gb259))
       have n20_ := aM ((by rw [hg]; exact Nat.ne_of_lt (blk_lt (g := gb264) (o := mapO ek70 (Value.int .i64) x265000_3) (uB BK264.out)) : gb264 ≠ gb282))
       have n21_ := aM ((by rw [hg]; exact Nat.ne_of_gt (blk_lt (g := gb264) (o := mapO ek70 (Value.int .i64) x265000_3) (uB BK264.out)) : gb282 ≠ gb264))
       have n22_ := aM ((by rw [hg]; exact Nat.ne_of_lt (blk_lt (uB BK266.out)) : gb266 ≠ gb282))
       have n23_ := aM ((by rw [hg]; exact Nat.ne_of_gt (blk_lt (uB BK266.out)) : gb282 ≠ gb266))
       have n24_ := aM ((by rw [hg]; exact Nat.ne_of_lt (blk_lt (uB BK268.out)) : gb268 ≠ gb282))
       have n25_ := aM ((by rw [hg]; exact Nat.ne_of_gt (blk_lt (uB BK268.out)) : gb282 ≠ gb268))
       clear HO_9
       clear HO_14
       clear HO_267002
       clear HO_267003
       clear BK257
       clear BK258
       clear BK259
       clear BK264
       clear BK266
       clear BK268
       clear HB
       have HO_9 := n0_
       have HO_14 := n1_
       have HO_267002 := n2_
       have HO_267003 := n3_
       have BK257 := n4_
       have BK258 := n5_
       have BK259 := n6_
       have BK264 := n7_
       have BK266 := n8_
       have BK268 := n9_
       have HB := n10_
       have BK282 := n11_
       have GW282 := n12_
       have GE282 := n13_
       have NB257_282 := n14_
       have NB282_257 := n15_
       have NB258_282 := n16_
       have NB282_258 := n17_
       have NB259_282 := n18_
       have NB282_259 := n19_
       have NB264_282 := n20_
       have NB282_264 := n21_
       have NB266_282 := n22_
       have NB282_266 := n23_
       have NB268_282 := n24_
       have NB282_268 := n25_
       clear n0_ n1_ n2_ n3_ n4_ n5_ n6_ n7_ n8_ n9_ n10_ n11_ n12_ n13_ n14_ n15_ n16_ n17_ n18_ n19_ n20_ n21_ n22_ n23_ n24_ n25_
       clear hb hbox hg
       refine hK.out _ _ ⟨(blk_cell BK257.out 0).trans rfl, (blk_cell BK257.out 1).trans rfl, (blk_cell BK257.out 2).trans rfl, (blk_cell BK257.out 3).trans rfl, (blk_cell BK268.out 0).trans rfl, (blk_cell BK268.out 1).trans rfl, (blk_cell BK258.out 0).trans rfl, (blk_cell BK258.out 1).trans rfl, (blk_cell BK258.out 2).trans rfl, (blk_cell BK258.out 3).trans rfl, ((HB.out.cell (World.block_lt_of_cell? w _ hw278_0)).trans hw278_0), ((HB.out.cell (World.block_lt_of_cell? w _ hw279_0)).trans hw279_0), ((HB.out.cell (World.block_lt_of_cell? w _ hw280_0)).trans hw280_0), ((HB.out.cell (World.block_lt_of_cell? w _ hw281_0)).trans hw281_0)⟩ (fun hHeld => ?_)
       clear hK K
       refine norm_ (a' := ?_) ?_ ?_
       rotate_left
       (focus
       show Act.put _ (some 16) _ = _
       simp only [Act.put, sA, sB, sC, i64_w, i32_w]
       rfl
       )
       refine one_ (i := 20) (N := none) #[true, true, true, true, true, true, true, true, true, true, true, true, true, true, true, true, true, true, true, true, true] rfl rfl (one_of HT_.out (by kernel_rfl)) (by decide) (fun K hK => ?_)
       have hs88 : w87.cell? ⟨gb282, 0, none⟩ = some (.int .i64 0) := (blk_cell BK282.out 0).trans rfl
       have hfs88 := blk_frozen BK282.out 0
       have hns88_0 := NB257_282.out
       have hns88_1 := NB258_282.out
       have hns88_2 := NB259_282.out
       have hns88_3 := NB264_282.out
       have hns88_4 := NB266_282.out
       have hns88_5 := NB268_282.out
       have hms88_0 := NB282_257.out
       have hms88_1 := NB282_258.out
       have hms88_2 := NB282_259.out
       have hms88_3 := NB282_264.out
       have hms88_4 := NB282_266.out
       have hms88_5 := NB282_268.out
       have hs89 : w87.cell? ⟨gb282, 1, none⟩ = some (.int .i64 0) := (blk_cell BK282.out 1).trans rfl
       have hfs89 := blk_frozen BK282.out 1
       have hns89_0 := NB257_282.out
       have hns89_1 := NB258_282.out
       have hns89_2 := NB259_282.out
       have hns89_3 := NB264_282.out
       have hns89_4 := NB266_282.out
       have hns89_5 := NB268_282.out
       have hms89_0 := NB282_257.out
       have hms89_1 := NB282_258.out
       have hms89_2 := NB282_259.out
       have hms89_3 := NB282_264.out
       have hms89_4 := NB282_266.out
       have hms89_5 := NB282_268.out
       refine skip_ (w1 := ?_) (by rfl) rfl ?_ ?_
       rotate_left
       (focus
       go_simp
       rfl
       )
       refine hK.out _ _ ⟨((cell_far (p := ⟨gb282, _, none⟩) NB257_282.out _).trans (((cell_far (p := ⟨gb282, _, none⟩) NB257_282.out _).trans (hHeld.1)))), ((cell_far (p := ⟨gb282, _, none⟩) NB257_282.out _).trans (((cell_far (p := ⟨gb282, _, none⟩) NB257_282.out _).trans (hHeld.2.1)))), ((cell_far (p := ⟨gb282, _, none⟩) NB257_282.out _).trans (((cell_far (p := ⟨gb282, _, none⟩) NB257_282.out _).trans (hHeld.2.2.1)))), ((cell_far (p := ⟨gb282, _, none⟩) NB257_282.out _).trans (((cell_far (p := ⟨gb282, _, none⟩) NB257_282.out _).trans (hHeld.2.2.2.1)))), ((cell_far (p := ⟨gb282, _, none⟩) NB268_282.out _).trans (((cell_far (p := ⟨gb282, _, none⟩) NB268_282.out _).trans (hHeld.2.2.2.2.1)))), ((cell_far (p := ⟨gb282, _, none⟩) NB268_282.out _).trans (((cell_far (p := ⟨gb282, _, none⟩) NB268_282.out _).trans (hHeld.2.2.2.2.2.1)))), ((cell_far (p := ⟨gb282, _, none⟩) NB258_282.out _).trans (((cell_far (p := ⟨gb282, _, none⟩) NB258_282.out _).trans (hHeld.2.2.2.2.2.2.1)))), ((cell_far (p := ⟨gb282, _, none⟩) NB258_282.out _).trans (((cell_far (p := ⟨gb282, _, none⟩) NB258_282.out _).trans (hHeld.2.2.2.2.2.2.2.1)))), ((cell_far (p := ⟨gb282, _, none⟩) NB258_282.out _).trans (((cell_far (p := ⟨gb282, _, none⟩) NB258_282.out _).trans (hHeld.2.2.2.2.2.2.2.2.1)))), ((cell_far (p := ⟨gb282, _, none⟩) NB258_282.out _).trans (((cell_far (p := ⟨gb282, _, none⟩) NB258_282.out _).trans (hHeld.2.2.2.2.2.2.2.2.2.1)))), ((cell_far (p := ⟨gb282, _, none⟩) (by first | exact nl1 hw278_0 GW282.out | exact nl2 hw278_0 GW282.out | exact nl3 hw278_0 GW282.out | (dsimp only; exact Nat.ne_of_lt (Nat.lt_of_lt_of_le (by have := World.block_lt_of_cell? _ _ hw278_0; first | rwa [add_block] at this | exact this) GW282.out))) _).trans (((cell_far (p := ⟨gb282, _, none⟩) (by first | exact nl1 hw278_0 GW282.out | exact nl2 hw278_0 GW282.out | exact nl3 hw278_0 GW282.out | (dsimp only; exact Nat.ne_of_lt (Nat.lt_of_lt_of_le (by have := World.block_lt_of_cell? _ _ hw278_0; first | rwa [add_block] at this | exact this) GW282.out))) _).trans (hHeld.2.2.2.2.2.2.2.2.2.2.1)))), ((cell_far (p := ⟨gb282, _, none⟩) (by first | exact nl1 hw279_0 GW282.out | exact nl2 hw279_0 GW282.out | exact nl3 hw279_0 GW282.out | (dsimp only; exact Nat.ne_of_lt (Nat.lt_of_lt_of_le (by have := World.block_lt_of_cell? _ _ hw279_0; first | rwa [add_block] at this | exact this) GW282.out))) _).trans (((cell_far (p := ⟨gb282, _, none⟩) (by first | exact nl1 hw279_0 GW282.out | exact nl2 hw279_0 GW282.out | exact nl3 hw279_0 GW282.out | (dsimp only; exact Nat.ne_of_lt (Nat.lt_of_lt_of_le (by have := World.block_lt_of_cell? _ _ hw279_0; first | rwa [add_block] at this | exact this) GW282.out))) _).trans (hHeld.2.2.2.2.2.2.2.2.2.2.2.1)))), ((cell_far (p := ⟨gb282, _, none⟩) (by first | exact nl1 hw280_0 GW282.out | exact nl2 hw280_0 GW282.out | exact nl3 hw280_0 GW282.out | (dsimp only; exact Nat.ne_of_lt (Nat.lt_of_lt_of_le (by have := World.block_lt_of_cell? _ _ hw280_0; first | rwa [add_block] at this | exact this) GW282.out))) _).trans (((cell_far (p := ⟨gb282, _, none⟩) (by first | exact nl1 hw280_0 GW282.out | exact nl2 hw280_0 GW282.out | exact nl3 hw280_0 GW282.out | (dsimp only; exact Nat.ne_of_lt (Nat.lt_of_lt_of_le (by have := World.block_lt_of_cell? _ _ hw280_0; first | rwa [add_block] at this | exact this) GW282.out))) _).trans (hHeld.2.2.2.2.2.2.2.2.2.2.2.2.1)))), ((cell_far (p := ⟨gb282, _, none⟩) (by first | exact nl1 hw281_0 GW282.out | exact nl2 hw281_0 GW282.out | exact nl3 hw281_0 GW282.out | (dsimp only; exact Nat.ne_of_lt (Nat.lt_of_lt_of_le (by have := World.block_lt_of_cell? _ _ hw281_0; first | rwa [add_block] at this | exact this) GW282.out))) _).trans (((cell_far (p := ⟨gb282, _, none⟩) (by first | exact nl1 hw281_0 GW282.out | exact nl2 hw281_0 GW282.out | exact nl3 hw281_0 GW282.out | (dsimp only; exact Nat.ne_of_lt (Nat.lt_of_lt_of_le (by have := World.block_lt_of_cell? _ _ hw281_0; first | rwa [add_block] at this | exact this) GW282.out))) _).trans (hHeld.2.2.2.2.2.2.2.2.2.2.2.2.2))))⟩ (fun hHeld => ?_)
       clear hK K
       refine done_ (done_of HT_.out (by kernel_rfl)) ?_
       have hnb90 := NB282_257.out
       have hnc90 := NB257_282.out
       have hnb91 := NB282_258.out
       have hnc91 := NB258_282.out
       have hnb92 := NB282_259.out
       have hnc92 := NB259_282.out
       have hnb93 := NB282_264.out
       have hnc93 := NB264_282.out
       have hnb94 := NB282_266.out
       have hnc94 := NB266_282.out
       have hnb95 := NB282_268.out
       have hnc95 := NB268_282.out
       have hcz96_0 : w87.cell? ⟨gb282, 0, none⟩ = some (.int .i64 0) := (blk_cell BK282.out 0).trans rfl
       have hcz96_1 : w87.cell? ⟨gb282, 1, none⟩ = some (.int .i64 0) := (blk_cell BK282.out 1).trans rfl
       have hfz96_0 := blk_frozen BK282.out 0
       have hfz96_1 := blk_frozen BK282.out 1
       obtain ⟨Ao97, co97, eo97⟩ := Kd.R_slice HO_9.out
       subst eo97
       have hnb98 := NB259_258.out
       have hnc98 := NB258_259.out
       have hnb99 := NB259_264.out
       have hnc99 := NB264_259.out
       have hnb100 := NB259_266.out
       have hnc100 := NB266_259.out
       have hnb101 := NB259_268.out
       have hnc101 := NB268_259.out
       have hcz102_0 : w87.cell? ⟨gb259, 0, none⟩ = some (.int .i64 x260000_3) := (blk_cell BK259.out 0).trans rfl
       have hcz102_1 : w87.cell? ⟨gb259, 1, none⟩ = some (.int .i64 x260001_3) := (blk_cell BK259.out 1).trans rfl
       have hcz102_2 : w87.cell? ⟨gb259, 2, none⟩ = some (.slice none 0 0) := (blk_cell BK259.out 2).trans rfl
       have hcz102_3 : w87.cell? ⟨gb259, 3, none⟩ = some (.slice none 0 0) := (blk_cell BK259.out 3).trans rfl
       have hfz102_0 := blk_frozen BK259.out 0
       have hfz102_1 := blk_frozen BK259.out 1
       have hfz102_2 := blk_frozen BK259.out 2
       have hfz102_3 := blk_frozen BK259.out 3
       try go_wp2_with (first | ((with_reducible refine gate_dst (N := 87) rfl ?_); at_lookup; refine wp_lookOk rfl _ _ _ rfl 70 3 keyOk70 Try.underlying72 gb264 x265000_3 (show _ = some (mapO ek70 (Value.int .i64) x265000_3) from by (with_reducible repeat (first | refine kN ?_ | refine kD ?_ | refine kA ?_)); refine blkF ?_ NB264_282.out _; (with_reducible repeat (first | refine kN ?_ | refine kD ?_ | refine kA ?_)); refine blkF ?_ NB264_282.out _; (with_reducible repeat (first | refine kN ?_ | refine kD ?_ | refine kA ?_)); exact BK264.out) rfl (⟨rd (rd_L1 l0_3 ((rd_T70 x9_2 x12_2).f0)) x15_3, rd (rd_L1 l1_3 ((rd_T70 x9_2 x12_2).f1)) x15_3⟩ : S70) rfl 0 (zv3 _) ?_))
       refine bodyPost_ret (results_ct rfl _ _ gb259 25 #[.int .i64 0, .int .i64 0, .slice none 0 0, .slice none 0 0] (0, 0) _ rfl (by (with_reducible repeat (first | refine kN ?_ | refine kD ?_ | refine kA ?_)); refine blk_put (cs := #[.int .i64 0, .int .i64 0, .slice none 0 0, .slice none 0 0]) ?_ 3 _ rfl; (with_reducible repeat (first | refine kN ?_ | refine kD ?_ | refine kA ?_)); refine blk_put (cs := #[.int .i64 0, .int .i64 0, .slice none 0 0, .slice none 0 0]) ?_ 2 _ rfl; (with_reducible repeat (first | refine kN ?_ | refine kD ?_ | refine kA ?_)); refine blk_put (cs := #[.int .i64 0, .int .i64 x260001_3, .slice none 0 0, .slice none 0 0]) ?_ 1 _ rfl; (with_reducible repeat (first | refine kN ?_ | refine kD ?_ | refine kA ?_)); refine blk_put (cs := #[.int .i64 x260000_3, .int .i64 x260001_3, .slice none 0 0, .slice none 0 0]) ?_ 0 _ rfl; (with_reducible repeat (first | refine kN ?_ | refine kD ?_ | refine kA ?_ | refine blk_far ?_ NB259_282.out _)); exact BK259.out) Try.underlying25 rfl (by kernel_rfl)) rfl ?_
       exact ⟨_, _, by first | rfl | (simp [errW_none, errW_some] <;> rfl) | (simp [*, errW_none, errW_some] <;> rfl), by first | exact Kd.R_nil _ _ _ _ _ | exact Kd.N_nil _ _ _ _ _ | exact Kd.V_nil _ _ _ _ _ | exact Kd.Q_nil _ _ _ _ _ | exact Kd.S_nil _ _ _ _ _, by first | exact Kd.S_nil _ _ _ _ _ | exact Kd.N_nil _ _ _ _ _ | exact Kd.V_nil _ _ _ _ _ | exact Kd.Q_nil _ _ _ _ _ | exact Kd.R_nil _ _ _ _ _, by repeat (first | (with_reducible first | exact HB.out | apply bA | apply bN | apply bD | refine bS ?_ ‹_›) | exact HB.out)⟩
       )
       (focus
       rw [if_neg c79] at H
       have c79b0 : ((x9_3.length : Int) == 512) = false := beq_eq_false_iff_ne.mpr c79
       have c79b1 : ((x9_3.length : Int) != 512) = true := bne_iff_ne.mpr c79
       obtain ⟨y286, hy286⟩ : ∃ y_ : AM S70 Int, y_ = (AM.put x265000_3 (⟨rd (rd_L1 l0_3 ((rd_T70 x9_2 x12_2).f0)) x15_3, rd (rd_L1 l1_3 ((rd_T70 x9_2 x12_2).f1)) x15_3⟩ : S70) (x9_3.length : Int)) := ⟨_, rfl⟩
       replace H : (if x9_3.length < 8796093022208 then (if x14_3.length < 17592186044416 then (semigroupref07_Product.l1 k3 a2 (x9_3 ++ [(⟨rd (rd_L1 l0_3 ((rd_T70 x9_2 x12_2).f0)) x15_3, rd (rd_L1 l1_3 ((rd_T70 x9_2 x12_2).f1)) x15_3⟩ : S70)]) x12_2 (x14_3 ++ [(x9_3.length : Int)]) (wrap64 (x15_3 + 1)) a0_0 a0_1 l0_2 l0_3 a1_0 a1_1 l1_2 l1_3 y286 a0_0 0 x267002_2 x267003_2 ((rd_T70 x9_2 x12_2).f0) ((rd_T70 x9_2 x12_2).f1)) else (none)) else (none)) = some (r1, r2, r3, r4, r5) := by first | (rw [hy286]; with_reducible exact H) | (have H2_ := (Option.bind_some _ _).symm.trans H; rw [hy286]; with_reducible exact H2_) | (have H2_ := (Option.bind_some _ _).symm.trans H; with_reducible exact H2_) | with_reducible exact H | (rw [hy286]; exact H) | exact H
       have Ny286 := Aside0.mk hy286
       clear hy286
       by_cases c103 : x9_3.length < 8796093022208
       (focus
       rw [if_pos c103] at H
       have LMc103 := Aside0.mk c103
       clear c103
       obtain ⟨y287, hy287⟩ : ∃ y_ : List (S70), y_ = (x9_3 ++ [(⟨rd (rd_L1 l0_3 ((rd_T70 x9_2 x12_2).f0)) x15_3, rd (rd_L1 l1_3 ((rd_T70 x9_2 x12_2).f1)) x15_3⟩ : S70)]) := ⟨_, rfl⟩
       replace H : (if x14_3.length < 17592186044416 then (semigroupref07_Product.l1 k3 a2 y287 x12_2 (x14_3 ++ [(x9_3.length : Int)]) (wrap64 (x15_3 + 1)) a0_0 a0_1 l0_2 l0_3 a1_0 a1_1 l1_2 l1_3 y286 a0_0 0 x267002_2 x267003_2 ((rd_T70 x9_2 x12_2).f0) ((rd_T70 x9_2 x12_2).f1)) else (none)) = some (r1, r2, r3, r4, r5) := by first | (rw [hy287]; with_reducible exact H) | (have H2_ := (Option.bind_some _ _).symm.trans H; rw [hy287]; with_reducible exact H2_) | (have H2_ := (Option.bind_some _ _).symm.trans H; with_reducible exact H2_) | with_reducible exact H | (rw [hy287]; exact H) | exact H
       have Ny287 := Aside0.mk hy287
       clear hy287
       by_cases c104 : x14_3.length < 17592186044416
       (focus
       rw [if_pos c104] at H
       have LMc104 := Aside0.mk c104
       clear c104
       obtain ⟨y290, hy290⟩ : ∃ y_ : List Int, y_ = (x14_3 ++ [(x9_3.length : Int)]) := ⟨_, rfl⟩
       replace H : (semigroupref07_Product.l1 k3 a2 y287 x12_2 y290 (wrap64 (x15_3 + 1)) a0_0 a0_1 l0_2 l0_3 a1_0 a1_1 l1_2 l1_3 y286 a0_0 0 x267002_2 x267003_2 ((rd_T70 x9_2 x12_2).f0) ((rd_T70 x9_2 x12_2).f1)) = some (r1, r2, r3, r4, r5) := by first | (rw [hy290]; with_reducible exact H) | (have H2_ := (Option.bind_some _ _).symm.trans H; rw [hy290]; with_reducible exact H2_) | (have H2_ := (Option.bind_some _ _).symm.trans H; with_reducible exact H2_) | with_reducible exact H | (rw [hy290]; exact H) | exact H
       have Ny290 := Aside0.mk hy290
       clear hy290
       have H' := Aside0.mk H
       clear H
       have hnb105 := NB257_258.out
       have hnc105 := NB258_257.out
       have hnb106 := NB257_259.out
       have hnc106 := NB259_257.out
       have hnb107 := NB257_264.out
       have hnc107 := NB264_257.out
       have hnb108 := NB257_266.out
       have hnc108 := NB266_257.out
       have hnb109 := NB257_268.out
       have hnc109 := NB268_257.out
       have hcz110_0 : wr.cell? ⟨gb257, 0, none⟩ = some (.int .i64 a0_0) := (blk_cell BK257.out 0).trans rfl
       have hcz110_1 : wr.cell? ⟨gb257, 1, none⟩ = some (.int .i64 a0_1) := (blk_cell BK257.out 1).trans rfl
       have hcz110_2 : wr.cell? ⟨gb257, 2, none⟩ = some (.slice A0_2 l0_2.length c0_2) := (blk_cell BK257.out 2).trans rfl
       have hcz110_3 : wr.cell? ⟨gb257, 3, none⟩ = some (.slice A0_3 l0_3.length c0_3) := (blk_cell BK257.out 3).trans rfl
       have hfz110_0 := blk_frozen BK257.out 0
       have hfz110_1 := blk_frozen BK257.out 1
       have hfz110_2 := blk_frozen BK257.out 2
       have hfz110_3 := blk_frozen BK257.out 3
       try go_wp2
       have n0_ := aM (Kd.R_drew HO_9.out)
       have n1_ := aM (Kd.R_drew HO_14.out)
       have n2_ := aM (Kd.R_drew HO_267002.out)
       have n3_ := aM (Kd.S_drew HO_267003.out)
       have n4_ := aM (blk_drew BK257.out)
       have n5_ := aM (blk_drew BK258.out)
       have n6_ := aM (blk_drew BK259.out)
       have n7_ := aM (blk_drew BK264.out)
       have n8_ := aM (blk_drew BK266.out)
       have n9_ := aM (blk_drew BK268.out)
       have n10_ := aM (below_drew1 HB.out)
       clear HO_9
       clear HO_14
       clear HO_267002
       clear HO_267003
       clear BK257
       clear BK258
       clear BK259
       clear BK264
       clear BK266
       clear BK268
       clear HB
       have HO_9 := n0_
       have HO_14 := n1_
       have HO_267002 := n2_
       have HO_267003 := n3_
       have BK257 := n4_
       have BK258 := n5_
       have BK259 := n6_
       have BK264 := n7_
       have BK266 := n8_
       have BK268 := n9_
       have HB := n10_
       clear n0_ n1_ n2_ n3_ n4_ n5_ n6_ n7_ n8_ n9_ n10_
       have p278 : 0 ≤ (((rd_T70 x9_2 x12_2).f0) : Int) := of_decide_eq_true (by assumption)
       have q278 : ((rd_T70 x9_2 x12_2).f0) < (l0_3.length : Int) := of_decide_eq_true (by assumption)
       obtain ⟨ad278, A278_0, c278_0, e278, hx278_0, hl278_0, hi278_0⟩ := at_L1 HR0_3.out ((rd_T70 x9_2 x12_2).f0) p278 q278
       have hw278_0 := hx278_0
       cases e278
       (try replace hx278_0 := (HB.out.cell (World.block_lt_of_cell? w _ hx278_0)).trans hx278_0)
       have HR278_0 := Aside0.mk hi278_0
       have HC278_0 := Aside0.mk hl278_0
       clear hi278_0 hl278_0
       replace p278 := eq_true p278
       replace q278 := eq_true q278
       have p279 : 0 ≤ (x15_3 : Int) := of_decide_eq_true (by assumption)
       have q279 : x15_3 < ((rd_L1 l0_3 ((rd_T70 x9_2 x12_2).f0)).length : Int) := of_decide_eq_true (by assumption)
       obtain ⟨ad279, e279, hx279_0⟩ := Kd.at_int HR278_0.out x15_3 p279 q279
       have hw279_0 := hx279_0
       cases e279
       (try replace hx279_0 := (HB.out.cell (World.block_lt_of_cell? w _ hx279_0)).trans hx279_0)
       replace p279 := eq_true p279
       replace q279 := eq_true q279
       have p280 : 0 ≤ (((rd_T70 x9_2 x12_2).f1) : Int) := of_decide_eq_true (by assumption)
       have q280 : ((rd_T70 x9_2 x12_2).f1) < (l1_3.length : Int) := of_decide_eq_true (by assumption)
       obtain ⟨ad280, A280_0, c280_0, e280, hx280_0, hl280_0, hi280_0⟩ := at_L1 HR1_3.out ((rd_T70 x9_2 x12_2).f1) p280 q280
       have hw280_0 := hx280_0
       cases e280
       (try replace hx280_0 := (HB.out.cell (World.block_lt_of_cell? w _ hx280_0)).trans hx280_0)
       have HR280_0 := Aside0.mk hi280_0
       have HC280_0 := Aside0.mk hl280_0
       clear hi280_0 hl280_0
       replace p280 := eq_true p280
       replace q280 := eq_true q280
       have p281 : 0 ≤ (x15_3 : Int) := of_decide_eq_true (by assumption)
       have q281 : x15_3 < ((rd_L1 l1_3 ((rd_T70 x9_2 x12_2).f1)).length : Int) := of_decide_eq_true (by assumption)
       obtain ⟨ad281, e281, hx281_0⟩ := Kd.at_int HR280_0.out x15_3 p281 q281
       have hw281_0 := hx281_0
       cases e281
       (try replace hx281_0 := (HB.out.cell (World.block_lt_of_cell? w _ hx281_0)).trans hx281_0)
       replace p281 := eq_true p281
       replace q281 := eq_true q281
       refine start_ (n := 21) (S := fun w' => w'.cell? ⟨gb257, 0, none⟩ = some (.int .i64 a0_0) ∧ w'.cell? ⟨gb257, 1, none⟩ = some (.int .i64 a0_1) ∧ w'.cell? ⟨gb257, 2, none⟩ = some (.slice A0_2 l0_2.length c0_2) ∧ w'.cell? ⟨gb257, 3, none⟩ = some (.slice (some ad278) l0_3.length c0_3) ∧ w'.cell? ⟨gb268, 0, none⟩ = some (.int .i64 ((rd_T70 x9_2 x12_2).f0)) ∧ w'.cell? ⟨gb268, 1, none⟩ = some (.int .i64 ((rd_T70 x9_2 x12_2).f1)) ∧ w'.cell? ⟨gb258, 0, none⟩ = some (.int .i64 a1_0) ∧ w'.cell? ⟨gb258, 1, none⟩ = some (.int .i64 a1_1) ∧ w'.cell? ⟨gb258, 2, none⟩ = some (.slice A1_2 l1_2.length c1_2) ∧ w'.cell? ⟨gb258, 3, none⟩ = some (.slice (some ad280) l1_3.length c1_3) ∧ w'.cell? (ad278.add (((rd_T70 x9_2 x12_2).f0)).toNat) = some (.slice (some ad279) (rd_L1 l0_3 ((rd_T70 x9_2 x12_2).f0)).length c278_0) ∧ w'.cell? (ad279.add (x15_3).toNat) = some (.int .i64 (rd (rd_L1 l0_3 ((rd_T70 x9_2 x12_2).f0)) x15_3)) ∧ w'.cell? (ad280.add (((rd_T70 x9_2 x12_2).f1)).toNat) = some (.slice (some ad281) (rd_L1 l1_3 ((rd_T70 x9_2 x12_2).f1)).length c280_0) ∧ w'.cell? (ad281.add (x15_3).toNat) = some (.int .i64 (rd (rd_L1 l1_3 ((rd_T70 x9_2 x12_2).f1)) x15_3))) (ds := []) #[false, false, false, false, false, false, false, false, false, false, false, false, false, false, false, false, false, false, false, false, false] (by kernel_rfl) rfl rfl ⟨(blk_cell BK257.out 0).trans rfl, (blk_cell BK257.out 1).trans rfl, (blk_cell BK257.out 2).trans rfl, (blk_cell BK257.out 3).trans rfl, (blk_cell BK268.out 0).trans rfl, (blk_cell BK268.out 1).trans rfl, (blk_cell BK258.out 0).trans rfl, (blk_cell BK258.out 1).trans rfl, (blk_cell BK258.out 2).trans rfl, (blk_cell BK258.out 3).trans rfl, ((HB.out.cell (World.block_lt_of_cell? w _ hw278_0)).trans hw278_0), ((HB.out.cell (World.block_lt_of_cell? w _ hw279_0)).trans hw279_0), ((HB.out.cell (World.block_lt_of_cell? w _ hw280_0)).trans hw280_0), ((HB.out.cell (World.block_lt_of_cell? w _ hw281_0)).trans hw281_0)⟩ (fun hHeld => ?_); refine with_tabW semigroupref07_Product.tab17 semigroupref07_Product.bits17 (fun HT_ HW_ => ?_)
       generalize wr.drew = w111 at HO_9 HO_14 HO_267002 HO_267003 BK257 BK258 BK259 BK264 BK266 BK268 HB HR278_0 HR280_0 hx278_0 hx279_0 hx280_0 hx281_0 hHeld ⊢
       refine pure_ (i := 0) (N := some 65) (v := ?_) (a' := ?_) #[true, false, false, false, false, false, false, false, false, false, false, false, false, false, false, false, false, false, false, false, false] rfl rfl (any_of HT_.out (by kernel_rfl)) (fun _ _ _ h => h) (Or.inl ⟨by rfl, ?_⟩) ?_ ?_
       rotate_left
       (focus
       intro w'
       go_simp
       with_reducible rfl
       )
       rotate_left
       (focus
       simp only [Act.put, sA, sB, sC, i64_w, i32_w]
       rfl
       )
       refine pure_ (i := 2) (N := some 67) (v := ?_) (a' := ?_) #[true, false, true, false, false, false, false, false, false, false, false, false, false, false, false, false, false, false, false, false, false] rfl rfl (any_of HT_.out (by kernel_rfl)) (fun _ _ _ h => h) (Or.inl ⟨by rfl, ?_⟩) ?_ ?_
       rotate_left
       (focus
       intro w'
       go_simp
       with_reducible rfl
       )
       rotate_left
       (focus
       simp only [Act.put, sA, sB, sC, i64_w, i32_w]
       rfl
       )
       refine pure_ (i := 6) (N := some 71) (v := ?_) (a' := ?_) #[true, false, true, false, false, false, true, false, false, false, false, false, false, false, false, false, false, false, false, false, false] rfl rfl (any_of HT_.out (by kernel_rfl)) (fun _ _ _ h => h) (Or.inl ⟨by rfl, ?_⟩) ?_ ?_
       rotate_left
       (focus
       intro w'
       go_simp
       with_reducible rfl
       )
       rotate_left
       (focus
       simp only [Act.put, sA, sB, sC, i64_w, i32_w]
       rfl
       )
       refine pure_ (i := 9) (N := some 74) (v := ?_) (a' := ?_) #[true, false, true, false, false, false, true, false, false, true, false, false, false, false, false, false, false, false, false, false, false] rfl rfl (any_of HT_.out (by kernel_rfl)) (fun _ _ _ h => h) (Or.inl ⟨by rfl, ?_⟩) ?_ ?_
       rotate_left
       (focus
       intro w'
       go_simp
       with_reducible rfl
       )
       rotate_left
       (focus
       simp only [Act.put, sA, sB, sC, i64_w, i32_w]
       rfl
       )
       refine pure_ (i := 11) (N := some 76) (v := ?_) (a' := ?_) #[true, false, true, false, false, false, true, false, false, true, false, true, false, false, false, false, false, false, false, false, false] rfl rfl (any_of HT_.out (by kernel_rfl)) (fun _ _ _ h => h) (Or.inl ⟨by rfl, ?_⟩) ?_ ?_
       rotate_left
       (focus
       intro w'
       go_simp
       with_reducible rfl
       )
       rotate_left
       (focus
       simp only [Act.put, sA, sB, sC, i64_w, i32_w]
       rfl
       )
       refine pure_ (i := 15) (N := some 80) (v := ?_) (a' := ?_) #[true, false, true, false, false, false, true, false, false, true, false, true, false, false, false, true, false, false, false, false, false] rfl rfl (any_of HT_.out (by kernel_rfl)) (fun _ _ _ h => h) (Or.inl ⟨by rfl, ?_⟩) ?_ ?_
       rotate_left
       (focus
       intro w'
       go_simp
       with_reducible rfl
       )
       rotate_left
       (focus
       simp only [Act.put, sA, sB, sC, i64_w, i32_w]
       rfl
       )
       refine take_ (i := 1) (N := some 66) (v := ?_) (a' := ?_) #[true, true, true, false, false, false, true, false, false, true, false, true, false, false, false, true, false, false, false, false, false] rfl rfl (take_ofW HT_.out HW_.out (by kernel_rfl)) (fun _ _ _ h => h) (Or.inl ⟨by rfl, ?_⟩) hHeld ?_ ?_
       rotate_left
       (focus
       rintro w' ⟨s0, s1, s2, s3, s4, s5, s6, s7, s8, s9, s10, s11, s12, s13⟩
       go_simp
       with_reducible rfl
       )
       rotate_left
       (focus
       simp only [Act.put, sA, sB, sC, i64_w, i32_w]
       rfl
       )
       refine take_ (i := 3) (N := some 68) (v := ?_) (a' := ?_) #[true, true, true, true, false, false, true, false, false, true, false, true, false, false, false, true, false, false, false, false, false] rfl rfl (take_ofW HT_.out HW_.out (by kernel_rfl)) (fun _ _ _ h => h) (Or.inl ⟨by rfl, ?_⟩) hHeld ?_ ?_
       rotate_left
       (focus
       rintro w' ⟨s0, s1, s2, s3, s4, s5, s6, s7, s8, s9, s10, s11, s12, s13⟩
       go_simp
       with_reducible rfl
       )
       rotate_left
       (focus
       simp only [Act.put, sA, sB, sC, i64_w, i32_w]
       rfl
       )
       refine pure_ (i := 4) (N := some 69) (v := ?_) (a' := ?_) #[true, true, true, true, true, false, true, false, false, true, false, true, false, false, false, true, false, false, false, false, false] rfl rfl (any_of HT_.out (by kernel_rfl)) (fun _ _ _ h => h) (Or.inl ⟨by rfl, ?_⟩) ?_ ?_
       rotate_left
       (focus
       intro w'
       go_simp
       with_reducible rfl
       )
       rotate_left
       (focus
       simp only [Act.put, sA, sB, sC, i64_w, i32_w]
       rfl
       )
       refine take_ (i := 5) (N := some 70) (v := ?_) (a' := ?_) #[true, true, true, true, true, true, true, false, false, true, false, true, false, false, false, true, false, false, false, false, false] rfl rfl (take_ofW HT_.out HW_.out (by kernel_rfl)) (fun _ _ _ h => h) (Or.inl ⟨by rfl, ?_⟩) hHeld ?_ ?_
       rotate_left
       (focus
       rintro w' ⟨s0, s1, s2, s3, s4, s5, s6, s7, s8, s9, s10, s11, s12, s13⟩
       go_simp
       with_reducible rfl
       )
       rotate_left
       (focus
       simp only [Act.put, sA, sB, sC, i64_w, i32_w]
       rfl
       )
       refine pure_ (i := 7) (N := some 72) (v := ?_) (a' := ?_) #[true, true, true, true, true, true, true, true, false, true, false, true, false, false, false, true, false, false, false, false, false] rfl rfl (any_of HT_.out (by kernel_rfl)) (fun _ _ _ h => h) (Or.inl ⟨by rfl, ?_⟩) ?_ ?_
       rotate_left
       (focus
       intro w'
       go_simp
       with_reducible rfl
       )
       rotate_left
       (focus
       simp only [Act.put, sA, sB, sC, i64_w, i32_w]
       rfl
       )
       refine take_ (i := 8) (N := some 73) (v := ?_) (a' := ?_) #[true, true, true, true, true, true, true, true, true, true, false, true, false, false, false, true, false, false, false, false, false] rfl rfl (take_ofW HT_.out HW_.out (by kernel_rfl)) (fun _ _ _ h => h) (Or.inl ⟨by rfl, ?_⟩) hHeld ?_ ?_
       rotate_left
       (focus
       rintro w' ⟨s0, s1, s2, s3, s4, s5, s6, s7, s8, s9, s10, s11, s12, s13⟩
       go_simp
       with_reducible rfl
       )
       rotate_left
       (focus
       simp only [Act.put, sA, sB, sC, i64_w, i32_w]
       rfl
       )
       refine take_ (i := 10) (N := some 75) (v := ?_) (a' := ?_) #[true, true, true, true, true, true, true, true, true, true, true, true, false, false, false, true, false, false, false, false, false] rfl rfl (take_ofW HT_.out HW_.out (by kernel_rfl)) (fun _ _ _ h => h) (Or.inl ⟨by rfl, ?_⟩) hHeld ?_ ?_
       rotate_left
       (focus
       rintro w' ⟨s0, s1, s2, s3, s4, s5, s6, s7, s8, s9, s10, s11, s12, s13⟩
       go_simp
       with_reducible rfl
       )
       rotate_left
       (focus
       simp only [Act.put, sA, sB, sC, i64_w, i32_w]
       rfl
       )
       refine take_ (i := 12) (N := some 77) (v := ?_) (a' := ?_) #[true, true, true, true, true, true, true, true, true, true, true, true, true, false, false, true, false, false, false, false, false] rfl rfl (take_ofW HT_.out HW_.out (by kernel_rfl)) (fun _ _ _ h => h) (Or.inl ⟨by rfl, ?_⟩) hHeld ?_ ?_
       rotate_left
       (focus
       rintro w' ⟨s0, s1, s2, s3, s4, s5, s6, s7, s8, s9, s10, s11, s12, s13⟩
       go_simp
       with_reducible rfl
       )
       rotate_left
       (focus
       simp only [Act.put, sA, sB, sC, i64_w, i32_w]
       rfl
       )
       refine pure_ (i := 13) (N := some 78) (v := ?_) (a' := ?_) #[true, true, true, true, true, true, true, true, true, true, true, true, true, true, false, true, false, false, false, false, false] rfl rfl (any_of HT_.out (by kernel_rfl)) (fun _ _ _ h => h) (Or.inl ⟨by rfl, ?_⟩) ?_ ?_
       rotate_left
       (focus
       intro w'
       go_simp
       with_reducible rfl
       )
       rotate_left
       (focus
       simp only [Act.put, sA, sB, sC, i64_w, i32_w]
       rfl
       )
       refine take_ (i := 14) (N := some 79) (v := ?_) (a' := ?_) #[true, true, true, true, true, true, true, true, true, true, true, true, true, true, true, true, false, false, false, false, false] rfl rfl (take_ofW HT_.out HW_.out (by kernel_rfl)) (fun _ _ _ h => h) (Or.inl ⟨by rfl, ?_⟩) hHeld ?_ ?_
       rotate_left
       (focus
       rintro w' ⟨s0, s1, s2, s3, s4, s5, s6, s7, s8, s9, s10, s11, s12, s13⟩
       go_simp
       with_reducible rfl
       )
       rotate_left
       (focus
       simp only [Act.put, sA, sB, sC, i64_w, i32_w]
       rfl
       )
       refine pure_ (i := 16) (N := some 81) (v := ?_) (a' := ?_) #[true, true, true, true, true, true, true, true, true, true, true, true, true, true, true, true, true, false, false, false, false] rfl rfl (any_of HT_.out (by kernel_rfl)) (fun _ _ _ h => h) (Or.inl ⟨by rfl, ?_⟩) ?_ ?_
       rotate_left
       (focus
       intro w'
       go_simp
       with_reducible rfl
       )
       rotate_left
       (focus
       simp only [Act.put, sA, sB, sC, i64_w, i32_w]
       rfl
       )
       refine take_ (i := 17) (N := some 82) (v := ?_) (a' := ?_) #[true, true, true, true, true, true, true, true, true, true, true, true, true, true, true, true, true, true, false, false, false] rfl rfl (take_ofW HT_.out HW_.out (by kernel_rfl)) (fun _ _ _ h => h) (Or.inl ⟨by rfl, ?_⟩) hHeld ?_ ?_
       rotate_left
       (focus
       rintro w' ⟨s0, s1, s2, s3, s4, s5, s6, s7, s8, s9, s10, s11, s12, s13⟩
       go_simp
       with_reducible rfl
       )
       rotate_left
       (focus
       simp only [Act.put, sA, sB, sC, i64_w, i32_w]
       rfl
       )
       refine pure_ (i := 18) (N := some 83) (v := ?_) (a' := ?_) #[true, true, true, true, true, true, true, true, true, true, true, true, true, true, true, true, true, true, true, false, false] rfl rfl (any_of HT_.out (by kernel_rfl)) (fun _ _ _ h => h) (Or.inl ⟨by rfl, ?_⟩) ?_ ?_
       rotate_left
       (focus
       intro w'
       go_simp
       with_reducible rfl
       )
       rotate_left
       (focus
       simp only [Act.put, sA, sB, sC, i64_w, i32_w]
       rfl
       )
       refine one_ (i := 19) (N := some 16) #[true, true, true, true, true, true, true, true, true, true, true, true, true, true, true, true, true, true, true, true, false] rfl rfl (one_of HT_.out (by kernel_rfl)) (by decide) (fun K hK => ?_)
       refine box_step ?hg (N := 16) ?hd (cs := #[.int .i64 0, .int .i64 0]) (t := 70) ?hr ?_; (case hd => rfl); (case hg => rfl); (case hr => first | (go_simp; done) | (go_simp; rfl))
       intro gb282 hg w112 hbox hb
       have n0_ := aM (Kd.R_below (Kd.R_elderB (uR HO_9.out) gb282 (Nat.le_of_eq hg.symm)) hb)
       have n1_ := aM (Kd.R_below (uR HO_14.out) hb)
       have n2_ := aM (Kd.R_below (uR HO_267002.out) hb)
       have n3_ := aM (Kd.S_below (by (with_reducible repeat (first | apply Kd.S_alloc | apply Kd.S_drewN | apply Kd.S_drew)); exact HO_267003.out) hb)
       have n4_ := aM (blk_below (uB BK257.out) hb)
       have n5_ := aM (blk_below (uB BK258.out) hb)
       have n6_ := aM (blk_below (uB BK259.out) hb)
       have n7_ := aM (blk_below (g := gb264) (o := mapO ek70 (Value.int .i64) x265000_3) (uB BK264.out) hb)
       have n8_ := aM (blk_below (uB BK266.out) hb)
       have n9_ := aM (blk_below (uB BK268.out) hb)
       have n10_ := aM (below_step (by repeat (first | (with_reducible first | exact HB.out | apply bA | apply bN | apply bD | refine bS ?_ ‹_›) | exact HB.out)) hb)
       have n11_ := aM (hbox)
       have n12_ := aM ((by rw [hg]; exact (below_size (by repeat (first | (with_reducible first | exact HB.out | apply bA | apply bN | apply bD | refine bS ?_ ‹_›) | exact HB.out))) : w.heap.size ≤ gb282))
       have n13_ := aM ((by rw [hg]; exact (below_size (by repeat (first | (with_reducible first | exact HB.out | apply bA | apply bN | apply bD | refine bS ?_ ‹_›) | exact HB.out))) : w.heap.size ≤ gb282))
       have n14_ := aM ((by rw [hg]; exact Nat.ne_of_lt (blk_lt (uB BK257.out)) : gb257 ≠ gb282))
       have n15_ := aM ((by rw [hg]; exact Nat.ne_of_gt (blk_lt (uB BK257.out)) : gb282 ≠ gb257))
       have n16_ := aM ((by rw [hg]; exact Nat.ne_of_lt (blk_lt (uB BK258.out)) : gb258 ≠ gb282))
       have n17_ := aM ((by rw [hg]; exact Nat.ne_of_gt (blk_lt (uB BK258.out)) : gb282 ≠ gb258))
       have n18_ := aM ((by rw [hg]; exact Nat.ne_of_lt (blk_lt (uB BK259.out)) : gb259 ≠ gb282))
       have n19_ := aM ((by rw [hg]; exact Nat.ne_of_gt (blk_lt (uB BK259.out)) : gb282 ≠ gb259))
       have n20_ := aM ((by rw [hg]; exact Nat.ne_of_lt (blk_lt (g := gb264) (o := mapO ek70 (Value.int .i64) x265000_3) (uB BK264.out)) : gb264 ≠ gb282))
       have n21_ := aM ((by rw [hg]; exact Nat.ne_of_gt (blk_lt (g := gb264) (o := mapO ek70 (Value.int .i64) x265000_3) (uB BK264.out)) : gb282 ≠ gb264))
       have n22_ := aM ((by rw [hg]; exact Nat.ne_of_lt (blk_lt (uB BK266.out)) : gb266 ≠ gb282))
       have n23_ := aM ((by rw [hg]; exact Nat.ne_of_gt (blk_lt (uB BK266.out)) : gb282 ≠ gb266))
       have n24_ := aM ((by rw [hg]; exact Nat.ne_of_lt (blk_lt (uB BK268.out)) : gb268 ≠ gb282))
       have n25_ := aM ((by rw [hg]; exact Nat.ne_of_gt (blk_lt (uB BK268.out)) : gb282 ≠ gb268))
       clear HO_9
       clear HO_14
       clear HO_267002
       clear HO_267003
       clear BK257
       clear BK258
       clear BK259
       clear BK264
       clear BK266
       clear BK268
       clear HB
       have HO_9 := n0_
       have HO_14 := n1_
       have HO_267002 := n2_
       have HO_267003 := n3_
       have BK257 := n4_
       have BK258 := n5_
       have BK259 := n6_
       have BK264 := n7_
       have BK266 := n8_
       have BK268 := n9_
       have HB := n10_
       have BK282 := n11_
       have GW282 := n12_
       have GE282 := n13_
       have NB257_282 := n14_
       have NB282_257 := n15_
       have NB258_282 := n16_
       have NB282_258 := n17_
       have NB259_282 := n18_
       have NB282_259 := n19_
       have NB264_282 := n20_
       have NB282_264 := n21_
       have NB266_282 := n22_
       have NB282_266 := n23_
       have NB268_282 := n24_
       have NB282_268 := n25_
       clear n0_ n1_ n2_ n3_ n4_ n5_ n6_ n7_ n8_ n9_ n10_ n11_ n12_ n13_ n14_ n15_ n16_ n17_ n18_ n19_ n20_ n21_ n22_ n23_ n24_ n25_
       clear hb hbox hg
       refine hK.out _ _ ⟨(blk_cell BK257.out 0).trans rfl, (blk_cell BK257.out 1).trans rfl, (blk_cell BK257.out 2).trans rfl, (blk_cell BK257.out 3).trans rfl, (blk_cell BK268.out 0).trans rfl, (blk_cell BK268.out 1).trans rfl, (blk_cell BK258.out 0).trans rfl, (blk_cell BK258.out 1).trans rfl, (blk_cell BK258.out 2).trans rfl, (blk_cell BK258.out 3).trans rfl, ((HB.out.cell (World.block_lt_of_cell? w _ hw278_0)).trans hw278_0), ((HB.out.cell (World.block_lt_of_cell? w _ hw279_0)).trans hw279_0), ((HB.out.cell (World.block_lt_of_cell? w _ hw280_0)).trans hw280_0), ((HB.out.cell (World.block_lt_of_cell? w _ hw281_0)).trans hw281_0)⟩ (fun hHeld => ?_)
       clear hK K
       refine norm_ (a' := ?_) ?_ ?_
       rotate_left
       (focus
       show Act.put _ (some 16) _ = _
       simp only [Act.put, sA, sB, sC, i64_w, i32_w]
       rfl
       )
       refine one_ (i := 20) (N := none) #[true, true, true, true, true, true, true, true, true, true, true, true, true, true, true, true, true, true, true, true, true] rfl rfl (one_of HT_.out (by kernel_rfl)) (by decide) (fun K hK => ?_)
       have hs113 : w112.cell? ⟨gb282, 0, none⟩ = some (.int .i64 0) := (blk_cell BK282.out 0).trans rfl
       have hfs113 := blk_frozen BK282.out 0
       have hns113_0 := NB257_282.out
       have hns113_1 := NB258_282.out
       have hns113_2 := NB259_282.out
       have hns113_3 := NB264_282.out
       have hns113_4 := NB266_282.out
       have hns113_5 := NB268_282.out
       have hms113_0 := NB282_257.out
       have hms113_1 := NB282_258.out
       have hms113_2 := NB282_259.out
       have hms113_3 := NB282_264.out
       have hms113_4 := NB282_266.out
       have hms113_5 := NB282_268.out
       have hs114 : w112.cell? ⟨gb282, 1, none⟩ = some (.int .i64 0) := (blk_cell BK282.out 1).trans rfl
       have hfs114 := blk_frozen BK282.out 1
       have hns114_0 := NB257_282.out
       have hns114_1 := NB258_282.out
       have hns114_2 := NB259_282.out
       have hns114_3 := NB264_282.out
       have hns114_4 := NB266_282.out
       have hns114_5 := NB268_282.out
       have hms114_0 := NB282_257.out
       have hms114_1 := NB282_258.out
       have hms114_2 := NB282_259.out
       have hms114_3 := NB282_264.out
       have hms114_4 := NB282_266.out
       have hms114_5 := NB282_268.out
       refine skip_ (w1 := ?_) (by rfl) rfl ?_ ?_
       rotate_left
       (focus
       go_simp
       rfl
       )
       refine hK.out _ _ ⟨((cell_far (p := ⟨gb282, _, none⟩) NB257_282.out _).trans (((cell_far (p := ⟨gb282, _, none⟩) NB257_282.out _).trans (hHeld.1)))), ((cell_far (p := ⟨gb282, _, none⟩) NB257_282.out _).trans (((cell_far (p := ⟨gb282, _, none⟩) NB257_282.out _).trans (hHeld.2.1)))), ((cell_far (p := ⟨gb282, _, none⟩) NB257_282.out _).trans (((cell_far (p := ⟨gb282, _, none⟩) NB257_282.out _).trans (hHeld.2.2.1)))), ((cell_far (p := ⟨gb282, _, none⟩) NB257_282.out _).trans (((cell_far (p := ⟨gb282, _, none⟩) NB257_282.out _).trans (hHeld.2.2.2.1)))), ((cell_far (p := ⟨gb282, _, none⟩) NB268_282.out _).trans (((cell_far (p := ⟨gb282, _, none⟩) NB268_282.out _).trans (hHeld.2.2.2.2.1)))), ((cell_far (p := ⟨gb282, _, none⟩) NB268_282.out _).trans (((cell_far (p := ⟨gb282, _, none⟩) NB268_282.out _).trans (hHeld.2.2.2.2.2.1)))), ((cell_far (p := ⟨gb282, _, none⟩) NB258_282.out _).trans (((cell_far (p := ⟨gb282, _, none⟩) NB258_282.out _).trans (hHeld.2.2.2.2.2.2.1)))), ((cell_far (p := ⟨gb282, _, none⟩) NB258_282.out _).trans (((cell_far (p := ⟨gb282, _, none⟩) NB258_282.out _).trans (hHeld.2.2.2.2.2.2.2.1)))), ((cell_far (p := ⟨gb282, _, none⟩) NB258_282.out _).trans (((cell_far (p := ⟨gb282, _, none⟩) NB258_282.out _).trans (hHeld.2.2.2.2.2.2.2.2.1)))), ((cell_far (p := ⟨gb282, _, none⟩) NB258_282.out _).trans (((cell_far (p := ⟨gb282, _, none⟩) NB258_282.out _).trans (hHeld.2.2.2.2.2.2.2.2.2.1)))), ((cell_far (p := ⟨gb282, _, none⟩) (by first | exact nl1 hw278_0 GW282.out | exact nl2 hw278_0 GW282.out | exact nl3 hw278_0 GW282.out | (dsimp only; exact Nat.ne_of_lt (Nat.lt_of_lt_of_le (by have := World.block_lt_of_cell? _ _ hw278_0; first | rwa [add_block] at this | exact this) GW282.out))) _).trans (((cell_far (p := ⟨gb282, _, none⟩) (by first | exact nl1 hw278_0 GW282.out | exact nl2 hw278_0 GW282.out | exact nl3 hw278_0 GW282.out | (dsimp only; exact Nat.ne_of_lt (Nat.lt_of_lt_of_le (by have := World.block_lt_of_cell? _ _ hw278_0; first | rwa [add_block] at this | exact this) GW282.out))) _).trans (hHeld.2.2.2.2.2.2.2.2.2.2.1)))), ((cell_far (p := ⟨gb282, _, none⟩) (by first | exact nl1 hw279_0 GW282.out | exact nl2 hw279_0 GW282.out | exact nl3 hw279_0 GW282.out | (dsimp only; exact Nat.ne_of_lt (Nat.lt_of_lt_of_le (by have := World.block_lt_of_cell? _ _ hw279_0; first | rwa [add_block] at this | exact this) GW282.out))) _).trans (((cell_far (p := ⟨gb282, _, none⟩) (by first | exact nl1 hw279_0 GW282.out | exact nl2 hw279_0 GW282.out | exact nl3 hw279_0 GW282.out | (dsimp only; exact Nat.ne_of_lt (Nat.lt_of_lt_of_le (by have := World.block_lt_of_cell? _ _ hw279_0; first | rwa [add_block] at this | exact this) GW282.out))) _).trans (hHeld.2.2.2.2.2.2.2.2.2.2.2.1)))), ((cell_far (p := ⟨gb282, _, none⟩) (by first | exact nl1 hw280_0 GW282.out | exact nl2 hw280_0 GW282.out | exact nl3 hw280_0 GW282.out | (dsimp only; exact Nat.ne_of_lt (Nat.lt_of_lt_of_le (by have := World.block_lt_of_cell? _ _ hw280_0; first | rwa [add_block] at this | exact this) GW282.out))) _).trans (((cell_far (p := ⟨gb282, _, none⟩) (by first | exact nl1 hw280_0 GW282.out | exact nl2 hw280_0 GW282.out | exact nl3 hw280_0 GW282.out | (dsimp only; exact Nat.ne_of_lt (Nat.lt_of_lt_of_le (by have := World.block_lt_of_cell? _ _ hw280_0; first | rwa [add_block] at this | exact this) GW282.out))) _).trans (hHeld.2.2.2.2.2.2.2.2.2.2.2.2.1)))), ((cell_far (p := ⟨gb282, _, none⟩) (by first | exact nl1 hw281_0 GW282.out | exact nl2 hw281_0 GW282.out | exact nl3 hw281_0 GW282.out | (dsimp only; exact Nat.ne_of_lt (Nat.lt_of_lt_of_le (by have := World.block_lt_of_cell? _ _ hw281_0; first | rwa [add_block] at this | exact this) GW282.out))) _).trans (((cell_far (p := ⟨gb282, _, none⟩) (by first | exact nl1 hw281_0 GW282.out | exact nl2 hw281_0 GW282.out | exact nl3 hw281_0 GW282.out | (dsimp only; exact Nat.ne_of_lt (Nat.lt_of_lt_of_le (by have := World.block_lt_of_cell? _ _ hw281_0; first | rwa [add_block] at this | exact this) GW282.out))) _).trans (hHeld.2.2.2.2.2.2.2.2.2.2.2.2.2))))⟩ (fun hHeld => ?_)
       clear hK K
       refine done_ (done_of HT_.out (by kernel_rfl)) ?_
       have hnb115 := NB282_257.out
       have hnc115 := NB257_282.out
       have hnb116 := NB282_258.out
       have hnc116 := NB258_282.out
       have hnb117 := NB282_259.out
       have hnc117 := NB259_282.out
       have hnb118 := NB282_264.out
       have hnc118 := NB264_282.out
       have hnb119 := NB282_266.out
       have hnc119 := NB266_282.out
       have hnb120 := NB282_268.out
       have hnc120 := NB268_282.out
       have hcz121_0 : w112.cell? ⟨gb282, 0, none⟩ = some (.int .i64 0) := (blk_cell BK282.out 0).trans rfl
       have hcz121_1 : w112.cell? ⟨gb282, 1, none⟩ = some (.int .i64 0) := (blk_cell BK282.out 1).trans rfl
       have hfz121_0 := blk_frozen BK282.out 0
       have hfz121_1 := blk_frozen BK282.out 1
       obtain ⟨Ao122, co122, eo122⟩ := Kd.R_slice HO_9.out
       subst eo122
       try go_wp2_with (first | ((with_reducible refine gate_dst (N := 87) rfl ?_); at_lookup; refine wp_lookOk rfl _ _ _ rfl 70 3 keyOk70 Try.underlying72 gb264 x265000_3 (show _ = some (mapO ek70 (Value.int .i64) x265000_3) from by (with_reducible repeat (first | refine kN ?_ | refine kD ?_ | refine kA ?_)); refine blkF ?_ NB264_282.out _; (with_reducible repeat (first | refine kN ?_ | refine kD ?_ | refine kA ?_)); refine blkF ?_ NB264_282.out _; (with_reducible repeat (first | refine kN ?_ | refine kD ?_ | refine kA ?_)); exact BK264.out) rfl (⟨rd (rd_L1 l0_3 ((rd_T70 x9_2 x12_2).f0)) x15_3, rd (rd_L1 l1_3 ((rd_T70 x9_2 x12_2).f1)) x15_3⟩ : S70) rfl 0 (zv3 _) ?_) | (at_mapUpdate; refine wp_putM rfl _ _ _ 72 (.inl rfl) 70 3 keyOk70 Try.underlying72 gb264 x265000_3 (show _ = some (mapO ek70 (Value.int .i64) x265000_3) from by (with_reducible repeat (first | refine kN ?_ | refine kD ?_ | refine kA ?_)); refine blkF ?_ NB264_282.out _; (with_reducible repeat (first | refine kN ?_ | refine kD ?_ | refine kA ?_)); refine blkF ?_ NB264_282.out _; (with_reducible repeat (first | refine kN ?_ | refine kD ?_ | refine kA ?_)); exact BK264.out) rfl (⟨rd (rd_L1 l0_3 ((rd_T70 x9_2 x12_2).f0)) x15_3, rd (rd_L1 l1_3 ((rd_T70 x9_2 x12_2).f1)) x15_3⟩ : S70) rfl (x9_3.length : Int) rfl ?_; intro w123 hbox hg; rw [← Ny286.out] at hbox; have n0_ := aM (R_overM (uR ((Kd.R_mono (Kd.R_far (p := ⟨gb282, 1, none⟩) (Kd.R_far (p := ⟨gb282, 0, none⟩) (Kd.R_mono HO_9.out (fun k_ hk => (⟨hk, hk.2⟩ : _ ∧ k_ ≠ gb282))) (fun _ hk => hk.2) (.int .i64 (rd (rd_L1 l0_3 ((rd_T70 x9_2 x12_2).f0)) x15_3))) (fun _ hk => hk.2) (.int .i64 (rd (rd_L1 l1_3 ((rd_T70 x9_2 x12_2).f1)) x15_3))) (fun _ h_ => h_.1)))) (show _ = some (mapO ek70 (Value.int .i64) x265000_3) from by (with_reducible repeat (first | refine kN ?_ | refine kD ?_ | refine kA ?_)); refine blkF ?_ NB264_282.out _; (with_reducible repeat (first | refine kN ?_ | refine kD ?_ | refine kA ?_)); refine blkF ?_ NB264_282.out _; (with_reducible repeat (first | refine kN ?_ | refine kD ?_ | refine kA ?_)); exact BK264.out) hg); have n1_ := aM (R_overM (uR ((Kd.R_mono (Kd.R_far (p := ⟨gb282, 1, none⟩) (Kd.R_far (p := ⟨gb282, 0, none⟩) (Kd.R_types HO_14.out BK282.out (by decide)) (fun _ hk => hk.2) (.int .i64 (rd (rd_L1 l0_3 ((rd_T70 x9_2 x12_2).f0)) x15_3))) (fun _ hk => hk.2) (.int .i64 (rd (rd_L1 l1_3 ((rd_T70 x9_2 x12_2).f1)) x15_3))) (fun _ h_ => h_.1)))) (show _ = some (mapO ek70 (Value.int .i64) x265000_3) from by (with_reducible repeat (first | refine kN ?_ | refine kD ?_ | refine kA ?_)); refine blkF ?_ NB264_282.out _; (with_reducible repeat (first | refine kN ?_ | refine kD ?_ | refine kA ?_)); refine blkF ?_ NB264_282.out _; (with_reducible repeat (first | refine kN ?_ | refine kD ?_ | refine kA ?_)); exact BK264.out) hg); have n2_ := aM (R_overM (uR ((Kd.R_mono (Kd.R_far (p := ⟨gb282, 1, none⟩) (Kd.R_far (p := ⟨gb282, 0, none⟩) (Kd.R_types HO_267002.out BK282.out (by decide)) (fun _ hk => hk.2) (.int .i64 (rd (rd_L1 l0_3 ((rd_T70 x9_2 x12_2).f0)) x15_3))) (fun _ hk => hk.2) (.int .i64 (rd (rd_L1 l1_3 ((rd_T70 x9_2 x12_2).f1)) x15_3))) (fun _ h_ => h_.1)))) (show _ = some (mapO ek70 (Value.int .i64) x265000_3) from by (with_reducible repeat (first | refine kN ?_ | refine kD ?_ | refine kA ?_)); refine blkF ?_ NB264_282.out _; (with_reducible repeat (first | refine kN ?_ | refine kD ?_ | refine kA ?_)); refine blkF ?_ NB264_282.out _; (with_reducible repeat (first | refine kN ?_ | refine kD ?_ | refine kA ?_)); exact BK264.out) hg); have n3_ := aM (S_overM (by (with_reducible repeat (first | apply Kd.S_alloc | apply Kd.S_drewN | apply Kd.S_drew)); exact (Kd.S_mono (Kd.S_far (p := ⟨gb282, 1, none⟩) (Kd.S_far (p := ⟨gb282, 0, none⟩) (Kd.S_types HO_267003.out BK282.out (by decide)) (fun _ hk => hk.2) (.int .i64 (rd (rd_L1 l0_3 ((rd_T70 x9_2 x12_2).f0)) x15_3))) (fun _ hk => hk.2) (.int .i64 (rd (rd_L1 l1_3 ((rd_T70 x9_2 x12_2).f1)) x15_3))) (fun _ h_ => h_.1))) (show _ = some (mapO ek70 (Value.int .i64) x265000_3) from by (with_reducible repeat (first | refine kN ?_ | refine kD ?_ | refine kA ?_)); refine blkF ?_ NB264_282.out _; (with_reducible repeat (first | refine kN ?_ | refine kD ?_ | refine kA ?_)); refine blkF ?_ NB264_282.out _; (with_reducible repeat (first | refine kN ?_ | refine kD ?_ | refine kA ?_)); exact BK264.out) hg); have n4_ := aM (blk_grown (g := gb257) (o := .cells #[.int .i64 a0_0, .int .i64 a0_1, .slice A0_2 l0_2.length c0_2, .slice (some ad278) l0_3.length c0_3] 25 (0, 0)) (by (with_reducible repeat (first | refine kN ?_ | refine kD ?_ | refine kA ?_ | refine blk_far ?_ NB257_282.out _)); exact BK257.out) hg (fun e_ => NB257_264.out (Option.some.inj e_))); have n5_ := aM (blk_grown (g := gb258) (o := .cells #[.int .i64 a1_0, .int .i64 a1_1, .slice A1_2 l1_2.length c1_2, .slice (some ad280) l1_3.length c1_3] 25 (0, 0)) (by (with_reducible repeat (first | refine kN ?_ | refine kD ?_ | refine kA ?_ | refine blk_far ?_ NB258_282.out _)); exact BK258.out) hg (fun e_ => NB258_264.out (Option.some.inj e_))); have n6_ := aM (blk_grown (g := gb259) (o := .cells #[.int .i64 x260000_3, .int .i64 x260001_3, .slice none 0 0, .slice none 0 0] 25 (0, 0)) (by (with_reducible repeat (first | refine kN ?_ | refine kD ?_ | refine kA ?_ | refine blk_far ?_ NB259_282.out _)); exact BK259.out) hg (fun e_ => NB259_264.out (Option.some.inj e_))); have n7_ := aM (hbox); have n8_ := aM (blk_grown (g := gb266) (o := .cells #[.int .i64 a0_0, .int .i64 0, u267002, u267003] 25 (0, 0)) (by (with_reducible repeat (first | refine kN ?_ | refine kD ?_ | refine kA ?_ | refine blk_far ?_ NB266_282.out _)); exact BK266.out) hg (fun e_ => NB266_264.out (Option.some.inj e_))); have n9_ := aM (blk_grown (g := gb268) (o := .cells #[.int .i64 ((rd_T70 x9_2 x12_2).f0), .int .i64 ((rd_T70 x9_2 x12_2).f1)] 70 (0, 0)) (by (with_reducible repeat (first | refine kN ?_ | refine kD ?_ | refine kA ?_ | refine blk_far ?_ NB268_282.out _)); exact BK268.out) hg (fun e_ => NB268_264.out (Option.some.inj e_))); have n10_ := aM (blk_grown (g := gb282) (o := .cells #[.int .i64 (rd (rd_L1 l0_3 ((rd_T70 x9_2 x12_2).f0)) x15_3), .int .i64 (rd (rd_L1 l1_3 ((rd_T70 x9_2 x12_2).f1)) x15_3)] 70 (0, 0)) (by (with_reducible repeat (first | refine kN ?_ | refine kD ?_ | refine kA ?_)); refine blk_put (cs := #[.int .i64 (rd (rd_L1 l0_3 ((rd_T70 x9_2 x12_2).f0)) x15_3), .int .i64 0]) ?_ 1 _ rfl; (with_reducible repeat (first | refine kN ?_ | refine kD ?_ | refine kA ?_)); refine blk_put (cs := #[.int .i64 0, .int .i64 0]) ?_ 0 _ rfl; (with_reducible repeat (first | refine kN ?_ | refine kD ?_ | refine kA ?_)); exact BK282.out) hg (fun e_ => NB282_264.out (Option.some.inj e_))); have n11_ := aM (below_mapO (by repeat (first | (with_reducible first | exact HB.out | apply bA | apply bN | apply bD | refine bS ?_ ‹_›) | exact HB.out)) (below_size (by repeat (first | (with_reducible first | exact HB.out | apply bA | apply bN | apply bD | refine bS ?_ ‹_›) | exact HB.out))) GE264.out hg); clear HO_9; clear HO_14; clear HO_267002; clear HO_267003; clear BK257; clear BK258; clear BK259; clear BK264; clear BK266; clear BK268; clear BK282; clear HB; have HO_9 := n0_; have HO_14 := n1_; have HO_267002 := n2_; have HO_267003 := n3_; have BK257 := n4_; have BK258 := n5_; have BK259 := n6_; have BK264 := n7_; have BK266 := n8_; have BK268 := n9_; have BK282 := n10_; have HB := n11_; clear n0_ n1_ n2_ n3_ n4_ n5_ n6_ n7_ n8_ n9_ n10_ n11_; clear hbox hg; have hcz124_0 : w123.cell? ⟨gb282, 0, none⟩ = some (.int .i64 (rd (rd_L1 l0_3 ((rd_T70 x9_2 x12_2).f0)) x15_3)) := (blk_cell BK282.out 0).trans rfl; have hcz124_1 : w123.cell? ⟨gb282, 1, none⟩ = some (.int .i64 (rd (rd_L1 l1_3 ((rd_T70 x9_2 x12_2).f1)) x15_3)) := (blk_cell BK282.out 1).trans rfl; have hfz124_0 := blk_frozen BK282.out 0; have hfz124_1 := blk_frozen BK282.out 1) | ((with_reducible refine gate_builtin (b := .append) (xs := #[.tmp 101, .tmp 103]) rfl ?_); at_builtin; refine Kd.R_append k70 (w0 := w) w.heap.size rfl (.tmp 101) (.tmp 103) 71 70 (.agg #[(.int .i64 0), (.int .i64 0)]) 16 rfl Try.underlying71 info70 rfl (by decide) (by omega) (.slice Ao122 x9_3.length co122) x9_3 (⟨rd (rd_L1 l0_3 ((rd_T70 x9_2 x12_2).f0)) x15_3, rd (rd_L1 l1_3 ((rd_T70 x9_2 x12_2).f1)) x15_3⟩ : S70) [.int .i64 (rd (rd_L1 l0_3 ((rd_T70 x9_2 x12_2).f0)) x15_3), .int .i64 (rd (rd_L1 l1_3 ((rd_T70 x9_2 x12_2).f1)) x15_3)] (fun k_ => k_ ≠ gb268 ∧ k_ ≠ gb282) (fun _ => False) rfl rfl ?aP (fun _ hk => hk.elim) ?aF ?aO ?aB ?aS ?aL ?_; (case aP => exact k70_mkM _ _ _ (⟨rd (rd_L1 l0_3 ((rd_T70 x9_2 x12_2).f0)) x15_3, rd (rd_L1 l1_3 ((rd_T70 x9_2 x12_2).f1)) x15_3⟩ : S70)); (case aB => exact (by repeat (first | (with_reducible first | exact HB.out | apply bA | apply bN | apply bD | refine bS ?_ ‹_›) | exact HB.out))); (case aF => exact (fun k_ hk => ⟨Kd.freshB (uB BK268.out) k_ hk, Kd.freshB (uB BK282.out) k_ hk⟩)); (case aO => exact (uR HO_9.out)); (case aS => exact (below_size (by repeat (first | (with_reducible first | exact HB.out | apply bA | apply bN | apply bD | refine bS ?_ ‹_›) | exact HB.out)))); (case aL => have := LMc103.out; omega); intro v288 w125 ho hb hg hat; rw [← Ny287.out] at ho; have n0_ := aM (Kd.R_over' (uR HO_14.out) (Kd.R_typed (uR HO_9.out)) (by decide) hg); have n1_ := aM (Kd.R_over' (uR HO_267002.out) (Kd.R_typed (uR HO_9.out)) (by decide) hg); have n2_ := aM (Kd.S_over' (by (with_reducible repeat (first | apply Kd.S_alloc | apply Kd.S_drewN | apply Kd.S_drew)); exact HO_267003.out) (Kd.R_typed (uR HO_9.out)) (by decide) hg); have n3_ := aM (blk_grown (uB BK257.out) hg (Kd.R_ne HO_9.out BK257.out (by decide))); have n4_ := aM (blk_grown (uB BK258.out) hg (Kd.R_ne HO_9.out BK258.out (by decide))); have n5_ := aM (blk_grown (uB BK259.out) hg (Kd.R_ne HO_9.out BK259.out (by decide))); have n6_ := aM (blk_grown (g := gb264) (o := mapO ek70 (Value.int .i64) y286) (uB BK264.out) hg (R_neM HO_9.out BK264.out)); have n7_ := aM (blk_grown (uB BK266.out) hg (Kd.R_ne HO_9.out BK266.out (by decide))); have n8_ := aM (blk_grown (uB BK268.out) hg (Kd.R_away HO_9.out (fun _ hk => hk.1))); have n9_ := aM (blk_grown (uB BK282.out) hg (Kd.R_away HO_9.out (fun _ hk => hk.2))); have n10_ := aM (hb); have n11_ := aM (ho); clear HO_14; clear HO_267002; clear HO_267003; clear BK257; clear BK258; clear BK259; clear BK264; clear BK266; clear BK268; clear BK282; clear HB; clear HO_9; have HO_14 := n0_; have HO_267002 := n1_; have HO_267003 := n2_; have BK257 := n3_; have BK258 := n4_; have BK259 := n5_; have BK264 := n6_; have BK266 := n7_; have BK268 := n8_; have BK282 := n9_; have HB := n10_; have HO289 := n11_; clear n0_ n1_ n2_ n3_ n4_ n5_ n6_ n7_ n8_ n9_ n10_ n11_; clear ho hb hg hat) | ((with_reducible refine gate_builtin (b := .append) (xs := #[.tmp 105, .tmp 107]) rfl ?_); at_builtin; refine Kd.R_append (Kd.int .i64) (w0 := w) w.heap.size rfl (.tmp 105) (.tmp 107) 38 3 (.int .i64 0) 8 rfl Try.underlying38 info3 rfl (by decide) (by omega) u14 x14_3 (x9_3.length : Int) [.int .i64 (x9_3.length : Int)] (fun _ => True) (fun _ => False) rfl rfl ?aP (fun _ hk => hk.elim) ?aF ?aO ?aB ?aS ?aL ?_; (case aP => exact rfl); (case aB => exact (by repeat (first | (with_reducible first | exact HB.out | apply bA | apply bN | apply bD | refine bS ?_ ‹_›) | exact HB.out))); (case aF => exact (fun _ _ => trivial)); (case aO => exact (uR HO_14.out)); (case aS => exact (below_size (by repeat (first | (with_reducible first | exact HB.out | apply bA | apply bN | apply bD | refine bS ?_ ‹_›) | exact HB.out)))); (case aL => have := LMc104.out; omega); intro v291 w126 ho hb hg hat; rw [← Ny290.out] at ho; have n0_ := aM (Kd.R_over' (uR HO_267002.out) (Kd.R_typed (uR HO_14.out)) (by decide) hg); have n1_ := aM (Kd.S_after (ok := (fun _ => True)) (by (with_reducible repeat (first | apply Kd.S_alloc | apply Kd.S_drewN | apply Kd.S_drew)); exact Kd.S_mono HO_267003.out (fun _ hk => ⟨trivial, hk⟩)) hg hat); have n2_ := aM (blk_grown (uB BK257.out) hg (Kd.R_ne HO_14.out BK257.out (by decide))); have n3_ := aM (blk_grown (uB BK258.out) hg (Kd.R_ne HO_14.out BK258.out (by decide))); have n4_ := aM (blk_grown (uB BK259.out) hg (Kd.R_ne HO_14.out BK259.out (by decide))); have n5_ := aM (blk_grown (g := gb264) (o := mapO ek70 (Value.int .i64) y286) (uB BK264.out) hg (R_neM HO_14.out BK264.out)); have n6_ := aM (blk_grown (uB BK266.out) hg (Kd.R_ne HO_14.out BK266.out (by decide))); have n7_ := aM (blk_grown (uB BK268.out) hg (Kd.R_ne HO_14.out BK268.out (by decide))); have n8_ := aM (blk_grown (uB BK282.out) hg (Kd.R_ne HO_14.out BK282.out (by decide))); have n9_ := aM (Kd.R_over' (uR HO289.out) (Kd.R_typed (uR HO_14.out)) (by decide) hg); have n10_ := aM (hb); have n11_ := aM (ho); clear HO_267002; clear HO_267003; clear BK257; clear BK258; clear BK259; clear BK264; clear BK266; clear BK268; clear BK282; clear HO289; clear HB; clear HO_14; have HO_267002 := n0_; have HO_267003 := n1_; have BK257 := n2_; have BK258 := n3_; have BK259 := n4_; have BK264 := n5_; have BK266 := n6_; have BK268 := n7_; have BK282 := n8_; have HO289 := n9_; have HB := n10_; have HO292 := n11_; clear n0_ n1_ n2_ n3_ n4_ n5_ n6_ n7_ n8_ n9_ n10_ n11_; clear ho hb hg hat))
       go_roundg k3
       case measure => have := HJ5.out; have := HK2.out; have := HK3.out; omega
       case rel => exact ⟨(y287), (y290), (wrap64 (x15_3 + 1)), (x260000_3), (x260001_3), (y286), (by first | rfl | (simp; done) | (simp [*]; done)), H', ⟨by have := HJ5.out; have := HK2.out; have := HK3.out; omega⟩, ⟨by (with_reducible repeat (first | apply Kd.R_alloc | apply Kd.R_drewN | apply Kd.R_drew)); exact Kd.R_mono HO289.out (fun _ hk => hk.1)⟩, ⟨by (with_reducible repeat (first | apply Kd.R_alloc | apply Kd.R_drewN | apply Kd.R_drew)); exact HO292.out⟩, ⟨by (with_reducible repeat (first | apply Kd.R_alloc | apply Kd.R_drewN | apply Kd.R_drew)); exact HO_267002.out⟩, ⟨by (with_reducible repeat (first | apply Kd.S_alloc | apply Kd.S_drewN | apply Kd.S_drew)); exact Kd.S_mono HO_267003.out (fun _ hk => hk.2)⟩, ⟨by (with_reducible repeat (first | refine kN ?_ | refine kD ?_ | refine kA ?_)); exact BK257.out⟩, ⟨by (with_reducible repeat (first | refine kN ?_ | refine kD ?_ | refine kA ?_)); exact BK258.out⟩, ⟨by (with_reducible repeat (first | refine kN ?_ | refine kD ?_ | refine kA ?_)); exact BK259.out⟩, ⟨by (with_reducible repeat (first | refine kN ?_ | refine kD ?_ | refine kA ?_)); exact BK264.out⟩, ⟨by (with_reducible repeat (first | refine kN ?_ | refine kD ?_ | refine kA ?_)); exact BK266.out⟩, ⟨by (with_reducible repeat (first | refine kN ?_ | refine kD ?_ | refine kA ?_)); exact BK268.out⟩, ⟨by repeat (first | (with_reducible first | exact HB.out | apply bA | apply bN | apply bD | refine bS ?_ ‹_›) | exact HB.out)⟩⟩
       )
       (focus
       rw [if_neg c104] at H
       exact absurd H (by simp)
       )
       )
       (focus
       rw [if_neg c103] at H
       exact absurd H (by simp)
       )
       )
       )
       )
       (focus
       rw [if_neg c58] at H
       exact absurd H (by simp)
       )
       )
       (focus
       rw [if_neg c57] at H
       exact absurd H (by simp)
       )
       )
       (focus
       rw [if_neg c56] at H
       exact absurd H (by simp)
       )
       )
       (focus
       rw [if_neg c55] at H
       exact absurd H (by simp)
       )
       )
       (focus
       rw [if_neg c54] at H
       exact absurd H (by simp)
       )
       )
       (focus
       rw [if_neg c53] at H
       exact absurd H (by simp)
       )
       )
       (focus
       rw [if_neg c52] at H
       exact absurd H (by simp)
       )
       )
       (focus
       rw [if_neg c51] at H
       have c51b0 : decide (x15_3 < a0_0) = false := decide_eq_false c51
       clear c51
       by_cases c127 : x267003_2.length < 5864062014805
       (focus
       rw [if_pos c127] at H
       have LMc127 := Aside0.mk c127
       clear c127
       obtain ⟨y269, hy269⟩ : ∃ y_ : List (List Int), y_ = (x267003_2 ++ [x14_3]) := ⟨_, rfl⟩
       replace H : (if 0 ≤ ((rd_T70 x9_2 x12_2).f0) then (if ((rd_T70 x9_2 x12_2).f0) < (l0_2.length : Int) then (if 0 ≤ ((rd_T70 x9_2 x12_2).f1) then (if ((rd_T70 x9_2 x12_2).f1) < (l1_2.length : Int) then ((semigroupref07_By.f a2 (rdOf false l0_2 ((rd_T70 x9_2 x12_2).f0)) (rdOf false l1_2 ((rd_T70 x9_2 x12_2).f1))).bind fun t274 => (if x267002_2.length < 140737488355328 then (semigroupref07_Product.l0 k3 a2 x9_3 (wrap64 (x12_2 + 1)) a0_0 a0_1 l0_2 l0_3 a1_0 a1_1 l1_2 l1_3 x265000_3 a0_0 0 (x267002_2 ++ [t274]) y269) else (none))) else (none)) else (none)) else (none)) else (none)) = some (r1, r2, r3, r4, r5) := by first | (rw [hy269]; with_reducible exact H) | (have H2_ := (Option.bind_some _ _).symm.trans H; rw [hy269]; with_reducible exact H2_) | (have H2_ := (Option.bind_some _ _).symm.trans H; with_reducible exact H2_) | with_reducible exact H | (rw [hy269]; exact H) | exact H
       have Ny269 := Aside0.mk hy269
       clear hy269
       by_cases c128 : 0 ≤ ((rd_T70 x9_2 x12_2).f0)
       (focus
       rw [if_pos c128] at H
       have c128b0 : decide (0 ≤ ((rd_T70 x9_2 x12_2).f0)) = true := decide_eq_true c128
       clear c128
       by_cases c129 : ((rd_T70 x9_2 x12_2).f0) < (l0_2.length : Int)
       (focus
       rw [if_pos c129] at H
       have c129b0 : decide (((rd_T70 x9_2 x12_2).f0) < (l0_2.length : Int)) = true := decide_eq_true c129
       clear c129
       by_cases c130 : 0 ≤ ((rd_T70 x9_2 x12_2).f1)
       (focus
       rw [if_pos c130] at H
       have c130b0 : decide (0 ≤ ((rd_T70 x9_2 x12_2).f1)) = true := decide_eq_true c130
       clear c130
       by_cases c131 : ((rd_T70 x9_2 x12_2).f1) < (l1_2.length : Int)
       (focus
       rw [if_pos c131] at H
       have c131b0 : decide (((rd_T70 x9_2 x12_2).f1) < (l1_2.length : Int)) = true := decide_eq_true c131
       clear c131
       replace H := Option.bind_eq_some_iff.mp H
       obtain ⟨t274, A1320, H⟩ := H
       replace H : (if x267002_2.length < 140737488355328 then (semigroupref07_Product.l0 k3 a2 x9_3 (wrap64 (x12_2 + 1)) a0_0 a0_1 l0_2 l0_3 a1_0 a1_1 l1_2 l1_3 x265000_3 a0_0 0 (x267002_2 ++ [t274]) y269) else (none)) = some (r1, r2, r3, r4, r5) := H
       have A132 := Aside0.mk A1320
       clear A1320
       by_cases c133 : x267002_2.length < 140737488355328
       (focus
       rw [if_pos c133] at H
       have LMc133 := Aside0.mk c133
       clear c133
       obtain ⟨y275, hy275⟩ : ∃ y_ : List Bool, y_ = (x267002_2 ++ [t274]) := ⟨_, rfl⟩
       replace H : (semigroupref07_Product.l0 k3 a2 x9_3 (wrap64 (x12_2 + 1)) a0_0 a0_1 l0_2 l0_3 a1_0 a1_1 l1_2 l1_3 x265000_3 a0_0 0 y275 y269) = some (r1, r2, r3, r4, r5) := by first | (rw [hy275]; with_reducible exact H) | (have H2_ := (Option.bind_some _ _).symm.trans H; rw [hy275]; with_reducible exact H2_) | (have H2_ := (Option.bind_some _ _).symm.trans H; with_reducible exact H2_) | with_reducible exact H | (rw [hy275]; exact H) | exact H
       have Ny275 := Aside0.mk hy275
       clear hy275
       have H' := Aside0.mk H
       clear H
       have hnb134 := NB257_258.out
       have hnc134 := NB258_257.out
       have hnb135 := NB257_259.out
       have hnc135 := NB259_257.out
       have hnb136 := NB257_264.out
       have hnc136 := NB264_257.out
       have hnb137 := NB257_266.out
       have hnc137 := NB266_257.out
       have hnb138 := NB257_268.out
       have hnc138 := NB268_257.out
       have hcz139_0 : wr.cell? ⟨gb257, 0, none⟩ = some (.int .i64 a0_0) := (blk_cell BK257.out 0).trans rfl
       have hcz139_1 : wr.cell? ⟨gb257, 1, none⟩ = some (.int .i64 a0_1) := (blk_cell BK257.out 1).trans rfl
       have hcz139_2 : wr.cell? ⟨gb257, 2, none⟩ = some (.slice A0_2 l0_2.length c0_2) := (blk_cell BK257.out 2).trans rfl
       have hcz139_3 : wr.cell? ⟨gb257, 3, none⟩ = some (.slice A0_3 l0_3.length c0_3) := (blk_cell BK257.out 3).trans rfl
       have hfz139_0 := blk_frozen BK257.out 0
       have hfz139_1 := blk_frozen BK257.out 1
       have hfz139_2 := blk_frozen BK257.out 2
       have hfz139_3 := blk_frozen BK257.out 3
       try go_wp2
       have n0_ := aM (Kd.R_drew HO_9.out)
       have n1_ := aM (Kd.R_drew HO_14.out)
       have n2_ := aM (Kd.R_drew HO_267002.out)
       have n3_ := aM (Kd.S_drew HO_267003.out)
       have n4_ := aM (blk_drew BK257.out)
       have n5_ := aM (blk_drew BK258.out)
       have n6_ := aM (blk_drew BK259.out)
       have n7_ := aM (blk_drew BK264.out)
       have n8_ := aM (blk_drew BK266.out)
       have n9_ := aM (blk_drew BK268.out)
       have n10_ := aM (below_drew1 HB.out)
       clear HO_9
       clear HO_14
       clear HO_267002
       clear HO_267003
       clear BK257
       clear BK258
       clear BK259
       clear BK264
       clear BK266
       clear BK268
       clear HB
       have HO_9 := n0_
       have HO_14 := n1_
       have HO_267002 := n2_
       have HO_267003 := n3_
       have BK257 := n4_
       have BK258 := n5_
       have BK259 := n6_
       have BK264 := n7_
       have BK266 := n8_
       have BK268 := n9_
       have HB := n10_
       clear n0_ n1_ n2_ n3_ n4_ n5_ n6_ n7_ n8_ n9_ n10_
       have p272 : 0 ≤ (((rd_T70 x9_2 x12_2).f0) : Int) := of_decide_eq_true (by assumption)
       have q272 : ((rd_T70 x9_2 x12_2).f0) < (l0_2.length : Int) := of_decide_eq_true (by assumption)
       obtain ⟨ad272, e272, hx272_0⟩ := Kd.at_bool HR0_2.out ((rd_T70 x9_2 x12_2).f0) p272 q272
       have hw272_0 := hx272_0
       cases e272
       (try replace hx272_0 := (HB.out.cell (World.block_lt_of_cell? w _ hx272_0)).trans hx272_0)
       replace p272 := eq_true p272
       replace q272 := eq_true q272
       have p273 : 0 ≤ (((rd_T70 x9_2 x12_2).f1) : Int) := of_decide_eq_true (by assumption)
       have q273 : ((rd_T70 x9_2 x12_2).f1) < (l1_2.length : Int) := of_decide_eq_true (by assumption)
       obtain ⟨ad273, e273, hx273_0⟩ := Kd.at_bool HR1_2.out ((rd_T70 x9_2 x12_2).f1) p273 q273
       have hw273_0 := hx273_0
       cases e273
       (try replace hx273_0 := (HB.out.cell (World.block_lt_of_cell? w _ hx273_0)).trans hx273_0)
       replace p273 := eq_true p273
       replace q273 := eq_true q273
       obtain ⟨Ao142, co142, eo142⟩ := Kd.R_slice HO_14.out
       (first | subst eo142 | (injection eo142 with f1_ f2_ f3_; have f4_ := f1_.symm; have f5_ := f3_.symm; clear f1_ f2_ f3_; subst f4_; subst f5_))
       refine start_ (n := 27) (S := fun w' => w'.cell? ⟨gb266, 0, none⟩ = some (.int .i64 a0_0) ∧ w'.cell? ⟨gb266, 1, none⟩ = some (.int .i64 0) ∧ w'.cell? ⟨gb266, 2, none⟩ = some (u267002) ∧ w'.cell? ⟨gb266, 3, none⟩ = some (u267003) ∧ w'.cell? ⟨gb257, 0, none⟩ = some (.int .i64 a0_0) ∧ w'.cell? ⟨gb257, 1, none⟩ = some (.int .i64 a0_1) ∧ w'.cell? ⟨gb257, 2, none⟩ = some (.slice (some ad272) l0_2.length c0_2) ∧ w'.cell? ⟨gb257, 3, none⟩ = some (.slice A0_3 l0_3.length c0_3) ∧ w'.cell? ⟨gb268, 0, none⟩ = some (.int .i64 ((rd_T70 x9_2 x12_2).f0)) ∧ w'.cell? ⟨gb268, 1, none⟩ = some (.int .i64 ((rd_T70 x9_2 x12_2).f1)) ∧ w'.cell? ⟨gb258, 0, none⟩ = some (.int .i64 a1_0) ∧ w'.cell? ⟨gb258, 1, none⟩ = some (.int .i64 a1_1) ∧ w'.cell? ⟨gb258, 2, none⟩ = some (.slice (some ad273) l1_2.length c1_2) ∧ w'.cell? ⟨gb258, 3, none⟩ = some (.slice A1_3 l1_3.length c1_3) ∧ w'.cell? (ad272.add (((rd_T70 x9_2 x12_2).f0)).toNat) = some (.bool (rdOf false l0_2 ((rd_T70 x9_2 x12_2).f0))) ∧ w'.cell? (ad273.add (((rd_T70 x9_2 x12_2).f1)).toNat) = some (.bool (rdOf false l1_2 ((rd_T70 x9_2 x12_2).f1)))) (ds := [24, 26]) #[false, false, false, false, false, false, false, false, false, false, false, false, false, false, false, false, false, false, false, false, false, false, false, false, false, false, false] (by kernel_rfl) rfl rfl ⟨(blk_cell BK266.out 0).trans rfl, (blk_cell BK266.out 1).trans rfl, (blk_cell BK266.out 2).trans rfl, (blk_cell BK266.out 3).trans rfl, (blk_cell BK257.out 0).trans rfl, (blk_cell BK257.out 1).trans rfl, (blk_cell BK257.out 2).trans rfl, (blk_cell BK257.out 3).trans rfl, (blk_cell BK268.out 0).trans rfl, (blk_cell BK268.out 1).trans rfl, (blk_cell BK258.out 0).trans rfl, (blk_cell BK258.out 1).trans rfl, (blk_cell BK258.out 2).trans rfl, (blk_cell BK258.out 3).trans rfl, ((HB.out.cell (World.block_lt_of_cell? w _ hw272_0)).trans hw272_0), ((HB.out.cell (World.block_lt_of_cell? w _ hw273_0)).trans hw273_0)⟩ (fun hHeld => ?_); refine with_tabW semigroupref07_Product.tab26 semigroupref07_Product.bits26 (fun HT_ HW_ => ?_)
       generalize wr.drew = w140 at HO_9 HO_14 HO_267002 HO_267003 BK257 BK258 BK259 BK264 BK266 BK268 HB hx272_0 hx273_0 hHeld ⊢
       refine pure_ (i := 0) (N := some 109) (v := ?_) (a' := ?_) #[true, false, false, false, false, false, false, false, false, false, false, false, false, false, false, false, false, false, false, false, false, false, false, false, false, false, false] rfl rfl (any_of HT_.out (by kernel_rfl)) (fun _ _ _ h => h) (Or.inl ⟨by rfl, ?_⟩) ?_ ?_
       rotate_left
       (focus
       intro w'
       go_simp
       with_reducible rfl
       )
       rotate_left
       (focus
       simp only [Act.put, sA, sB, sC, i64_w, i32_w]
       rfl
       )
       refine pure_ (i := 2) (N := some 111) (v := ?_) (a' := ?_) #[true, false, true, false, false, false, false, false, false, false, false, false, false, false, false, false, false, false, false, false, false, false, false, false, false, false, false] rfl rfl (any_of HT_.out (by kernel_rfl)) (fun _ _ _ h => h) (Or.inl ⟨by rfl, ?_⟩) ?_ ?_
       rotate_left
       (focus
       intro w'
       go_simp
       with_reducible rfl
       )
       rotate_left
       (focus
       simp only [Act.put, sA, sB, sC, i64_w, i32_w]
       rfl
       )
       refine pure_ (i := 5) (N := some 114) (v := ?_) (a' := ?_) #[true, false, true, false, false, true, false, false, false, false, false, false, false, false, false, false, false, false, false, false, false, false, false, false, false, false, false] rfl rfl (any_of HT_.out (by kernel_rfl)) (fun _ _ _ h => h) (Or.inl ⟨by rfl, ?_⟩) ?_ ?_
       rotate_left
       (focus
       intro w'
       go_simp
       with_reducible rfl
       )
       rotate_left
       (focus
       simp only [Act.put, sA, sB, sC, i64_w, i32_w]
       rfl
       )
       refine pure_ (i := 7) (N := some 116) (v := ?_) (a' := ?_) #[true, false, true, false, false, true, false, true, false, false, false, false, false, false, false, false, false, false, false, false, false, false, false, false, false, false, false] rfl rfl (any_of HT_.out (by kernel_rfl)) (fun _ _ _ h => h) (Or.inl ⟨by rfl, ?_⟩) ?_ ?_
       rotate_left
       (focus
       intro w'
       go_simp
       with_reducible rfl
       )
       rotate_left
       (focus
       simp only [Act.put, sA, sB, sC, i64_w, i32_w]
       rfl
       )
       refine pure_ (i := 8) (N := some 117) (v := ?_) (a' := ?_) #[true, false, true, false, false, true, false, true, true, false, false, false, false, false, false, false, false, false, false, false, false, false, false, false, false, false, false] rfl rfl (any_of HT_.out (by kernel_rfl)) (fun _ _ _ h => h) (Or.inl ⟨by rfl, ?_⟩) ?_ ?_
       rotate_left
       (focus
       intro w'
       go_simp
       with_reducible rfl
       )
       rotate_left
       (focus
       simp only [Act.put, sA, sB, sC, i64_w, i32_w]
       rfl
       )
       refine pure_ (i := 10) (N := some 119) (v := ?_) (a' := ?_) #[true, false, true, false, false, true, false, true, true, false, true, false, false, false, false, false, false, false, false, false, false, false, false, false, false, false, false] rfl rfl (any_of HT_.out (by kernel_rfl)) (fun _ _ _ h => h) (Or.inl ⟨by rfl, ?_⟩) ?_ ?_
       rotate_left
       (focus
       intro w'
       go_simp
       with_reducible rfl
       )
       rotate_left
       (focus
       simp only [Act.put, sA, sB, sC, i64_w, i32_w]
       rfl
       )
       refine pure_ (i := 14) (N := some 123) (v := ?_) (a' := ?_) #[true, false, true, false, false, true, false, true, true, false, true, false, false, false, true, false, false, false, false, false, false, false, false, false, false, false, false] rfl rfl (any_of HT_.out (by kernel_rfl)) (fun _ _ _ h => h) (Or.inl ⟨by rfl, ?_⟩) ?_ ?_
       rotate_left
       (focus
       intro w'
       go_simp
       with_reducible rfl
       )
       rotate_left
       (focus
       simp only [Act.put, sA, sB, sC, i64_w, i32_w]
       rfl
       )
       refine pure_ (i := 16) (N := some 125) (v := ?_) (a' := ?_) #[true, false, true, false, false, true, false, true, true, false, true, false, false, false, true, false, true, false, false, false, false, false, false, false, false, false, false] rfl rfl (any_of HT_.out (by kernel_rfl)) (fun _ _ _ h => h) (Or.inl ⟨by rfl, ?_⟩) ?_ ?_
       rotate_left
       (focus
       intro w'
       go_simp
       with_reducible rfl
       )
       rotate_left
       (focus
       simp only [Act.put, sA, sB, sC, i64_w, i32_w]
       rfl
       )
       refine take_ (i := 1) (N := some 110) (v := ?_) (a' := ?_) #[true, true, true, false, false, true, false, true, true, false, true, false, false, false, true, false, true, false, false, false, false, false, false, false, false, false, false] rfl rfl (take_ofW HT_.out HW_.out (by kernel_rfl)) (fun _ _ _ h => h) (Or.inl ⟨by rfl, ?_⟩) hHeld ?_ ?_
       rotate_left
       (focus
       rintro w' ⟨s0, s1, s2, s3, s4, s5, s6, s7, s8, s9, s10, s11, s12, s13, s14, s15⟩
       go_simp
       with_reducible rfl
       )
       rotate_left
       (focus
       simp only [Act.put, sA, sB, sC, i64_w, i32_w]
       rfl
       )
       refine take_ (i := 6) (N := some 115) (v := ?_) (a' := ?_) #[true, true, true, false, false, true, true, true, true, false, true, false, false, false, true, false, true, false, false, false, false, false, false, false, false, false, false] rfl rfl (take_ofW HT_.out HW_.out (by kernel_rfl)) (fun _ _ _ h => h) (Or.inl ⟨by rfl, ?_⟩) hHeld ?_ ?_
       rotate_left
       (focus
       rintro w' ⟨s0, s1, s2, s3, s4, s5, s6, s7, s8, s9, s10, s11, s12, s13, s14, s15⟩
       go_simp
       with_reducible rfl
       )
       rotate_left
       (focus
       simp only [Act.put, sA, sB, sC, i64_w, i32_w]
       rfl
       )
       refine take_ (i := 9) (N := some 118) (v := ?_) (a' := ?_) #[true, true, true, false, false, true, true, true, true, true, true, false, false, false, true, false, true, false, false, false, false, false, false, false, false, false, false] rfl rfl (take_ofW HT_.out HW_.out (by kernel_rfl)) (fun _ _ _ h => h) (Or.inl ⟨by rfl, ?_⟩) hHeld ?_ ?_
       rotate_left
       (focus
       rintro w' ⟨s0, s1, s2, s3, s4, s5, s6, s7, s8, s9, s10, s11, s12, s13, s14, s15⟩
       go_simp
       with_reducible rfl
       )
       rotate_left
       (focus
       simp only [Act.put, sA, sB, sC, i64_w, i32_w]
       rfl
       )
       refine take_ (i := 11) (N := some 120) (v := ?_) (a' := ?_) #[true, true, true, false, false, true, true, true, true, true, true, true, false, false, true, false, true, false, false, false, false, false, false, false, false, false, false] rfl rfl (take_ofW HT_.out HW_.out (by kernel_rfl)) (fun _ _ _ h => h) (Or.inl ⟨by rfl, ?_⟩) hHeld ?_ ?_
       rotate_left
       (focus
       rintro w' ⟨s0, s1, s2, s3, s4, s5, s6, s7, s8, s9, s10, s11, s12, s13, s14, s15⟩
       go_simp
       with_reducible rfl
       )
       rotate_left
       (focus
       simp only [Act.put, sA, sB, sC, i64_w, i32_w]
       rfl
       )
       refine pure_ (i := 12) (N := some 121) (v := ?_) (a' := ?_) #[true, true, true, false, false, true, true, true, true, true, true, true, true, false, true, false, true, false, false, false, false, false, false, false, false, false, false] rfl rfl (any_of HT_.out (by kernel_rfl)) (fun _ _ _ h => h) (Or.inl ⟨by rfl, ?_⟩) ?_ ?_
       rotate_left
       (focus
       intro w'
       go_simp
       with_reducible rfl
       )
       rotate_left
       (focus
       simp only [Act.put, sA, sB, sC, i64_w, i32_w]
       rfl
       )
       refine take_ (i := 13) (N := some 122) (v := ?_) (a' := ?_) #[true, true, true, false, false, true, true, true, true, true, true, true, true, true, true, false, true, false, false, false, false, false, false, false, false, false, false] rfl rfl (take_ofW HT_.out HW_.out (by kernel_rfl)) (fun _ _ _ h => h) (Or.inl ⟨by rfl, ?_⟩) hHeld ?_ ?_
       rotate_left
       (focus
       rintro w' ⟨s0, s1, s2, s3, s4, s5, s6, s7, s8, s9, s10, s11, s12, s13, s14, s15⟩
       go_simp
       with_reducible rfl
       )
       rotate_left
       (focus
       simp only [Act.put, sA, sB, sC, i64_w, i32_w]
       rfl
       )
       refine take_ (i := 15) (N := some 124) (v := ?_) (a' := ?_) #[true, true, true, false, false, true, true, true, true, true, true, true, true, true, true, true, true, false, false, false, false, false, false, false, false, false, false] rfl rfl (take_ofW HT_.out HW_.out (by kernel_rfl)) (fun _ _ _ h => h) (Or.inl ⟨by rfl, ?_⟩) hHeld ?_ ?_
       rotate_left
       (focus
       rintro w' ⟨s0, s1, s2, s3, s4, s5, s6, s7, s8, s9, s10, s11, s12, s13, s14, s15⟩
       go_simp
       with_reducible rfl
       )
       rotate_left
       (focus
       simp only [Act.put, sA, sB, sC, i64_w, i32_w]
       rfl
       )
       refine take_ (i := 17) (N := some 126) (v := ?_) (a' := ?_) #[true, true, true, false, false, true, true, true, true, true, true, true, true, true, true, true, true, true, false, false, false, false, false, false, false, false, false] rfl rfl (take_ofW HT_.out HW_.out (by kernel_rfl)) (fun _ _ _ h => h) (Or.inl ⟨by rfl, ?_⟩) hHeld ?_ ?_
       rotate_left
       (focus
       rintro w' ⟨s0, s1, s2, s3, s4, s5, s6, s7, s8, s9, s10, s11, s12, s13, s14, s15⟩
       go_simp
       with_reducible rfl
       )
       rotate_left
       (focus
       simp only [Act.put, sA, sB, sC, i64_w, i32_w]
       rfl
       )
       refine pure_ (i := 18) (N := some 127) (v := ?_) (a' := ?_) #[true, true, true, false, false, true, true, true, true, true, true, true, true, true, true, true, true, true, true, false, false, false, false, false, false, false, false] rfl rfl (any_of HT_.out (by kernel_rfl)) (fun _ _ _ h => h) (Or.inl ⟨by rfl, ?_⟩) ?_ ?_
       rotate_left
       (focus
       intro w'
       go_simp
       with_reducible rfl
       )
       rotate_left
       (focus
       simp only [Act.put, sA, sB, sC, i64_w, i32_w]
       rfl
       )
       refine take_ (i := 19) (N := some 128) (v := ?_) (a' := ?_) #[true, true, true, false, false, true, true, true, true, true, true, true, true, true, true, true, true, true, true, true, false, false, false, false, false, false, false] rfl rfl (take_ofW HT_.out HW_.out (by kernel_rfl)) (fun _ _ _ h => h) (Or.inl ⟨by rfl, ?_⟩) hHeld ?_ ?_
       rotate_left
       (focus
       rintro w' ⟨s0, s1, s2, s3, s4, s5, s6, s7, s8, s9, s10, s11, s12, s13, s14, s15⟩
       go_simp
       with_reducible rfl
       )
       rotate_left
       (focus
       simp only [Act.put, sA, sB, sC, i64_w, i32_w]
       rfl
       )
       refine one_ (i := 3) (N := some 112) #[true, true, true, true, false, true, true, true, true, true, true, true, true, true, true, true, true, true, true, true, false, false, false, false, false, false, false] rfl rfl (one_of HT_.out (by kernel_rfl)) (by decide) (fun K hK => ?_)
       refine value_ (w1 := ?_) (v := ?_) (by rfl) rfl ?_ ?_
       rotate_left 2
       (focus
       go_simp
       constructor
       (focus
       rfl
       )
       (focus
       rfl
       )
       )
       refine hK.out _ _ ⟨(blk_cell (blk_alloc BK266.out _) 0).trans rfl, (blk_cell (blk_alloc BK266.out _) 1).trans rfl, (blk_cell (blk_alloc BK266.out _) 2).trans rfl, (blk_cell (blk_alloc BK266.out _) 3).trans rfl, (blk_cell (blk_alloc BK257.out _) 0).trans rfl, (blk_cell (blk_alloc BK257.out _) 1).trans rfl, (blk_cell (blk_alloc BK257.out _) 2).trans rfl, (blk_cell (blk_alloc BK257.out _) 3).trans rfl, (blk_cell (blk_alloc BK268.out _) 0).trans rfl, (blk_cell (blk_alloc BK268.out _) 1).trans rfl, (blk_cell (blk_alloc BK258.out _) 0).trans rfl, (blk_cell (blk_alloc BK258.out _) 1).trans rfl, (blk_cell (blk_alloc BK258.out _) 2).trans rfl, (blk_cell (blk_alloc BK258.out _) 3).trans rfl, (World.cell?_alloc_lt _ _ _ (World.block_lt_of_cell? _ _ (((HB.out.cell (World.block_lt_of_cell? w _ hw272_0)).trans hw272_0)))).trans (((HB.out.cell (World.block_lt_of_cell? w _ hw272_0)).trans hw272_0)), (World.cell?_alloc_lt _ _ _ (World.block_lt_of_cell? _ _ (((HB.out.cell (World.block_lt_of_cell? w _ hw273_0)).trans hw273_0)))).trans (((HB.out.cell (World.block_lt_of_cell? w _ hw273_0)).trans hw273_0))⟩ (fun hHeld => ?_)
       clear hK K
       refine norm_ (a' := ?_) ?_ ?_
       rotate_left
       (focus
       show Act.put _ (some 112) _ = _
       simp only [Act.put, sA, sB, sC, i64_w, i32_w]
       rfl
       )
       refine one_ (i := 4) (N := some 113) #[true, true, true, true, true, true, true, true, true, true, true, true, true, true, true, true, true, true, true, true, false, false, false, false, false, false, false] rfl rfl (one_of HT_.out (by kernel_rfl)) (by decide) (fun K hK => ?_)
       refine Kd.S_append_step (Kd.slice 3 (Kd.int .i64)) (w0 := w) w.heap.size (by rfl) (.tmp 110) (.tmp 112) 23 38 (.slice none 0 0) 24 rfl Try.underlying23 info38 rfl (by decide) (by omega) u267003 x267003_2 x14_3 [.slice Ao142 x14_3.length co142] (fun _ => True) (fun k_ => some k_ = (.slice Ao142 x14_3.length co142 : Value).ownBlock) rfl rfl ?aP (fun k_ hk_ => ((Kd.R_mono (ok' := fun k_ => ((fun _ => True)) k_ ∧ some k_ ≠ (u267003 : Value).ownBlock) (Kd.R_apart' (HO_14.out) (Kd.S_typed HO_267003.out) (by decide)) (fun k_ hk => ⟨trivial, hk.2⟩))).1 k_ hk_.symm) ?aF ?aO ?aB ?aS ?aL ?_
       (case aP => exact Kd.M_row (Kd.R_mono (Kd.R_tight rfl (Kd.R_mono (ok' := fun k_ => ((fun _ => True)) k_ ∧ some k_ ≠ (u267003 : Value).ownBlock) (Kd.R_apart' (HO_14.out) (Kd.S_typed HO_267003.out) (by decide)) (fun k_ hk => ⟨trivial, hk.2⟩))) (fun _ h_ => h_)))
       (case aB => exact (by repeat (first | (with_reducible first | exact HB.out | apply bA | apply bN | apply bD | refine bS ?_ ‹_›) | exact HB.out)))
       (case aF => exact (fun _ _ => trivial))
       (case aO => exact (by (with_reducible repeat (first | apply Kd.S_alloc | apply Kd.S_drewN | apply Kd.S_drew)); exact Kd.S_mono HO_267003.out (fun k_ hk => ⟨trivial, fun e_ => hk e_⟩)))
       (case aS => exact (below_size (by repeat (first | (with_reducible first | exact HB.out | apply bA | apply bN | apply bD | refine bS ?_ ‹_›) | exact HB.out))))
       (case aL => have := LMc127.out; omega)
       intro v270 w141 ho hb hg hat
       rw [← Ny269.out] at ho
       have n0_ := aM (Kd.R_over' (uR HO_9.out) (Kd.S_typed (by (with_reducible repeat (first | apply Kd.S_alloc | apply Kd.S_drewN | apply Kd.S_drew)); exact HO_267003.out)) (by decide) hg)
       have n1_ := aM (Kd.R_over' (uR HO_267002.out) (Kd.S_typed (by (with_reducible repeat (first | apply Kd.S_alloc | apply Kd.S_drewN | apply Kd.S_drew)); exact HO_267003.out)) (by decide) hg)
       have n2_ := aM (blk_grown (uB BK257.out) hg (Kd.S_ne HO_267003.out BK257.out (by decide)))
       have n3_ := aM (blk_grown (uB BK258.out) hg (Kd.S_ne HO_267003.out BK258.out (by decide)))
       have n4_ := aM (blk_grown (uB BK259.out) hg (Kd.S_ne HO_267003.out BK259.out (by decide)))
       have n5_ := aM (blk_grown (g := gb264) (o := mapO ek70 (Value.int .i64) x265000_3) (uB BK264.out) hg (S_neM HO_267003.out BK264.out))
       have n6_ := aM (blk_grown (uB BK266.out) hg (Kd.S_ne HO_267003.out BK266.out (by decide)))
       have n7_ := aM (blk_grown (uB BK268.out) hg (Kd.S_ne HO_267003.out BK268.out (by decide)))
       have n8_ := aM (hb)
       have n9_ := aM (ho)
       clear HO_9
       clear HO_267002
       clear BK257
       clear BK258
       clear BK259
       clear BK264
       clear BK266
       clear BK268
       clear HB
       clear HO_267003
       clear HO_14
       have HO_9 := n0_
       have HO_267002 := n1_
       have BK257 := n2_
       have BK258 := n3_
       have BK259 := n4_
       have BK264 := n5_
       have BK266 := n6_
       have BK268 := n7_
       have HB := n8_
       have HO271 := n9_
       clear n0_ n1_ n2_ n3_ n4_ n5_ n6_ n7_ n8_ n9_
       clear ho hb hg hat
       refine hK.out _ _ ⟨(blk_cell BK266.out 0).trans rfl, (blk_cell BK266.out 1).trans rfl, (blk_cell BK266.out 2).trans rfl, (blk_cell BK266.out 3).trans rfl, (blk_cell BK257.out 0).trans rfl, (blk_cell BK257.out 1).trans rfl, (blk_cell BK257.out 2).trans rfl, (blk_cell BK257.out 3).trans rfl, (blk_cell BK268.out 0).trans rfl, (blk_cell BK268.out 1).trans rfl, (blk_cell BK258.out 0).trans rfl, (blk_cell BK258.out 1).trans rfl, (blk_cell BK258.out 2).trans rfl, (blk_cell BK258.out 3).trans rfl, ((HB.out.cell (World.block_lt_of_cell? w _ hw272_0)).trans hw272_0), ((HB.out.cell (World.block_lt_of_cell? w _ hw273_0)).trans hw273_0)⟩ (fun hHeld => ?_)
       clear hK K
       refine norm_ (a' := ?_) ?_ ?_
       rotate_left
       (focus
       show Act.put _ (some 113) _ = _
       simp only [Act.put, sA, sB, sC, i64_w, i32_w]
       rfl
       )
       refine pure_ (i := 23) (N := some 132) (v := ?_) (a' := ?_) #[true, true, true, true, true, true, true, true, true, true, true, true, true, true, true, true, true, true, true, true, false, false, false, true, false, false, false] rfl rfl (any_of HT_.out (by kernel_rfl)) (fun _ _ _ h => h) (Or.inl ⟨by rfl, ?_⟩) ?_ ?_
       rotate_left
       (focus
       intro w'
       go_simp
       with_reducible rfl
       )
       rotate_left
       (focus
       simp only [Act.put, sA, sB, sC, i64_w, i32_w]
       rfl
       )
       refine one_ (i := 20) (N := some 129) #[true, true, true, true, true, true, true, true, true, true, true, true, true, true, true, true, true, true, true, true, true, false, false, true, false, false, false] rfl rfl (one_of HT_.out (by kernel_rfl)) (by decide) (fun K hK => ?_)
       refine goes_ Try.func51 (by kernel_rfl) rfl #[.int .i64 a2, .bool (rdOf false l0_2 ((rd_T70 x9_2 x12_2).f0)), .bool (rdOf false l1_2 ((rd_T70 x9_2 x12_2).f1))] (by rfl) rfl rfl (by (try simp only [List.map_toArray, List.map_cons, List.map_nil]); first | done | rfl | (simp only [List.length_drop, List.length_take]; rfl)) ?_
       with_reducible refine (semigroupref07_By.calls a2 (rdOf false l0_2 ((rd_T70 x9_2 x12_2).f0)) (rdOf false l1_2 ((rd_T70 x9_2 x12_2).f1)) t274 _ A132.out).mono ?_
       rintro e w' ⟨rfl, ⟨nd, rfl⟩⟩
       refine ⟨_, rfl, ?_⟩
       refine hK.out _ _ ⟨(blk_cell BK266.out 0).trans rfl, (blk_cell BK266.out 1).trans rfl, (blk_cell BK266.out 2).trans rfl, (blk_cell BK266.out 3).trans rfl, (blk_cell BK257.out 0).trans rfl, (blk_cell BK257.out 1).trans rfl, (blk_cell BK257.out 2).trans rfl, (blk_cell BK257.out 3).trans rfl, (blk_cell BK268.out 0).trans rfl, (blk_cell BK268.out 1).trans rfl, (blk_cell BK258.out 0).trans rfl, (blk_cell BK258.out 1).trans rfl, (blk_cell BK258.out 2).trans rfl, (blk_cell BK258.out 3).trans rfl, ((HB.out.cell (World.block_lt_of_cell? w _ hw272_0)).trans hw272_0), ((HB.out.cell (World.block_lt_of_cell? w _ hw273_0)).trans hw273_0)⟩ (fun hHeld => ?_)
       clear hK K
       refine norm_ (a' := ?_) ?_ ?_
       rotate_left
       (focus
       show Act.put _ (some 129) _ = _
       simp only [Act.put, sA, sB, sC, i64_w, i32_w]
       rfl
       )
       refine one_ (i := 21) (N := some 130) #[true, true, true, true, true, true, true, true, true, true, true, true, true, true, true, true, true, true, true, true, true, true, false, true, false, false, false] rfl rfl (one_of HT_.out (by kernel_rfl)) (by decide) (fun K hK => ?_)
       refine value_ (w1 := ?_) (v := ?_) (by rfl) rfl ?_ ?_
       rotate_left 2
       (focus
       go_simp
       constructor
       (focus
       rfl
       )
       (focus
       rfl
       )
       )
       refine hK.out _ _ ⟨(blk_cell (blk_alloc BK266.out _) 0).trans rfl, (blk_cell (blk_alloc BK266.out _) 1).trans rfl, (blk_cell (blk_alloc BK266.out _) 2).trans rfl, (blk_cell (blk_alloc BK266.out _) 3).trans rfl, (blk_cell (blk_alloc BK257.out _) 0).trans rfl, (blk_cell (blk_alloc BK257.out _) 1).trans rfl, (blk_cell (blk_alloc BK257.out _) 2).trans rfl, (blk_cell (blk_alloc BK257.out _) 3).trans rfl, (blk_cell (blk_alloc BK268.out _) 0).trans rfl, (blk_cell (blk_alloc BK268.out _) 1).trans rfl, (blk_cell (blk_alloc BK258.out _) 0).trans rfl, (blk_cell (blk_alloc BK258.out _) 1).trans rfl, (blk_cell (blk_alloc BK258.out _) 2).trans rfl, (blk_cell (blk_alloc BK258.out _) 3).trans rfl, (World.cell?_alloc_lt _ _ _ (World.block_lt_of_cell? _ _ (((HB.out.cell (World.block_lt_of_cell? w _ hw272_0)).trans hw272_0)))).trans (((HB.out.cell (World.block_lt_of_cell? w _ hw272_0)).trans hw272_0)), (World.cell?_alloc_lt _ _ _ (World.block_lt_of_cell? _ _ (((HB.out.cell (World.block_lt_of_cell? w _ hw273_0)).trans hw273_0)))).trans (((HB.out.cell (World.block_lt_of_cell? w _ hw273_0)).trans hw273_0))⟩ (fun hHeld => ?_)
       clear hK K
       refine norm_ (a' := ?_) ?_ ?_
       rotate_left
       (focus
       show Act.put _ (some 130) _ = _
       simp only [Act.put, sA, sB, sC, i64_w, i32_w]
       rfl
       )
       refine one_ (i := 22) (N := some 131) #[true, true, true, true, true, true, true, true, true, true, true, true, true, true, true, true, true, true, true, true, true, true, true, true, false, false, false] rfl rfl (one_of HT_.out (by kernel_rfl)) (by decide) (fun K hK => ?_)
       refine Kd.R_append_step Kd.bool (w0 := w) w.heap.size (by rfl) (.tmp 115) (.tmp 130) 22 4 (.bool false) 1 rfl Try.underlying22 info4 rfl (by decide) (by omega) u267002 x267002_2 t274 [.bool t274] (fun _ => True) (fun _ => False) rfl rfl ?aP (fun _ hk => hk.elim) ?aF ?aO ?aB ?aS ?aL ?_
       (case aP => exact rfl)
       (case aB => exact (by repeat (first | (with_reducible first | exact HB.out | apply bA | apply bN | apply bD | refine bS ?_ ‹_›) | exact HB.out)))
       (case aF => exact (fun _ _ => trivial))
       (case aO => exact (uR HO_267002.out))
       (case aS => exact (below_size (by repeat (first | (with_reducible first | exact HB.out | apply bA | apply bN | apply bD | refine bS ?_ ‹_›) | exact HB.out))))
       (case aL => have := LMc133.out; omega)
       intro v276 w143 ho hb hg hat
       rw [← Ny275.out] at ho
       have n0_ := aM (Kd.R_over' (uR HO_9.out) (Kd.R_typed (uR HO_267002.out)) (by decide) hg)
       have n1_ := aM (blk_grown (uB BK257.out) hg (Kd.R_ne HO_267002.out BK257.out (by decide)))
       have n2_ := aM (blk_grown (uB BK258.out) hg (Kd.R_ne HO_267002.out BK258.out (by decide)))
       have n3_ := aM (blk_grown (uB BK259.out) hg (Kd.R_ne HO_267002.out BK259.out (by decide)))
       have n4_ := aM (blk_grown (g := gb264) (o := mapO ek70 (Value.int .i64) x265000_3) (uB BK264.out) hg (R_neM HO_267002.out BK264.out))
       have n5_ := aM (blk_grown (uB BK266.out) hg (Kd.R_ne HO_267002.out BK266.out (by decide)))
       have n6_ := aM (blk_grown (uB BK268.out) hg (Kd.R_ne HO_267002.out BK268.out (by decide)))
       have n7_ := aM (Kd.S_over' (by (with_reducible repeat (first | apply Kd.S_alloc | apply Kd.S_drewN | apply Kd.S_drew)); exact HO271.out) (Kd.R_typed (uR HO_267002.out)) (by decide) hg)
       have n8_ := aM (hb)
       have n9_ := aM (ho)
       clear HO_9
       clear BK257
       clear BK258
       clear BK259
       clear BK264
       clear BK266
       clear BK268
       clear HO271
       clear HB
       clear HO_267002
       have HO_9 := n0_
       have BK257 := n1_
       have BK258 := n2_
       have BK259 := n3_
       have BK264 := n4_
       have BK266 := n5_
       have BK268 := n6_
       have HO271 := n7_
       have HB := n8_
       have HO277 := n9_
       clear n0_ n1_ n2_ n3_ n4_ n5_ n6_ n7_ n8_ n9_
       clear ho hb hg hat
       obtain ⟨Ao144, co144, eo144⟩ := Kd.S_slice HO271.out
       (first | subst eo144 | (injection eo144 with f1_ f2_ f3_; have f4_ := f1_.symm; have f5_ := f3_.symm; clear f1_ f2_ f3_; subst f4_; subst f5_))
       obtain ⟨Ao146, co146, eo146⟩ := Kd.R_slice HO277.out
       (first | subst eo146 | (injection eo146 with f1_ f2_ f3_; have f4_ := f1_.symm; have f5_ := f3_.symm; clear f1_ f2_ f3_; subst f4_; subst f5_))
       refine hK.out _ _ ⟨(blk_cell BK266.out 0).trans rfl, (blk_cell BK266.out 1).trans rfl, (blk_cell BK266.out 2).trans rfl, (blk_cell BK266.out 3).trans rfl, (blk_cell BK257.out 0).trans rfl, (blk_cell BK257.out 1).trans rfl, (blk_cell BK257.out 2).trans rfl, (blk_cell BK257.out 3).trans rfl, (blk_cell BK268.out 0).trans rfl, (blk_cell BK268.out 1).trans rfl, (blk_cell BK258.out 0).trans rfl, (blk_cell BK258.out 1).trans rfl, (blk_cell BK258.out 2).trans rfl, (blk_cell BK258.out 3).trans rfl, ((HB.out.cell (World.block_lt_of_cell? w _ hw272_0)).trans hw272_0), ((HB.out.cell (World.block_lt_of_cell? w _ hw273_0)).trans hw273_0)⟩ (fun hHeld => ?_)
       clear hK K
       refine norm_ (a' := ?_) ?_ ?_
       rotate_left
       (focus
       show Act.put _ (some 131) _ = _
       simp only [Act.put, sA, sB, sC, i64_w, i32_w]
       rfl
       )
       refine last_ (i := 24) (N := none) #[true, true, true, true, true, true, true, true, true, true, true, true, true, true, true, true, true, true, true, true, true, true, true, true, true, false, false] rfl rfl (one_of HT_.out (by kernel_rfl)) (by decide) (fun K hK => ?_)
       have hs145 : w143.cell? ⟨gb266, 3, none⟩ = some (u267003) := (blk_cell BK266.out 3).trans rfl
       have hfs145 := blk_frozen BK266.out 3
       have hns145_0 := NB257_266.out
       have hns145_1 := NB258_266.out
       have hns145_2 := NB259_266.out
       have hns145_3 := NB264_266.out
       have hns145_5 := NB268_266.out
       have hms145_0 := NB266_257.out
       have hms145_1 := NB266_258.out
       have hms145_2 := NB266_259.out
       have hms145_3 := NB266_264.out
       have hms145_5 := NB266_268.out
       refine skip_ (w1 := ?_) (by rfl) rfl ?_ ?_
       rotate_left
       (focus
       go_simp
       rfl
       )
       refine hK.out _ _ ?_
       clear hK K
       refine pure_ (i := 25) (N := some 133) (v := ?_) (a' := ?_) #[true, true, true, true, true, true, true, true, true, true, true, true, true, true, true, true, true, true, true, true, true, true, true, true, true, true, false] rfl rfl (any_of HT_.out (by kernel_rfl)) (fun _ _ _ h => h) (Or.inl ⟨by rfl, ?_⟩) ?_ ?_
       rotate_left
       (focus
       intro w'
       go_simp
       with_reducible rfl
       )
       rotate_left
       (focus
       simp only [Act.put, sA, sB, sC, i64_w, i32_w]
       rfl
       )
       refine last_ (i := 26) (N := none) #[true, true, true, true, true, true, true, true, true, true, true, true, true, true, true, true, true, true, true, true, true, true, true, true, true, true, true] rfl rfl (one_of HT_.out (by kernel_rfl)) (by decide) (fun K hK => ?_)
       have hs147 : w143.cell? ⟨gb266, 2, none⟩ = some (u267002) := (blk_cell BK266.out 2).trans rfl
       have hfs147 := blk_frozen BK266.out 2
       have hns147_0 := NB257_266.out
       have hns147_1 := NB258_266.out
       have hns147_2 := NB259_266.out
       have hns147_3 := NB264_266.out
       have hns147_5 := NB268_266.out
       have hms147_0 := NB266_257.out
       have hms147_1 := NB266_258.out
       have hms147_2 := NB266_259.out
       have hms147_3 := NB266_264.out
       have hms147_5 := NB266_268.out
       refine skip_ (w1 := ?_) (by rfl) rfl ?_ ?_
       rotate_left
       (focus
       go_simp
       rfl
       )
       refine hK.out _ _ ?_
       clear hK K
       refine done_ (done_of HT_.out (by kernel_rfl)) ?_
       try go_wp2
       go_roundg k3
       case measure => have := HJ5.out; have := HK2.out; have := HK3.out; omega
       case rel => exact ⟨(x9_3), (wrap64 (x12_2 + 1)), (x260000_3), (x260001_3), (x265000_3), (y275), (y269), (.slice Ao146 y275.length co146), (.slice Ao144 y269.length co144), (by first | rfl | (simp; done) | (simp [*]; done)), H', ⟨by have := HJ5.out; have := HK2.out; have := HK3.out; omega⟩, ⟨by (with_reducible repeat (first | apply Kd.R_alloc | apply Kd.R_drewN | apply Kd.R_drew)); exact Kd.R_mono (Kd.R_far (p := ⟨gb266, 2, none⟩) (Kd.R_far (p := ⟨gb266, 3, none⟩) (Kd.R_types HO_9.out BK266.out (by decide)) (fun _ hk => hk.2) (.slice Ao144 y269.length co144)) (fun _ hk => hk.2) (.slice Ao146 y275.length co146)) (fun _ hk => trivial)⟩, ⟨by (with_reducible repeat (first | apply Kd.R_alloc | apply Kd.R_drewN | apply Kd.R_drew)); exact Kd.R_mono (Kd.R_far (p := ⟨gb266, 2, none⟩) (Kd.R_far (p := ⟨gb266, 3, none⟩) (Kd.R_types HO277.out BK266.out (by decide)) (fun _ hk => hk.2) (.slice Ao144 y269.length co144)) (fun _ hk => hk.2) (.slice Ao146 y275.length co146)) (fun _ hk => trivial)⟩, ⟨by (with_reducible repeat (first | apply Kd.S_alloc | apply Kd.S_drewN | apply Kd.S_drew)); exact Kd.S_mono (Kd.S_far (p := ⟨gb266, 2, none⟩) (Kd.S_far (p := ⟨gb266, 3, none⟩) (Kd.S_types HO271.out BK266.out (by decide)) (fun _ hk => hk.2) (.slice Ao144 y269.length co144)) (fun _ hk => hk.2) (.slice Ao146 y275.length co146)) (fun _ hk => trivial)⟩, ⟨by (with_reducible repeat (first | refine kN ?_ | refine kD ?_ | refine kA ?_ | refine blk_far ?_ NB257_266.out _)); exact BK257.out⟩, ⟨by (with_reducible repeat (first | refine kN ?_ | refine kD ?_ | refine kA ?_ | refine blk_far ?_ NB258_266.out _)); exact BK258.out⟩, ⟨by (with_reducible repeat (first | refine kN ?_ | refine kD ?_ | refine kA ?_ | refine blk_far ?_ NB259_266.out _)); exact BK259.out⟩, ⟨by (with_reducible repeat (first | refine kN ?_ | refine kD ?_ | refine kA ?_)); refine blkF ?_ NB264_266.out _; (with_reducible repeat (first | refine kN ?_ | refine kD ?_ | refine kA ?_)); refine blkF ?_ NB264_266.out _; (with_reducible repeat (first | refine kN ?_ | refine kD ?_ | refine kA ?_)); exact BK264.out⟩, ⟨by (with_reducible repeat (first | refine kN ?_ | refine kD ?_ | refine kA ?_)); refine blk_put (cs := #[.int .i64 a0_0, .int .i64 0, u267002, .slice Ao144 y269.length co144]) ?_ 2 _ rfl; (with_reducible repeat (first | refine kN ?_ | refine kD ?_ | refine kA ?_)); refine blk_put (cs := #[.int .i64 a0_0, .int .i64 0, u267002, u267003]) ?_ 3 _ rfl; (with_reducible repeat (first | refine kN ?_ | refine kD ?_ | refine kA ?_)); exact BK266.out⟩, ⟨by repeat (first | (with_reducible first | exact HB.out | apply bA | apply bN | apply bD | refine bS ?_ ‹_›) | exact HB.out)⟩⟩
       )
       (focus
       rw [if_neg c133] at H
       exact absurd H (by simp)
       )
       )
       (focus
       rw [if_neg c131] at H
       exact absurd H (by simp)
       )
       )
       (focus
       rw [if_neg c130] at H
       exact absurd H (by simp)
       )
       )
       (focus
       rw [if_neg c129] at H
       exact absurd H (by simp)
       )
       )
       (focus
       rw [if_neg c128] at H
       exact absurd H (by simp)
       )
       )
       (focus
       rw [if_neg c127] at H
       exact absurd H (by simp)
       )
       )
     )
     (focus
     rw [if_neg c42] at H
     exact absurd H (by simp)
     )
     )
     (focus
     rw [if_neg c41] at H
     have c41b0 : decide (x12_2 < (x9_2.length : Int)) = false := decide_eq_false c41
     clear c41
     simp only [Option.some.injEq, Prod.mk.injEq] at H
     obtain ⟨rfl, rfl, rfl, rfl, rfl⟩ := H
     obtain ⟨Ao148, co148, eo148⟩ := Kd.R_slice HO_9.out
     subst eo148
     have hnb149 := NB266_257.out
     have hnc149 := NB257_266.out
     have hnb150 := NB266_258.out
     have hnc150 := NB258_266.out
     have hnb151 := NB266_259.out
     have hnc151 := NB259_266.out
     have hnb152 := NB266_264.out
     have hnc152 := NB264_266.out
     have hcz153_0 : wr.cell? ⟨gb266, 0, none⟩ = some (.int .i64 a0_0) := (blk_cell BK266.out 0).trans rfl
     have hcz153_1 : wr.cell? ⟨gb266, 1, none⟩ = some (.int .i64 0) := (blk_cell BK266.out 1).trans rfl
     have hcz153_2 : wr.cell? ⟨gb266, 2, none⟩ = some (u267002) := (blk_cell BK266.out 2).trans rfl
     have hcz153_3 : wr.cell? ⟨gb266, 3, none⟩ = some (u267003) := (blk_cell BK266.out 3).trans rfl
     have hfz153_0 := blk_frozen BK266.out 0
     have hfz153_1 := blk_frozen BK266.out 1
     have hfz153_2 := blk_frozen BK266.out 2
     have hfz153_3 := blk_frozen BK266.out 3
     have hnb154 := NB259_257.out
     have hnc154 := NB257_259.out
     have hnb155 := NB259_258.out
     have hnc155 := NB258_259.out
     have hnb156 := NB259_264.out
     have hnc156 := NB264_259.out
     have hcz157_0 : wr.cell? ⟨gb259, 0, none⟩ = some (.int .i64 x260000_2) := (blk_cell BK259.out 0).trans rfl
     have hcz157_1 : wr.cell? ⟨gb259, 1, none⟩ = some (.int .i64 x260001_2) := (blk_cell BK259.out 1).trans rfl
     have hcz157_2 : wr.cell? ⟨gb259, 2, none⟩ = some (.slice none 0 0) := (blk_cell BK259.out 2).trans rfl
     have hcz157_3 : wr.cell? ⟨gb259, 3, none⟩ = some (.slice none 0 0) := (blk_cell BK259.out 3).trans rfl
     have hfz157_0 := blk_frozen BK259.out 0
     have hfz157_1 := blk_frozen BK259.out 1
     have hfz157_2 := blk_frozen BK259.out 2
     have hfz157_3 := blk_frozen BK259.out 3
     obtain ⟨Ao158, co158, eo158⟩ := Kd.R_slice HO_267002.out
     subst eo158
     obtain ⟨Ao159, co159, eo159⟩ := Kd.S_slice HO_267003.out
     subst eo159
     go_wp2
     refine bodyPost_ret (results_ct rfl _ _ gb259 25 #[.int .i64 a0_0, .int .i64 0, .slice Ao158 x267002_2.length co158, .slice Ao159 x267003_2.length co159] (0, 0) _ rfl (by (with_reducible repeat (first | refine kN ?_ | refine kD ?_ | refine kA ?_)); refine blk_put (cs := #[.int .i64 a0_0, .int .i64 0, .slice Ao158 x267002_2.length co158, .slice none 0 0]) ?_ 3 _ rfl; (with_reducible repeat (first | refine kN ?_ | refine kD ?_ | refine kA ?_)); refine blk_put (cs := #[.int .i64 a0_0, .int .i64 0, .slice none 0 0, .slice none 0 0]) ?_ 2 _ rfl; (with_reducible repeat (first | refine kN ?_ | refine kD ?_ | refine kA ?_)); refine blk_put (cs := #[.int .i64 a0_0, .int .i64 x260001_2, .slice none 0 0, .slice none 0 0]) ?_ 1 _ rfl; (with_reducible repeat (first | refine kN ?_ | refine kD ?_ | refine kA ?_)); refine blk_put (cs := #[.int .i64 x260000_2, .int .i64 x260001_2, .slice none 0 0, .slice none 0 0]) ?_ 0 _ rfl; (with_reducible repeat (first | refine kN ?_ | refine kD ?_ | refine kA ?_)); exact BK259.out) Try.underlying25 rfl (by kernel_rfl)) rfl ?_
     exact ⟨_, _, by first | rfl | (simp [errW_none, errW_some] <;> rfl) | (simp [*, errW_none, errW_some] <;> rfl), by (with_reducible repeat (first | apply Kd.R_alloc | apply Kd.R_drewN | apply Kd.R_drew)); exact Kd.R_mono (Kd.R_far (p := ⟨gb259, 3, none⟩) (Kd.R_far (p := ⟨gb259, 2, none⟩) (Kd.R_far (p := ⟨gb259, 1, none⟩) (Kd.R_far (p := ⟨gb259, 0, none⟩) (Kd.R_types HO_267002.out BK259.out (by decide)) (fun _ hk => hk.2) (.int .i64 a0_0)) (fun _ hk => hk.2) (.int .i64 0)) (fun _ hk => hk.2) (.slice Ao158 x267002_2.length co158)) (fun _ hk => hk.2) (.slice Ao159 x267003_2.length co159)) (fun _ hk => trivial), by (with_reducible repeat (first | apply Kd.S_alloc | apply Kd.S_drewN | apply Kd.S_drew)); exact Kd.S_mono (Kd.S_far (p := ⟨gb259, 3, none⟩) (Kd.S_far (p := ⟨gb259, 2, none⟩) (Kd.S_far (p := ⟨gb259, 1, none⟩) (Kd.S_far (p := ⟨gb259, 0, none⟩) (Kd.S_types HO_267003.out BK259.out (by decide)) (fun _ hk => hk.2) (.int .i64 a0_0)) (fun _ hk => hk.2) (.int .i64 0)) (fun _ hk => hk.2) (.slice Ao158 x267002_2.length co158)) (fun _ hk => hk.2) (.slice Ao159 x267003_2.length co159)) (fun _ hk => trivial), by repeat (first | (with_reducible first | exact HB.out | apply bA | apply bN | apply bD | refine bS ?_ ‹_›) | exact HB.out)⟩
     )
   )
 )
 (focus
 rw [if_neg c5] at H
 have c5b0 : (t260 == 0) = false := beq_eq_false_iff_ne.mpr c5
 have c5b1 : (t260 != 0) = true := bne_iff_ne.mpr c5
 simp only [Option.some.injEq, Prod.mk.injEq] at H
 obtain ⟨rfl, rfl, rfl, rfl, rfl⟩ := H
 go_enter Try.func32, Try.ntmps32
 go_wp2_with (first | ((with_reducible refine gate_dst (N := 3) rfl ?_); refine box_event ?hg (N := 3) ?hd (cs := #[.int .i64 a0_0, .int .i64 a0_1, .slice A0_2 l0_2.length c0_2, .slice A0_3 l0_3.length c0_3]) (t := 25) ?hr ?_; (case hd => rfl); (case hg => rfl); (case hr => first | (go_simp; done) | (go_simp; rfl)); intro gb257 hg w160 hbox hb; have n0_ := aM (below_step (by repeat (first | (with_reducible first | exact HB.out | apply bA | apply bN | apply bD) | exact HB.out)) hb); have n1_ := aM (hbox); have n2_ := aM ((by rw [hg]; exact (below_size (by repeat (first | (with_reducible first | exact HB.out | apply bA | apply bN | apply bD) | exact HB.out))) : w.heap.size ≤ gb257)); have n3_ := aM ((by rw [hg]; exact (below_size (by repeat (first | (with_reducible first | exact HB.out | apply bA | apply bN | apply bD) | exact HB.out))) : w.heap.size ≤ gb257)); clear HB; have HB := n0_; have BK257 := n1_; have GW257 := n2_; have GE257 := n3_; clear n0_ n1_ n2_ n3_; clear hb hbox hg) | ((with_reducible refine gate_dst (N := 4) rfl ?_); refine box_event ?hg (N := 4) ?hd (cs := #[.int .i64 a1_0, .int .i64 a1_1, .slice A1_2 l1_2.length c1_2, .slice A1_3 l1_3.length c1_3]) (t := 25) ?hr ?_; (case hd => rfl); (case hg => rfl); (case hr => first | (go_simp; done) | (go_simp; rfl)); intro gb258 hg w161 hbox hb; have n0_ := aM (blk_below (uB BK257.out) hb); have n1_ := aM (below_step (by repeat (first | (with_reducible first | exact HB.out | apply bA | apply bN | apply bD | refine bS ?_ ‹_›) | exact HB.out)) hb); have n2_ := aM (hbox); have n3_ := aM ((by rw [hg]; exact (below_size (by repeat (first | (with_reducible first | exact HB.out | apply bA | apply bN | apply bD | refine bS ?_ ‹_›) | exact HB.out))) : w.heap.size ≤ gb258)); have n4_ := aM ((by rw [hg]; exact (below_size (by repeat (first | (with_reducible first | exact HB.out | apply bA | apply bN | apply bD | refine bS ?_ ‹_›) | exact HB.out))) : w.heap.size ≤ gb258)); have n5_ := aM ((by rw [hg]; exact Nat.ne_of_lt (blk_lt (uB BK257.out)) : gb257 ≠ gb258)); have n6_ := aM ((by rw [hg]; exact Nat.ne_of_gt (blk_lt (uB BK257.out)) : gb258 ≠ gb257)); clear BK257; clear HB; have BK257 := n0_; have HB := n1_; have BK258 := n2_; have GW258 := n3_; have GE258 := n4_; have NB257_258 := n5_; have NB258_257 := n6_; clear n0_ n1_ n2_ n3_ n4_ n5_ n6_; clear hb hbox hg) | ((with_reducible refine gate_dst (N := 6) rfl ?_); refine box_event ?hg (N := 6) ?hd (cs := #[.int .i64 0, .int .i64 0, .slice none 0 0, .slice none 0 0]) (t := 25) ?hr ?_; (case hd => rfl); (case hg => rfl); (case hr => first | (go_simp; done) | (go_simp; rfl)); intro gb259 hg w162 hbox hb; have n0_ := aM (blk_below (uB BK257.out) hb); have n1_ := aM (blk_below (uB BK258.out) hb); have n2_ := aM (below_step (by repeat (first | (with_reducible first | exact HB.out | apply bA | apply bN | apply bD | refine bS ?_ ‹_›) | exact HB.out)) hb); have n3_ := aM (hbox); have n4_ := aM ((by rw [hg]; exact (below_size (by repeat (first | (with_reducible first | exact HB.out | apply bA | apply bN | apply bD | refine bS ?_ ‹_›) | exact HB.out))) : w.heap.size ≤ gb259)); have n5_ := aM ((by rw [hg]; exact (below_size (by repeat (first | (with_reducible first | exact HB.out | apply bA | apply bN | apply bD | refine bS ?_ ‹_›) | exact HB.out))) : w.heap.size ≤ gb259)); have n6_ := aM ((by rw [hg]; exact Nat.ne_of_lt (blk_lt (uB BK257.out)) : gb257 ≠ gb259)); have n7_ := aM ((by rw [hg]; exact Nat.ne_of_gt (blk_lt (uB BK257.out)) : gb259 ≠ gb257)); have n8_ := aM ((by rw [hg]; exact Nat.ne_of_lt (blk_lt (uB BK258.out)) : gb258 ≠ gb259)); have n9_ := aM ((by rw [hg]; exact Nat.ne_of_gt (blk_lt (uB BK258.out)) : gb259 ≠ gb258)); clear BK257; clear BK258; clear HB; have BK257 := n0_; have BK258 := n1_; have HB := n2_; have BK259 := n3_; have GW259 := n4_; have GE259 := n5_; have NB257_259 := n6_; have NB259_257 := n7_; have NB258_259 := n8_; have NB259_258 := n9_; clear n0_ n1_ n2_ n3_ n4_ n5_ n6_ n7_ n8_ n9_; clear hb hbox hg; have hnb163 := NB257_258.out; have hnc163 := NB258_257.out; have hnb164 := NB257_259.out; have hnc164 := NB259_257.out; have hcz165_0 : w162.cell? ⟨gb257, 0, none⟩ = some (.int .i64 a0_0) := (blk_cell BK257.out 0).trans rfl; have hcz165_1 : w162.cell? ⟨gb257, 1, none⟩ = some (.int .i64 a0_1) := (blk_cell BK257.out 1).trans rfl; have hcz165_2 : w162.cell? ⟨gb257, 2, none⟩ = some (.slice A0_2 l0_2.length c0_2) := (blk_cell BK257.out 2).trans rfl; have hcz165_3 : w162.cell? ⟨gb257, 3, none⟩ = some (.slice A0_3 l0_3.length c0_3) := (blk_cell BK257.out 3).trans rfl; have hfz165_0 := blk_frozen BK257.out 0; have hfz165_1 := blk_frozen BK257.out 1; have hfz165_2 := blk_frozen BK257.out 2; have hfz165_3 := blk_frozen BK257.out 3; have hnb166 := NB258_259.out; have hnc166 := NB259_258.out; have hcz167_0 : w162.cell? ⟨gb258, 0, none⟩ = some (.int .i64 a1_0) := (blk_cell BK258.out 0).trans rfl; have hcz167_1 : w162.cell? ⟨gb258, 1, none⟩ = some (.int .i64 a1_1) := (blk_cell BK258.out 1).trans rfl; have hcz167_2 : w162.cell? ⟨gb258, 2, none⟩ = some (.slice A1_2 l1_2.length c1_2) := (blk_cell BK258.out 2).trans rfl; have hcz167_3 : w162.cell? ⟨gb258, 3, none⟩ = some (.slice A1_3 l1_3.length c1_3) := (blk_cell BK258.out 3).trans rfl; have hfz167_0 := blk_frozen BK258.out 0; have hfz167_1 := blk_frozen BK258.out 1; have hfz167_2 := blk_frozen BK258.out 2; have hfz167_3 := blk_frozen BK258.out 3) | ((with_reducible refine gate_callee (f := 50) rfl ?_); refine goesL_ (some 21) rfl rfl Try.func50 (by kernel_rfl) rfl #[.agg #[.int .i64 a0_0, .int .i64 a0_1, .slice A0_2 l0_2.length c0_2, .slice A0_3 l0_3.length c0_3], .agg #[.int .i64 a1_0, .int .i64 a1_1, .slice A1_2 l1_2.length c1_2, .slice A1_3 l1_3.length c1_3]] rfl (by (try simp only [List.map_toArray, List.map_cons, List.map_nil]); first | done | rfl | (simp only [List.length_drop, List.length_take]; rfl)) ?_; (with_reducible refine (semigroupref07_Pair.calls k a0_0 a0_1 _ _ l0_2 _ _ l0_3 a1_0 a1_1 _ _ l1_2 _ _ l1_3 t260 _ ?side1 ?side2 ?side3 ?side4 ?side5 ?side6 ?side7 ?side8 A4.out).mono ?_); (case side1 => repeat (first | exact (Kd.C_below HR0_2.out HB.out) | (with_reducible refine Kd.C_alloc ?_ _) | (with_reducible refine Kd.C_drewN ?_ _) | (with_reducible refine Kd.C_drew ?_))); (case side2 => exact HC0_2.out); (case side3 => repeat (first | exact (Kd.C_below HR0_3.out HB.out) | (with_reducible refine Kd.C_alloc ?_ _) | (with_reducible refine Kd.C_drewN ?_ _) | (with_reducible refine Kd.C_drew ?_))); (case side4 => exact HC0_3.out); (case side5 => repeat (first | exact (Kd.C_below HR1_2.out HB.out) | (with_reducible refine Kd.C_alloc ?_ _) | (with_reducible refine Kd.C_drewN ?_ _) | (with_reducible refine Kd.C_drew ?_))); (case side6 => exact HC1_2.out); (case side7 => repeat (first | exact (Kd.C_below HR1_3.out HB.out) | (with_reducible refine Kd.C_alloc ?_ _) | (with_reducible refine Kd.C_drewN ?_ _) | (with_reducible refine Kd.C_drew ?_))); (case side8 => exact HC1_3.out); rintro e w168 ⟨rfl, hb⟩; refine ⟨_, rfl, ?_⟩; have n0_ := aM (blk_below (uB BK257.out) hb); have n1_ := aM (blk_below (uB BK258.out) hb); have n2_ := aM (blk_below (uB BK259.out) hb); have n3_ := aM (below_step (by repeat (first | (with_reducible first | exact HB.out | apply bA | apply bN | apply bD | refine bS ?_ ‹_›) | exact HB.out)) hb); clear BK257; clear BK258; clear BK259; clear HB; have BK257 := n0_; have BK258 := n1_; have BK259 := n2_; have HB := n3_; clear n0_ n1_ n2_ n3_; (try clear hb); (try clear hb2); (try clear hk); (try clear hi); have hcz169_0 : w168.cell? ⟨gb259, 0, none⟩ = some (.int .i64 0) := (blk_cell BK259.out 0).trans rfl; have hcz169_1 : w168.cell? ⟨gb259, 1, none⟩ = some (.int .i64 0) := (blk_cell BK259.out 1).trans rfl; have hcz169_2 : w168.cell? ⟨gb259, 2, none⟩ = some (.slice none 0 0) := (blk_cell BK259.out 2).trans rfl; have hcz169_3 : w168.cell? ⟨gb259, 3, none⟩ = some (.slice none 0 0) := (blk_cell BK259.out 3).trans rfl; have hfz169_0 := blk_frozen BK259.out 0; have hfz169_1 := blk_frozen BK259.out 1; have hfz169_2 := blk_frozen BK259.out 2; have hfz169_3 := blk_frozen BK259.out 3))
 refine bodyPost_ret (results_ct rfl _ _ gb259 25 #[.int .i64 0, .int .i64 0, .slice none 0 0, .slice none 0 0] (0, 0) _ rfl (by (with_reducible repeat (first | refine kN ?_ | refine kD ?_ | refine kA ?_)); refine blk_put (cs := #[.int .i64 0, .int .i64 0, .slice none 0 0, .slice none 0 0]) ?_ 3 _ rfl; (with_reducible repeat (first | refine kN ?_ | refine kD ?_ | refine kA ?_)); refine blk_put (cs := #[.int .i64 0, .int .i64 0, .slice none 0 0, .slice none 0 0]) ?_ 2 _ rfl; (with_reducible repeat (first | refine kN ?_ | refine kD ?_ | refine kA ?_)); refine blk_put (cs := #[.int .i64 0, .int .i64 0, .slice none 0 0, .slice none 0 0]) ?_ 1 _ rfl; (with_reducible repeat (first | refine kN ?_ | refine kD ?_ | refine kA ?_)); refine blk_put (cs := #[.int .i64 0, .int .i64 0, .slice none 0 0, .slice none 0 0]) ?_ 0 _ rfl; (with_reducible repeat (first | refine kN ?_ | refine kD ?_ | refine kA ?_)); exact BK259.out) Try.underlying25 rfl (by kernel_rfl)) rfl ?_
 exact ⟨_, _, by first | rfl | (simp [errW_none, errW_some] <;> rfl) | (simp [*, errW_none, errW_some] <;> rfl), by first | exact Kd.R_nil _ _ _ _ _ | exact Kd.N_nil _ _ _ _ _ | exact Kd.V_nil _ _ _ _ _ | exact Kd.Q_nil _ _ _ _ _ | exact Kd.S_nil _ _ _ _ _, by first | exact Kd.S_nil _ _ _ _ _ | exact Kd.N_nil _ _ _ _ _ | exact Kd.V_nil _ _ _ _ _ | exact Kd.Q_nil _ _ _ _ _ | exact Kd.R_nil _ _ _ _ _, by repeat (first | (with_reducible first | exact HB.out | apply bA | apply bN | apply bD | refine bS ?_ ‹_›) | exact HB.out)⟩
 )
end Go.Proofs.Ytpjbmgoagehjkaa.PDfaProducts
