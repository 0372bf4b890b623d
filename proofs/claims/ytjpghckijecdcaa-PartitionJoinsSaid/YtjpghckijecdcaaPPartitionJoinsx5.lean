-- by hp.py of this repo, over the kit's print: Lean checks it
import Derived.Test.YtjpghckijecdcaaPPartitionJoinsx0
import Derived.Test.YtjpghckijecdcaaPPartitionJoinsx1
import Derived.Test.YtjpghckijecdcaaPPartitionJoinsx2
import Derived.Test.YtjpghckijecdcaaPPartitionJoinsx3
import Derived.Test.YtjpghckijecdcaaPPartitionJoinsx4
namespace Go.Proofs.Ytjpghckijecdcaa.PPartitionJoins
open Go.RowKit Go.Proofs.YtjpghckijecdcaaH Go.Proofs.YtjpghckijecdcaaW.PrintWords Go.Proofs.YtjpghckijecdcaaW.PrintLast Go.Proofs.YtjpghckijecdcaaW.PrintMore
attribute [local go_sem] max2_int min2_int max_two min_two max_three min_three max_four min_four   -- for this text's walks alone
set_option linter.unusedVariables false
set_option linter.unusedSimpArgs false

/-! ### semigrouplaw03_PartitionJoins: function 13 -/
mutual
def semigrouplaw03_PartitionJoins.j0 : Nat → Int → List (S42) → List (S42) → List Int → Bool → Option (Bool)
  | 0, _, _, _, _, _ => none
  | k + 1, x0, x1, x2, x3, x38 => if x38 = true then ((semigrouplaw03_awake.f k).bind fun t186 => (some t186)) else ((some (([] : List (S42)) : List (S42))).bind fun y187 => (if y187.length + x1.length < 8796093022208 then ((some (y187 ++ x1 : List (S42))).bind fun y190 => (if y190.length + x2.length < 8796093022208 then ((partition_FromPairs.f k x0 x1).bind fun t196 => ((partition_FromPairs.f k x0 x2).bind fun t199 => ((partition_Join.f k t196 t199).bind fun t202 => (if (t202.length : Int) = x0 then ((partition_FromPairs.f k x0 (y190 ++ x2)).bind fun t205 => ((semigroupref03_Same.f k t205 t202).bind fun t208 => (semigrouplaw03_PartitionJoins.j1 k x3 (!t208)))) else (semigrouplaw03_PartitionJoins.j1 k x3 true))))) else (none))) else (none)))
def semigrouplaw03_PartitionJoins.j1 : Nat → List Int → Bool → Option (Bool)
  | 0, _, _ => none
  | k + 1, x3, x63 => if x63 = true then (some false) else ((semigroupref03_Valid.f k x3).bind fun t209 => (if t209 = true then (semigrouplaw03_PartitionJoins.j2 k x3 (decide ((x3.length : Int) > 100))) else (semigrouplaw03_PartitionJoins.j2 k x3 true)))
def semigrouplaw03_PartitionJoins.j2 : Nat → List Int → Bool → Option (Bool)
  | 0, _, _ => none
  | k + 1, x3, x71 => if x71 = true then ((semigrouplaw03_awake.f k).bind fun t210 => (some t210)) else ((partition_Classes.f k x3).bind fun t211 => (semigrouplaw03_PartitionJoins.l0 k x3 ([] : List (S42)) t211 (t211.length : Int) 0))
def semigrouplaw03_PartitionJoins.l0 : Nat → List Int → List (S42) → List (List Int) → Int → Int → Option (Bool)
  | 0, _, _, _, _, _ => none
  | k + 1, x3, x11, x74, x75, x76 => if x76 < x75 then (if 0 ≤ x76 then (if x76 < (x74.length : Int) then (semigrouplaw03_PartitionJoins.l1 k x3 x11 (rd_L1 x74 x76) 1 x74 x75 x76) else (none)) else (none)) else ((partition_FromPairs.f k (x3.length : Int) x11).bind fun t214 => ((semigroupref03_Same.f k t214 x3).bind fun t217 => (if t217 = true then ((semigrouplaw03_awake.f k).bind fun t218 => (some t218)) else (some false))))
def semigrouplaw03_PartitionJoins.l1 : Nat → List Int → List (S42) → List Int → Int → List (List Int) → Int → Int → Option (Bool)
  | 0, _, _, _, _, _, _, _ => none
  | k + 1, x3, x11, x13, x14, x74, x75, x76 => if x14 < (x13.length : Int) then (if 0 ≤ (wrap64 (x14 - 1)) then (if (wrap64 (x14 - 1)) < (x13.length : Int) then (if 0 ≤ x14 then (if x11.length < 8796093022208 then (semigrouplaw03_PartitionJoins.l1 k x3 (x11 ++ [(⟨rd x13 (wrap64 (x14 - 1)), rd x13 x14⟩ : S42)]) x13 (wrap64 (x14 + 1)) x74 x75 x76) else (none)) else (none)) else (none)) else (none)) else (semigrouplaw03_PartitionJoins.l0 k x3 x11 x74 x75 (wrap64 (x76 + 1)))
end
def semigrouplaw03_PartitionJoins.f (k : Nat) (a0 : Int) (l1 : List (S42)) (l2 : List (S42)) (l3 : List Int) : Option (Bool) := (semigroupref03_MayPairs.f k a0 l1).bind fun t184 => (if t184 = true then ((semigroupref03_MayPairs.f k a0 l2).bind fun t185 => (if t185 = true then (if a0 > 100 then (semigrouplaw03_PartitionJoins.j0 k a0 l1 l2 l3 true) else (if (l1.length : Int) > 100 then (semigrouplaw03_PartitionJoins.j0 k a0 l1 l2 l3 true) else (semigrouplaw03_PartitionJoins.j0 k a0 l1 l2 l3 (decide ((l2.length : Int) > 100))))) else (semigrouplaw03_PartitionJoins.j0 k a0 l1 l2 l3 true))) else (semigrouplaw03_PartitionJoins.j0 k a0 l1 l2 l3 true))
theorem semigrouplaw03_PartitionJoins.mono_l : ∀ k, (∀ y0 y1 y2 y3 y4, LeO (semigrouplaw03_PartitionJoins.j0 k y0 y1 y2 y3 y4) (semigrouplaw03_PartitionJoins.j0 (k + 1) y0 y1 y2 y3 y4)) ∧ (∀ y0 y1, LeO (semigrouplaw03_PartitionJoins.j1 k y0 y1) (semigrouplaw03_PartitionJoins.j1 (k + 1) y0 y1)) ∧ (∀ y0 y1, LeO (semigrouplaw03_PartitionJoins.j2 k y0 y1) (semigrouplaw03_PartitionJoins.j2 (k + 1) y0 y1)) ∧ (∀ y0 y1 y2 y3 y4, LeO (semigrouplaw03_PartitionJoins.l0 k y0 y1 y2 y3 y4) (semigrouplaw03_PartitionJoins.l0 (k + 1) y0 y1 y2 y3 y4)) ∧ (∀ y0 y1 y2 y3 y4 y5 y6, LeO (semigrouplaw03_PartitionJoins.l1 k y0 y1 y2 y3 y4 y5 y6) (semigrouplaw03_PartitionJoins.l1 (k + 1) y0 y1 y2 y3 y4 y5 y6))
  | 0 => ⟨fun _ _ _ _ _ r h => by simp [semigrouplaw03_PartitionJoins.j0] at h, fun _ _ r h => by simp [semigrouplaw03_PartitionJoins.j1] at h, fun _ _ r h => by simp [semigrouplaw03_PartitionJoins.j2] at h, fun _ _ _ _ _ r h => by simp [semigrouplaw03_PartitionJoins.l0] at h, fun _ _ _ _ _ _ _ r h => by simp [semigrouplaw03_PartitionJoins.l1] at h⟩
  | k + 1 => by
    obtain ⟨ih0, ih1, ih2, ih3, ih4⟩ := semigrouplaw03_PartitionJoins.mono_l k
    refine ⟨?_, ?_, ?_, ?_, ?_⟩
    · intro y0 y1 y2 y3 y4
      unfold semigrouplaw03_PartitionJoins.j0
      repeat' first
      | (with_reducible exact ih0 _ _ _ _ _)
      | (with_reducible exact ih1 _ _)
      | (with_reducible exact ih2 _ _)
      | (with_reducible exact ih3 _ _ _ _ _)
      | (with_reducible exact ih4 _ _ _ _ _ _ _)
      | (with_reducible exact partition_Classes.mono _ _)
      | (with_reducible exact partition_FromPairs.mono _ _ _)
      | (with_reducible exact partition_Join.mono _ _ _)
      | (with_reducible exact semigrouplaw03_awake.mono _)
      | (with_reducible exact semigroupref03_MayPairs.mono _ _ _)
      | (with_reducible exact semigroupref03_Same.mono _ _ _)
      | (with_reducible exact semigroupref03_Valid.mono _ _)
      | (with_reducible exact LeO.refl _)
      | (with_reducible exact LeO.none _)
      | (with_reducible refine LeO.ite ?_ ?_)
      | (with_reducible refine LeO.bind ?_ (fun _ => ?_))
      | exact ih0 _ _ _ _ _
      | exact ih1 _ _
      | exact ih2 _ _
      | exact ih3 _ _ _ _ _
      | exact ih4 _ _ _ _ _ _ _
      | exact partition_Classes.mono _ _
      | exact partition_FromPairs.mono _ _ _
      | exact partition_Join.mono _ _ _
      | exact semigrouplaw03_awake.mono _
      | exact semigroupref03_MayPairs.mono _ _ _
      | exact semigroupref03_Same.mono _ _ _
      | exact semigroupref03_Valid.mono _ _
      | exact LeO.none _
      | refine LeO.ite ?_ ?_
      | refine LeO.bind ?_ (fun _ => ?_)
    · intro y0 y1
      unfold semigrouplaw03_PartitionJoins.j1
      repeat' first
      | (with_reducible exact ih0 _ _ _ _ _)
      | (with_reducible exact ih1 _ _)
      | (with_reducible exact ih2 _ _)
      | (with_reducible exact ih3 _ _ _ _ _)
      | (with_reducible exact ih4 _ _ _ _ _ _ _)
      | (with_reducible exact partition_Classes.mono _ _)
      | (with_reducible exact partition_FromPairs.mono _ _ _)
      | (with_reducible exact partition_Join.mono _ _ _)
      | (with_reducible exact semigrouplaw03_awake.mono _)
      | (with_reducible exact semigroupref03_MayPairs.mono _ _ _)
      | (with_reducible exact semigroupref03_Same.mono _ _ _)
      | (with_reducible exact semigroupref03_Valid.mono _ _)
      | (with_reducible exact LeO.refl _)
      | (with_reducible exact LeO.none _)
      | (with_reducible refine LeO.ite ?_ ?_)
      | (with_reducible refine LeO.bind ?_ (fun _ => ?_))
      | exact ih0 _ _ _ _ _
      | exact ih1 _ _
      | exact ih2 _ _
      | exact ih3 _ _ _ _ _
      | exact ih4 _ _ _ _ _ _ _
      | exact partition_Classes.mono _ _
      | exact partition_FromPairs.mono _ _ _
      | exact partition_Join.mono _ _ _
      | exact semigrouplaw03_awake.mono _
      | exact semigroupref03_MayPairs.mono _ _ _
      | exact semigroupref03_Same.mono _ _ _
      | exact semigroupref03_Valid.mono _ _
      | exact LeO.none _
      | refine LeO.ite ?_ ?_
      | refine LeO.bind ?_ (fun _ => ?_)
    · intro y0 y1
      unfold semigrouplaw03_PartitionJoins.j2
      repeat' first
      | (with_reducible exact ih0 _ _ _ _ _)
      | (with_reducible exact ih1 _ _)
      | (with_reducible exact ih2 _ _)
      | (with_reducible exact ih3 _ _ _ _ _)
      | (with_reducible exact ih4 _ _ _ _ _ _ _)
      | (with_reducible exact partition_Classes.mono _ _)
      | (with_reducible exact partition_FromPairs.mono _ _ _)
      | (with_reducible exact partition_Join.mono _ _ _)
      | (with_reducible exact semigrouplaw03_awake.mono _)
      | (with_reducible exact semigroupref03_MayPairs.mono _ _ _)
      | (with_reducible exact semigroupref03_Same.mono _ _ _)
      | (with_reducible exact semigroupref03_Valid.mono _ _)
      | (with_reducible exact LeO.refl _)
      | (with_reducible exact LeO.none _)
      | (with_reducible refine LeO.ite ?_ ?_)
      | (with_reducible refine LeO.bind ?_ (fun _ => ?_))
      | exact ih0 _ _ _ _ _
      | exact ih1 _ _
      | exact ih2 _ _
      | exact ih3 _ _ _ _ _
      | exact ih4 _ _ _ _ _ _ _
      | exact partition_Classes.mono _ _
      | exact partition_FromPairs.mono _ _ _
      | exact partition_Join.mono _ _ _
      | exact semigrouplaw03_awake.mono _
      | exact semigroupref03_MayPairs.mono _ _ _
      | exact semigroupref03_Same.mono _ _ _
      | exact semigroupref03_Valid.mono _ _
      | exact LeO.none _
      | refine LeO.ite ?_ ?_
      | refine LeO.bind ?_ (fun _ => ?_)
    · intro y0 y1 y2 y3 y4
      unfold semigrouplaw03_PartitionJoins.l0
      repeat' first
      | (with_reducible exact ih0 _ _ _ _ _)
      | (with_reducible exact ih1 _ _)
      | (with_reducible exact ih2 _ _)
      | (with_reducible exact ih3 _ _ _ _ _)
      | (with_reducible exact ih4 _ _ _ _ _ _ _)
      | (with_reducible exact partition_Classes.mono _ _)
      | (with_reducible exact partition_FromPairs.mono _ _ _)
      | (with_reducible exact partition_Join.mono _ _ _)
      | (with_reducible exact semigrouplaw03_awake.mono _)
      | (with_reducible exact semigroupref03_MayPairs.mono _ _ _)
      | (with_reducible exact semigroupref03_Same.mono _ _ _)
      | (with_reducible exact semigroupref03_Valid.mono _ _)
      | (with_reducible exact LeO.refl _)
      | (with_reducible exact LeO.none _)
      | (with_reducible refine LeO.ite ?_ ?_)
      | (with_reducible refine LeO.bind ?_ (fun _ => ?_))
      | exact ih0 _ _ _ _ _
      | exact ih1 _ _
      | exact ih2 _ _
      | exact ih3 _ _ _ _ _
      | exact ih4 _ _ _ _ _ _ _
      | exact partition_Classes.mono _ _
      | exact partition_FromPairs.mono _ _ _
      | exact partition_Join.mono _ _ _
      | exact semigrouplaw03_awake.mono _
      | exact semigroupref03_MayPairs.mono _ _ _
      | exact semigroupref03_Same.mono _ _ _
      | exact semigroupref03_Valid.mono _ _
      | exact LeO.none _
      | refine LeO.ite ?_ ?_
      | refine LeO.bind ?_ (fun _ => ?_)
    · intro y0 y1 y2 y3 y4 y5 y6
      unfold semigrouplaw03_PartitionJoins.l1
      repeat' first
      | (with_reducible exact ih0 _ _ _ _ _)
      | (with_reducible exact ih1 _ _)
      | (with_reducible exact ih2 _ _)
      | (with_reducible exact ih3 _ _ _ _ _)
      | (with_reducible exact ih4 _ _ _ _ _ _ _)
      | (with_reducible exact partition_Classes.mono _ _)
      | (with_reducible exact partition_FromPairs.mono _ _ _)
      | (with_reducible exact partition_Join.mono _ _ _)
      | (with_reducible exact semigrouplaw03_awake.mono _)
      | (with_reducible exact semigroupref03_MayPairs.mono _ _ _)
      | (with_reducible exact semigroupref03_Same.mono _ _ _)
      | (with_reducible exact semigroupref03_Valid.mono _ _)
      | (with_reducible exact LeO.refl _)
      | (with_reducible exact LeO.none _)
      | (with_reducible refine LeO.ite ?_ ?_)
      | (with_reducible refine LeO.bind ?_ (fun _ => ?_))
      | exact ih0 _ _ _ _ _
      | exact ih1 _ _
      | exact ih2 _ _
      | exact ih3 _ _ _ _ _
      | exact ih4 _ _ _ _ _ _ _
      | exact partition_Classes.mono _ _
      | exact partition_FromPairs.mono _ _ _
      | exact partition_Join.mono _ _ _
      | exact semigrouplaw03_awake.mono _
      | exact semigroupref03_MayPairs.mono _ _ _
      | exact semigroupref03_Same.mono _ _ _
      | exact semigroupref03_Valid.mono _ _
      | exact LeO.none _
      | refine LeO.ite ?_ ?_
      | refine LeO.bind ?_ (fun _ => ?_)
theorem semigrouplaw03_PartitionJoins.mono : ∀ a0 a1 a2 a3 k, LeO (semigrouplaw03_PartitionJoins.f k a0 a1 a2 a3) (semigrouplaw03_PartitionJoins.f (k + 1) a0 a1 a2 a3) := by
  intro a0 a1 a2 a3 k
  obtain ⟨ih0, ih1, ih2, ih3, ih4⟩ := semigrouplaw03_PartitionJoins.mono_l k
  unfold semigrouplaw03_PartitionJoins.f
  repeat' first
      | (with_reducible exact ih0 _ _ _ _ _)
      | (with_reducible exact ih1 _ _)
      | (with_reducible exact ih2 _ _)
      | (with_reducible exact ih3 _ _ _ _ _)
      | (with_reducible exact ih4 _ _ _ _ _ _ _)
      | (with_reducible exact partition_Classes.mono _ _)
      | (with_reducible exact partition_FromPairs.mono _ _ _)
      | (with_reducible exact partition_Join.mono _ _ _)
      | (with_reducible exact semigrouplaw03_awake.mono _)
      | (with_reducible exact semigroupref03_MayPairs.mono _ _ _)
      | (with_reducible exact semigroupref03_Same.mono _ _ _)
      | (with_reducible exact semigroupref03_Valid.mono _ _)
      | (with_reducible exact LeO.refl _)
      | (with_reducible exact LeO.none _)
      | (with_reducible refine LeO.ite ?_ ?_)
      | (with_reducible refine LeO.bind ?_ (fun _ => ?_))
      | exact ih0 _ _ _ _ _
      | exact ih1 _ _
      | exact ih2 _ _
      | exact ih3 _ _ _ _ _
      | exact ih4 _ _ _ _ _ _ _
      | exact partition_Classes.mono _ _
      | exact partition_FromPairs.mono _ _ _
      | exact partition_Join.mono _ _ _
      | exact semigrouplaw03_awake.mono _
      | exact semigroupref03_MayPairs.mono _ _ _
      | exact semigroupref03_Same.mono _ _ _
      | exact semigroupref03_Valid.mono _ _
      | exact LeO.none _
      | refine LeO.ite ?_ ?_
      | refine LeO.bind ?_ (fun _ => ?_)
def semigrouplaw03_PartitionJoins.T16 : Bool × List (List Nat × List Nat) := (true, [([], []), ([], []), ([], []), ([2], [2]), ([1, 3], [1, 3]), ([4], [4]), ([], []), ([], []), ([6, 7], [6, 7]), ([8], [8]), ([5, 9], [5, 9]), ([10], [10]), ([0, 11], [0, 11]), ([12, 12, 0, 1, 2, 3, 4, 5, 6, 7, 8, 9, 10, 11, 12], [0, 12])])
def semigrouplaw03_PartitionJoins.B16 : List Nat := [0, 0, 0, 4, 14, 30, 0, 0, 192, 448, 1022, 2046, 4095, 8191]
theorem semigrouplaw03_PartitionJoins.tab16 : rtab .any (opsOf Try.f13 16) = semigrouplaw03_PartitionJoins.T16 := by kernel_rfl
theorem semigrouplaw03_PartitionJoins.bits16 : waitsOk semigrouplaw03_PartitionJoins.T16.2 semigrouplaw03_PartitionJoins.B16 = true := by kernel_rfl
set_option maxHeartbeats 8000000 in
set_option maxRecDepth 100000 in
theorem semigrouplaw03_PartitionJoins.calls (k : Nat) (a0 : Int) (A1 : Option Addr) (c1 : Nat) (l1 : List (S42)) (A2 : Option Addr) (c2 : Nat) (l2 : List (S42)) (A3 : Option Addr) (c3 : Nat) (l3 : List Int) (r : Bool) (w : World) (hr1 : Kd.C k42 w A1 l1.length l1) (hc1 : l1.length ≤ c1) (hr2 : Kd.C k42 w A2 l2.length l2) (hc2 : l2.length ≤ c2) (hr3 : Kd.C (Kd.int .i64) w A3 l3.length l3) (hc3 : l3.length ≤ c3) (h : semigrouplaw03_PartitionJoins.f k a0 l1 l2 l3 = some r) :
    Calls Try.prog 13 #[.int .i64 a0, .slice A1 l1.length c1, .slice A2 l2.length c2, .slice A3 l3.length c3] w fun e w' => e = .returned (.bool r) ∧ Below w.heap.size w w' := by
  have hu42 := Try.underlying42
  have HR1 := Aside0.mk hr1
  have HC1 := Aside0.mk hc1
  clear hr1 hc1
  have HR2 := Aside0.mk hr2
  have HC2 := Aside0.mk hc2
  clear hr2 hc2
  have HR3 := Aside0.mk hr3
  have HC3 := Aside0.mk hc3
  clear hr3 hc3
  have HB := Aside0.mk (Below.refl w.heap.size w)
  have H : ((semigroupref03_MayPairs.f k a0 l1).bind fun t184 => (if t184 = true then ((semigroupref03_MayPairs.f k a0 l2).bind fun t185 => (if t185 = true then (if a0 > 100 then (semigrouplaw03_PartitionJoins.j0 k a0 l1 l2 l3 true) else (if (l1.length : Int) > 100 then (semigrouplaw03_PartitionJoins.j0 k a0 l1 l2 l3 true) else (semigrouplaw03_PartitionJoins.j0 k a0 l1 l2 l3 (decide ((l2.length : Int) > 100))))) else (semigrouplaw03_PartitionJoins.j0 k a0 l1 l2 l3 true))) else (semigrouplaw03_PartitionJoins.j0 k a0 l1 l2 l3 true))) = some r := h
  clear h
  have HC5 := Aside0.mk H
  clear H
  go_enter Try.func13, Try.ntmps13
  go_upto_region 1 with (fail)
  go_cut [38] (fun v38 wc => ∃ (kq : Nat) (x38_4 : Bool), v38 = .bool x38_4 ∧ Aside0 (semigrouplaw03_PartitionJoins.j0 kq a0 l1 l2 l3 x38_4 = some r) ∧ Aside0 (kq ≤ k) ∧ Aside0 (Below w.heap.size w wc))
  case first =>
    have H := HC5.out
    clear HC5
    replace H := Option.bind_eq_some_iff.mp H
    obtain ⟨t184, A60, H⟩ := H
    replace H : (if t184 = true then ((semigroupref03_MayPairs.f k a0 l2).bind fun t185 => (if t185 = true then (if a0 > 100 then (semigrouplaw03_PartitionJoins.j0 k a0 l1 l2 l3 true) else (if (l1.length : Int) > 100 then (semigrouplaw03_PartitionJoins.j0 k a0 l1 l2 l3 true) else (semigrouplaw03_PartitionJoins.j0 k a0 l1 l2 l3 (decide ((l2.length : Int) > 100))))) else (semigrouplaw03_PartitionJoins.j0 k a0 l1 l2 l3 true))) else (semigrouplaw03_PartitionJoins.j0 k a0 l1 l2 l3 true)) = some r := H
    have A6 := Aside0.mk A60
    clear A60
    by_cases c7 : t184 = true
    · subst c7
      have H1 : ((semigroupref03_MayPairs.f k a0 l2).bind fun t185 => (if t185 = true then (if a0 > 100 then (semigrouplaw03_PartitionJoins.j0 k a0 l1 l2 l3 true) else (if (l1.length : Int) > 100 then (semigrouplaw03_PartitionJoins.j0 k a0 l1 l2 l3 true) else (semigrouplaw03_PartitionJoins.j0 k a0 l1 l2 l3 (decide ((l2.length : Int) > 100))))) else (semigrouplaw03_PartitionJoins.j0 k a0 l1 l2 l3 true))) = some r := by rw [if_pos rfl] at H; exact H
      clear H
      have H := H1
      clear H1
      replace H := Option.bind_eq_some_iff.mp H
      obtain ⟨t185, A80, H⟩ := H
      replace H : (if t185 = true then (if a0 > 100 then (semigrouplaw03_PartitionJoins.j0 k a0 l1 l2 l3 true) else (if (l1.length : Int) > 100 then (semigrouplaw03_PartitionJoins.j0 k a0 l1 l2 l3 true) else (semigrouplaw03_PartitionJoins.j0 k a0 l1 l2 l3 (decide ((l2.length : Int) > 100))))) else (semigrouplaw03_PartitionJoins.j0 k a0 l1 l2 l3 true)) = some r := H
      have A8 := Aside0.mk A80
      clear A80
      by_cases c9 : t185 = true
      · subst c9
        have H1 : (if a0 > 100 then (semigrouplaw03_PartitionJoins.j0 k a0 l1 l2 l3 true) else (if (l1.length : Int) > 100 then (semigrouplaw03_PartitionJoins.j0 k a0 l1 l2 l3 true) else (semigrouplaw03_PartitionJoins.j0 k a0 l1 l2 l3 (decide ((l2.length : Int) > 100))))) = some r := by rw [if_pos rfl] at H; exact H
        clear H
        have H := H1
        clear H1
        by_cases c10 : a0 > 100
        · rw [if_pos c10] at H
          have c10b0 : decide (100 < a0) = true := decide_eq_true c10
          clear c10
          (first | rw [c10b0] | (simp only [i64_w, i32_w]; rw [c10b0]) | skip)
          have H' := Aside0.mk H
          clear H
          go_wp2_with (first | ((with_reducible refine gate_callee (f := 27) rfl ?_); refine goesL_ (some 17) rfl rfl Try.func27 (by kernel_rfl) rfl #[.int .i64 a0, .slice A1 l1.length c1] rfl (by (try simp only [List.map_toArray, List.map_cons, List.map_nil]); first | done | rfl | (simp only [List.length_drop, List.length_take]; rfl)) ?_; (with_reducible refine (semigroupref03_MayPairs.calls k a0 _ _ l1 true _ ?side1 ?side2 A6.out).mono ?_); (case side1 => repeat (first | exact (Kd.C_below HR1.out HB.out) | (with_reducible refine Kd.C_alloc ?_ _) | (with_reducible refine Kd.C_drewN ?_ _) | (with_reducible refine Kd.C_drew ?_))); (case side2 => exact HC1.out); rintro e w11 ⟨rfl, hb⟩; refine ⟨_, rfl, ?_⟩; have n0_ := Aside0.mk (below_step (by repeat (first | (with_reducible first | exact HB.out | apply below_alloc | apply pw_below_drewN | apply below_drew1) | exact HB.out)) hb); clear HB; have HB := n0_; clear n0_; (try clear hb); (try clear hb2); (try clear hk); (try clear hi)) | (go_at_call 27; (with_reducible refine (semigroupref03_MayPairs.calls k a0 _ _ l2 true _ ?side1 ?side2 A8.out).mono ?_); (case side1 => repeat (first | exact (Kd.C_below HR2.out HB.out) | (with_reducible refine Kd.C_alloc ?_ _) | (with_reducible refine Kd.C_drewN ?_ _) | (with_reducible refine Kd.C_drew ?_))); (case side2 => exact HC2.out); rintro e w12 ⟨rfl, hb⟩; have n0_ := Aside0.mk (below_step (by repeat (first | (with_reducible first | exact HB.out | apply below_alloc | apply pw_below_drewN | apply below_drew1) | exact HB.out)) hb); clear HB; have HB := n0_; clear n0_; (try clear hb); (try clear hb2); (try clear hk); (try clear hi)))
          go_meet
          case rel => exact ⟨_, (true), (by first | rfl | (simp; done) | (simp [*]; done)), H', ⟨by first | omega | exact Nat.le_refl _⟩, ⟨by repeat (first | (with_reducible first | exact HB.out | apply below_alloc | apply pw_below_drewN | apply below_drew1) | exact HB.out)⟩⟩
        · rw [if_neg c10] at H
          have c10b0 : decide (100 < a0) = false := decide_eq_false c10
          clear c10
          (first | rw [c10b0] | (simp only [i64_w, i32_w]; rw [c10b0]) | skip)
          by_cases c13 : (l1.length : Int) > 100
          · rw [if_pos c13] at H
            have c13b0 : decide (100 < (l1.length : Int)) = true := decide_eq_true c13
            have c13b1 : decide (100 < l1.length) = true := decide_eq_true (by omega)
            clear c13
            have H' := Aside0.mk H
            clear H
            go_wp2_with (first | ((with_reducible refine gate_callee (f := 27) rfl ?_); refine goesL_ (some 17) rfl rfl Try.func27 (by kernel_rfl) rfl #[.int .i64 a0, .slice A1 l1.length c1] rfl (by (try simp only [List.map_toArray, List.map_cons, List.map_nil]); first | done | rfl | (simp only [List.length_drop, List.length_take]; rfl)) ?_; (with_reducible refine (semigroupref03_MayPairs.calls k a0 _ _ l1 true _ ?side1 ?side2 A6.out).mono ?_); (case side1 => repeat (first | exact (Kd.C_below HR1.out HB.out) | (with_reducible refine Kd.C_alloc ?_ _) | (with_reducible refine Kd.C_drewN ?_ _) | (with_reducible refine Kd.C_drew ?_))); (case side2 => exact HC1.out); rintro e w14 ⟨rfl, hb⟩; refine ⟨_, rfl, ?_⟩; have n0_ := Aside0.mk (below_step (by repeat (first | (with_reducible first | exact HB.out | apply below_alloc | apply pw_below_drewN | apply below_drew1) | exact HB.out)) hb); clear HB; have HB := n0_; clear n0_; (try clear hb); (try clear hb2); (try clear hk); (try clear hi)) | (go_at_call 27; (with_reducible refine (semigroupref03_MayPairs.calls k a0 _ _ l2 true _ ?side1 ?side2 A8.out).mono ?_); (case side1 => repeat (first | exact (Kd.C_below HR2.out HB.out) | (with_reducible refine Kd.C_alloc ?_ _) | (with_reducible refine Kd.C_drewN ?_ _) | (with_reducible refine Kd.C_drew ?_))); (case side2 => exact HC2.out); rintro e w15 ⟨rfl, hb⟩; have n0_ := Aside0.mk (below_step (by repeat (first | (with_reducible first | exact HB.out | apply below_alloc | apply pw_below_drewN | apply below_drew1) | exact HB.out)) hb); clear HB; have HB := n0_; clear n0_; (try clear hb); (try clear hb2); (try clear hk); (try clear hi)))
            go_meet
            case rel => exact ⟨_, (true), (by first | rfl | (simp; done) | (simp [*]; done)), H', ⟨by first | omega | exact Nat.le_refl _⟩, ⟨by repeat (first | (with_reducible first | exact HB.out | apply below_alloc | apply pw_below_drewN | apply below_drew1) | exact HB.out)⟩⟩
          · rw [if_neg c13] at H
            have c13b0 : decide (100 < (l1.length : Int)) = false := decide_eq_false c13
            have c13b1 : decide (100 < l1.length) = false := decide_eq_false (by omega)
            clear c13
            have H' := Aside0.mk H
            clear H
            go_wp2_with (first | ((with_reducible refine gate_callee (f := 27) rfl ?_); refine goesL_ (some 17) rfl rfl Try.func27 (by kernel_rfl) rfl #[.int .i64 a0, .slice A1 l1.length c1] rfl (by (try simp only [List.map_toArray, List.map_cons, List.map_nil]); first | done | rfl | (simp only [List.length_drop, List.length_take]; rfl)) ?_; (with_reducible refine (semigroupref03_MayPairs.calls k a0 _ _ l1 true _ ?side1 ?side2 A6.out).mono ?_); (case side1 => repeat (first | exact (Kd.C_below HR1.out HB.out) | (with_reducible refine Kd.C_alloc ?_ _) | (with_reducible refine Kd.C_drewN ?_ _) | (with_reducible refine Kd.C_drew ?_))); (case side2 => exact HC1.out); rintro e w16 ⟨rfl, hb⟩; refine ⟨_, rfl, ?_⟩; have n0_ := Aside0.mk (below_step (by repeat (first | (with_reducible first | exact HB.out | apply below_alloc | apply pw_below_drewN | apply below_drew1) | exact HB.out)) hb); clear HB; have HB := n0_; clear n0_; (try clear hb); (try clear hb2); (try clear hk); (try clear hi)) | (go_at_call 27; (with_reducible refine (semigroupref03_MayPairs.calls k a0 _ _ l2 true _ ?side1 ?side2 A8.out).mono ?_); (case side1 => repeat (first | exact (Kd.C_below HR2.out HB.out) | (with_reducible refine Kd.C_alloc ?_ _) | (with_reducible refine Kd.C_drewN ?_ _) | (with_reducible refine Kd.C_drew ?_))); (case side2 => exact HC2.out); rintro e w17 ⟨rfl, hb⟩; have n0_ := Aside0.mk (below_step (by repeat (first | (with_reducible first | exact HB.out | apply below_alloc | apply pw_below_drewN | apply below_drew1) | exact HB.out)) hb); clear HB; have HB := n0_; clear n0_; (try clear hb); (try clear hb2); (try clear hk); (try clear hi)))
            go_meet
            case rel => exact ⟨_, (decide ((l2.length : Int) > 100)), (by first | rfl | (simp; done) | (simp [*]; done)), H', ⟨by first | omega | exact Nat.le_refl _⟩, ⟨by repeat (first | (with_reducible first | exact HB.out | apply below_alloc | apply pw_below_drewN | apply below_drew1) | exact HB.out)⟩⟩
      · replace c9 := Bool.eq_false_iff.mpr c9
        subst c9
        have H1 : (semigrouplaw03_PartitionJoins.j0 k a0 l1 l2 l3 true) = some r := by rw [if_neg (show ¬ (false = true) by decide)] at H; exact H
        clear H
        have H := H1
        clear H1
        have H' := Aside0.mk H
        clear H
        go_wp2_with (first | ((with_reducible refine gate_callee (f := 27) rfl ?_); refine goesL_ (some 17) rfl rfl Try.func27 (by kernel_rfl) rfl #[.int .i64 a0, .slice A1 l1.length c1] rfl (by (try simp only [List.map_toArray, List.map_cons, List.map_nil]); first | done | rfl | (simp only [List.length_drop, List.length_take]; rfl)) ?_; (with_reducible refine (semigroupref03_MayPairs.calls k a0 _ _ l1 true _ ?side1 ?side2 A6.out).mono ?_); (case side1 => repeat (first | exact (Kd.C_below HR1.out HB.out) | (with_reducible refine Kd.C_alloc ?_ _) | (with_reducible refine Kd.C_drewN ?_ _) | (with_reducible refine Kd.C_drew ?_))); (case side2 => exact HC1.out); rintro e w18 ⟨rfl, hb⟩; refine ⟨_, rfl, ?_⟩; have n0_ := Aside0.mk (below_step (by repeat (first | (with_reducible first | exact HB.out | apply below_alloc | apply pw_below_drewN | apply below_drew1) | exact HB.out)) hb); clear HB; have HB := n0_; clear n0_; (try clear hb); (try clear hb2); (try clear hk); (try clear hi)) | (go_at_call 27; (with_reducible refine (semigroupref03_MayPairs.calls k a0 _ _ l2 false _ ?side1 ?side2 A8.out).mono ?_); (case side1 => repeat (first | exact (Kd.C_below HR2.out HB.out) | (with_reducible refine Kd.C_alloc ?_ _) | (with_reducible refine Kd.C_drewN ?_ _) | (with_reducible refine Kd.C_drew ?_))); (case side2 => exact HC2.out); rintro e w19 ⟨rfl, hb⟩; have n0_ := Aside0.mk (below_step (by repeat (first | (with_reducible first | exact HB.out | apply below_alloc | apply pw_below_drewN | apply below_drew1) | exact HB.out)) hb); clear HB; have HB := n0_; clear n0_; (try clear hb); (try clear hb2); (try clear hk); (try clear hi)))
        go_meet
        case rel => exact ⟨_, (true), (by first | rfl | (simp; done) | (simp [*]; done)), H', ⟨by first | omega | exact Nat.le_refl _⟩, ⟨by repeat (first | (with_reducible first | exact HB.out | apply below_alloc | apply pw_below_drewN | apply below_drew1) | exact HB.out)⟩⟩
    · replace c7 := Bool.eq_false_iff.mpr c7
      subst c7
      have H1 : (semigrouplaw03_PartitionJoins.j0 k a0 l1 l2 l3 true) = some r := by rw [if_neg (show ¬ (false = true) by decide)] at H; exact H
      clear H
      have H := H1
      clear H1
      have H' := Aside0.mk H
      clear H
      go_wp2_with (first | ((with_reducible refine gate_callee (f := 27) rfl ?_); refine goesL_ (some 17) rfl rfl Try.func27 (by kernel_rfl) rfl #[.int .i64 a0, .slice A1 l1.length c1] rfl (by (try simp only [List.map_toArray, List.map_cons, List.map_nil]); first | done | rfl | (simp only [List.length_drop, List.length_take]; rfl)) ?_; (with_reducible refine (semigroupref03_MayPairs.calls k a0 _ _ l1 false _ ?side1 ?side2 A6.out).mono ?_); (case side1 => repeat (first | exact (Kd.C_below HR1.out HB.out) | (with_reducible refine Kd.C_alloc ?_ _) | (with_reducible refine Kd.C_drewN ?_ _) | (with_reducible refine Kd.C_drew ?_))); (case side2 => exact HC1.out); rintro e w20 ⟨rfl, hb⟩; refine ⟨_, rfl, ?_⟩; have n0_ := Aside0.mk (below_step (by repeat (first | (with_reducible first | exact HB.out | apply below_alloc | apply pw_below_drewN | apply below_drew1) | exact HB.out)) hb); clear HB; have HB := n0_; clear n0_; (try clear hb); (try clear hb2); (try clear hk); (try clear hi)))
      go_meet
      case rel => exact ⟨_, (true), (by first | rfl | (simp; done) | (simp [*]; done)), H', ⟨by first | omega | exact Nat.le_refl _⟩, ⟨by repeat (first | (with_reducible first | exact HB.out | apply below_alloc | apply pw_below_drewN | apply below_drew1) | exact HB.out)⟩⟩
  case rest =>
    clear HC5
    try clear c1
    try clear c2
    try clear p2
    try clear c3
    try clear c7
    try clear c9
    try clear c10
    try clear c10b0
    try clear c13
    try clear c13b0
    try clear c13b1
    obtain ⟨kq, x38_4, rfl, HA, HJ4, HB⟩ := hcut
    cases kq with
    | zero => exact absurd HA.out (by simp [semigrouplaw03_PartitionJoins.j0])
    | succ kj4 =>
      have H := HA.out
      clear HA
      simp only [semigrouplaw03_PartitionJoins.j0] at H
      by_cases c21 : x38_4 = true
      · subst c21
        have H1 : ((semigrouplaw03_awake.f kj4).bind fun t186 => (some t186)) = some r := by rw [if_pos rfl] at H; exact H
        clear H
        have H := H1
        clear H1
        replace H := Option.bind_eq_some_iff.mp H
        obtain ⟨t186, A220, H⟩ := H
        replace H : (some t186) = some r := H
        have A22 := Aside0.mk A220
        clear A220
        obtain rfl := Option.some.inj H
        go_wp2_with (first | ((with_reducible refine gate_callee (f := 20) rfl ?_); refine goesL_ (some 39) rfl rfl Try.func20 (by kernel_rfl) rfl #[] rfl (by (try simp only [List.map_toArray, List.map_cons, List.map_nil]); first | done | rfl | (simp only [List.length_drop, List.length_take]; rfl)) ?_; (with_reducible refine (semigrouplaw03_awake.calls kj4  t186 _ A22.out).mono ?_); rintro e w23 ⟨rfl, hb⟩; refine ⟨_, rfl, ?_⟩; have n0_ := Aside0.mk (below_step (by repeat (first | (with_reducible first | exact HB.out | apply below_alloc | apply pw_below_drewN | apply below_drew1) | exact HB.out)) hb); clear HB; have HB := n0_; clear n0_; (try clear hb); (try clear hb2); (try clear hk); (try clear hi)))
        go_ret
        exact ⟨by first | rfl | (simp [errW_none, errW_some] <;> rfl) | (simp [*, errW_none, errW_some] <;> rfl), by repeat (first | (with_reducible first | exact HB.out | apply below_alloc | apply pw_below_drewN | apply below_drew1) | exact HB.out)⟩
      · replace c21 := Bool.eq_false_iff.mpr c21
        subst c21
        have H1 : ((some (([] : List (S42)) : List (S42))).bind fun y187 => (if y187.length + l1.length < 8796093022208 then ((some (y187 ++ l1 : List (S42))).bind fun y190 => (if y190.length + l2.length < 8796093022208 then ((partition_FromPairs.f kj4 a0 l1).bind fun t196 => ((partition_FromPairs.f kj4 a0 l2).bind fun t199 => ((partition_Join.f kj4 t196 t199).bind fun t202 => (if (t202.length : Int) = a0 then ((partition_FromPairs.f kj4 a0 (y190 ++ l2)).bind fun t205 => ((semigroupref03_Same.f kj4 t205 t202).bind fun t208 => (semigrouplaw03_PartitionJoins.j1 kj4 l3 (!t208)))) else (semigrouplaw03_PartitionJoins.j1 kj4 l3 true))))) else (none))) else (none))) = some r := by rw [if_neg (show ¬ (false = true) by decide)] at H; exact H
        clear H
        have H := H1
        clear H1
        obtain ⟨y187, hy187⟩ : ∃ y_ : List (S42), y_ = (([] : List (S42))) := ⟨_, rfl⟩
        replace H : (if y187.length + l1.length < 8796093022208 then ((some (y187 ++ l1 : List (S42))).bind fun y190 => (if y190.length + l2.length < 8796093022208 then ((partition_FromPairs.f kj4 a0 l1).bind fun t196 => ((partition_FromPairs.f kj4 a0 l2).bind fun t199 => ((partition_Join.f kj4 t196 t199).bind fun t202 => (if (t202.length : Int) = a0 then ((partition_FromPairs.f kj4 a0 (y190 ++ l2)).bind fun t205 => ((semigroupref03_Same.f kj4 t205 t202).bind fun t208 => (semigrouplaw03_PartitionJoins.j1 kj4 l3 (!t208)))) else (semigrouplaw03_PartitionJoins.j1 kj4 l3 true))))) else (none))) else (none)) = some r := by first | (rw [hy187]; with_reducible exact H) | (have H2_ := (Option.bind_some _ _).symm.trans H; rw [hy187]; with_reducible exact H2_) | (have H2_ := (Option.bind_some _ _).symm.trans H; with_reducible exact H2_) | with_reducible exact H | (rw [hy187]; exact H) | exact H
        have Ny187 := Aside0.mk hy187
        clear hy187
        by_cases c24 : y187.length + l1.length < 8796093022208
        · rw [if_pos c24] at H
          have LMc24 := Aside0.mk c24
          clear c24
          obtain ⟨y190, hy190⟩ : ∃ y_ : List (S42), y_ = (y187 ++ l1) := ⟨_, rfl⟩
          replace H : (if y190.length + l2.length < 8796093022208 then ((partition_FromPairs.f kj4 a0 l1).bind fun t196 => ((partition_FromPairs.f kj4 a0 l2).bind fun t199 => ((partition_Join.f kj4 t196 t199).bind fun t202 => (if (t202.length : Int) = a0 then ((partition_FromPairs.f kj4 a0 (y190 ++ l2)).bind fun t205 => ((semigroupref03_Same.f kj4 t205 t202).bind fun t208 => (semigrouplaw03_PartitionJoins.j1 kj4 l3 (!t208)))) else (semigrouplaw03_PartitionJoins.j1 kj4 l3 true))))) else (none)) = some r := by first | (rw [hy190]; with_reducible exact H) | (have H2_ := (Option.bind_some _ _).symm.trans H; rw [hy190]; with_reducible exact H2_) | (have H2_ := (Option.bind_some _ _).symm.trans H; with_reducible exact H2_) | with_reducible exact H | (rw [hy190]; exact H) | exact H
          have Ny190 := Aside0.mk hy190
          clear hy190
          by_cases c25 : y190.length + l2.length < 8796093022208
          · rw [if_pos c25] at H
            have LMc25 := Aside0.mk c25
            clear c25
            obtain ⟨y193, hy193⟩ : ∃ y_ : List (S42), y_ = (y190 ++ l2) := ⟨_, rfl⟩
            replace H : ((partition_FromPairs.f kj4 a0 l1).bind fun t196 => ((partition_FromPairs.f kj4 a0 l2).bind fun t199 => ((partition_Join.f kj4 t196 t199).bind fun t202 => (if (t202.length : Int) = a0 then ((partition_FromPairs.f kj4 a0 y193).bind fun t205 => ((semigroupref03_Same.f kj4 t205 t202).bind fun t208 => (semigrouplaw03_PartitionJoins.j1 kj4 l3 (!t208)))) else (semigrouplaw03_PartitionJoins.j1 kj4 l3 true))))) = some r := by first | (rw [hy193]; with_reducible exact H) | (have H2_ := (Option.bind_some _ _).symm.trans H; rw [hy193]; with_reducible exact H2_) | (have H2_ := (Option.bind_some _ _).symm.trans H; with_reducible exact H2_) | with_reducible exact H | (rw [hy193]; exact H) | exact H
            have Ny193 := Aside0.mk hy193
            clear hy193
            replace H := Option.bind_eq_some_iff.mp H
            obtain ⟨t196, A260, H⟩ := H
            replace H : ((partition_FromPairs.f kj4 a0 l2).bind fun t199 => ((partition_Join.f kj4 t196 t199).bind fun t202 => (if (t202.length : Int) = a0 then ((partition_FromPairs.f kj4 a0 y193).bind fun t205 => ((semigroupref03_Same.f kj4 t205 t202).bind fun t208 => (semigrouplaw03_PartitionJoins.j1 kj4 l3 (!t208)))) else (semigrouplaw03_PartitionJoins.j1 kj4 l3 true)))) = some r := H
            have A26 := Aside0.mk A260
            clear A260
            replace H := Option.bind_eq_some_iff.mp H
            obtain ⟨t199, A270, H⟩ := H
            replace H : ((partition_Join.f kj4 t196 t199).bind fun t202 => (if (t202.length : Int) = a0 then ((partition_FromPairs.f kj4 a0 y193).bind fun t205 => ((semigroupref03_Same.f kj4 t205 t202).bind fun t208 => (semigrouplaw03_PartitionJoins.j1 kj4 l3 (!t208)))) else (semigrouplaw03_PartitionJoins.j1 kj4 l3 true))) = some r := H
            have A27 := Aside0.mk A270
            clear A270
            replace H := Option.bind_eq_some_iff.mp H
            obtain ⟨t202, A280, H⟩ := H
            replace H : (if (t202.length : Int) = a0 then ((partition_FromPairs.f kj4 a0 y193).bind fun t205 => ((semigroupref03_Same.f kj4 t205 t202).bind fun t208 => (semigrouplaw03_PartitionJoins.j1 kj4 l3 (!t208)))) else (semigrouplaw03_PartitionJoins.j1 kj4 l3 true)) = some r := H
            have A28 := Aside0.mk A280
            clear A280
            have HC29 := Aside0.mk H
            clear H
            go_upto_region 5 with (first | ((with_reducible refine gate_dst (N := 40) rfl ?_); (try (refine gate_guard (by rfl) ?_; dsimp only)); refine Kd.R_lit k42 _ 42 ?hg (N := 40) ?hd (xs := ([] : List (S42))) (inner := []) (ok := fun _ => True) (okp := fun _ => True) ?hr ?hp (fun _ hk => hk) trivial (Below.refl _ _) (Nat.le_refl _) (by simp) ?_; (case hd => rfl); (case hg => rfl); (case hr => first | (go_simp; done) | (go_simp; rfl)); (case hp => exact (Reps.none _ _)); intro v188 w30 ho31 hb hg_ hnew_; clear hg_ hnew_; (first | rw [← Ny187.out] at ho31 | (simp only [Int.reduceToNat] at ho31; rw [← Ny187.out] at ho31)); have n0_ := Aside0.mk (Kd.R_lower ho31 (below_size (by repeat (first | (with_reducible first | exact HB.out | apply below_alloc | apply pw_below_drewN | apply below_drew1) | exact HB.out)))); have n1_ := Aside0.mk (below_step (by repeat (first | (with_reducible first | exact HB.out | apply below_alloc | apply pw_below_drewN | apply below_drew1) | exact HB.out)) hb); clear HB; have HO189 := n0_; have HB := n1_; clear n0_ n1_; clear hb ho31) | ((with_reducible refine gate_builtin (b := .append) (xs := #[.tmp 40, .tmp 41]) rfl ?_); (try (refine gate_guard (by rfl) ?_; dsimp only)); at_builtin; refine Kd.R_append_rows k42 (w0 := w) w.heap.size rfl (.tmp 40) (.tmp 41) 31 42 (.agg #[(.int .i64 0), (.int .i64 0)]) 16 rfl Try.underlying31 info42 rfl (by decide) (by omega) v188 y187 l1 _ _ _ (fun _ => True) (fun _ => False) rfl rfl ?aO ?aR (fun _ _ h => h) (fun _ h => h.elim) ?aF ?aB ?aS ?aL ?_; (case aR => repeat (first | exact (Kd.C_below HR1.out HB.out) | (with_reducible refine Kd.C_alloc ?_ _) | (with_reducible refine Kd.C_drewN ?_ _) | (with_reducible refine Kd.C_drew ?_))); (case aB => exact (by repeat (first | (with_reducible first | exact HB.out | apply below_alloc | apply pw_below_drewN | apply below_drew1) | exact HB.out))); (case aF => exact (fun _ _ => trivial)); (case aO => exact (by (with_reducible repeat (first | apply Kd.R_alloc | apply Kd.R_drewN | apply Kd.R_drew)); exact HO189.out)); (case aS => exact (below_size (by repeat (first | (with_reducible first | exact HB.out | apply below_alloc | apply pw_below_drewN | apply below_drew1) | exact HB.out)))); (case aL => have := LMc24.out; omega); intro v191 w32 ho hb hg hat; rw [← Ny190.out] at ho; have n0_ := Aside0.mk (hb); have n1_ := Aside0.mk (ho); clear HB; clear HO189; have HB := n0_; have HO192 := n1_; clear n0_ n1_; clear ho hb hg hat) | ((with_reducible refine gate_builtin (b := .append) (xs := #[.tmp 42, .tmp 43]) rfl ?_); (try (refine gate_guard (by rfl) ?_; dsimp only)); at_builtin; refine Kd.R_append_rows k42 (w0 := w) w.heap.size rfl (.tmp 42) (.tmp 43) 31 42 (.agg #[(.int .i64 0), (.int .i64 0)]) 16 rfl Try.underlying31 info42 rfl (by decide) (by omega) v191 y190 l2 _ _ _ (fun _ => True) (fun _ => False) rfl rfl ?aO ?aR (fun _ _ h => h) (fun _ h => h.elim) ?aF ?aB ?aS ?aL ?_; (case aR => repeat (first | exact (Kd.C_below HR2.out HB.out) | (with_reducible refine Kd.C_alloc ?_ _) | (with_reducible refine Kd.C_drewN ?_ _) | (with_reducible refine Kd.C_drew ?_))); (case aB => exact (by repeat (first | (with_reducible first | exact HB.out | apply below_alloc | apply pw_below_drewN | apply below_drew1) | exact HB.out))); (case aF => exact (fun _ _ => trivial)); (case aO => exact (by (with_reducible repeat (first | apply Kd.R_alloc | apply Kd.R_drewN | apply Kd.R_drew)); exact HO192.out)); (case aS => exact (below_size (by repeat (first | (with_reducible first | exact HB.out | apply below_alloc | apply pw_below_drewN | apply below_drew1) | exact HB.out)))); (case aL => have := LMc25.out; omega); intro v194 w33 ho hb hg hat; rw [← Ny193.out] at ho; have n0_ := Aside0.mk (hb); have n1_ := Aside0.mk (ho); clear HB; clear HO192; have HB := n0_; have HO195 := n1_; clear n0_ n1_; clear ho hb hg hat) | ((with_reducible refine gate_callee (f := 26) rfl ?_); refine goesL_ (some 47) rfl rfl Try.func26 (by kernel_rfl) rfl #[.int .i64 a0, .slice A1 l1.length c1] rfl (by (try simp only [List.map_toArray, List.map_cons, List.map_nil]); first | done | rfl | (simp only [List.length_drop, List.length_take]; rfl)) ?_; (with_reducible refine (partition_FromPairs.calls kj4 a0 _ _ l1 t196 _ ?side1 ?side2 A26.out).mono ?_); (case side1 => repeat (first | exact (Kd.C_below HR1.out HB.out) | (with_reducible refine Kd.C_alloc ?_ _) | (with_reducible refine Kd.C_drewN ?_ _) | (with_reducible refine Kd.C_drew ?_))); (case side2 => exact HC1.out); rintro e w34 ⟨v197, rfl, ho0, hb⟩; refine ⟨_, rfl, ?_⟩; have n0_ := Aside0.mk (Kd.R_below (by (with_reducible repeat (first | apply Kd.R_alloc | apply Kd.R_drewN | apply Kd.R_drew)); exact HO195.out) hb); have n1_ := Aside0.mk (Kd.R_lower ho0 (below_size (by repeat (first | (with_reducible first | exact HB.out | apply below_alloc | apply pw_below_drewN | apply below_drew1) | exact HB.out)))); have n2_ := Aside0.mk (below_step (by repeat (first | (with_reducible first | exact HB.out | apply below_alloc | apply pw_below_drewN | apply below_drew1) | exact HB.out)) hb); clear HO195; clear HB; have HO195 := n0_; have HO198 := n1_; have HB := n2_; clear n0_ n1_ n2_; (try clear hb); (try clear hb2); (try clear hk); (try clear hi); (try clear ho0)) | ((with_reducible refine gate_callee (f := 26) rfl ?_); refine goesL_ (some 50) rfl rfl Try.func26 (by kernel_rfl) rfl #[.int .i64 a0, .slice A2 l2.length c2] rfl (by (try simp only [List.map_toArray, List.map_cons, List.map_nil]); first | done | rfl | (simp only [List.length_drop, List.length_take]; rfl)) ?_; (with_reducible refine (partition_FromPairs.calls kj4 a0 _ _ l2 t199 _ ?side1 ?side2 A27.out).mono ?_); (case side1 => repeat (first | exact (Kd.C_below HR2.out HB.out) | (with_reducible refine Kd.C_alloc ?_ _) | (with_reducible refine Kd.C_drewN ?_ _) | (with_reducible refine Kd.C_drew ?_))); (case side2 => exact HC2.out); rintro e w35 ⟨v200, rfl, ho0, hb⟩; refine ⟨_, rfl, ?_⟩; have n0_ := Aside0.mk (Kd.R_below (by (with_reducible repeat (first | apply Kd.R_alloc | apply Kd.R_drewN | apply Kd.R_drew)); exact HO195.out) hb); have n1_ := Aside0.mk (Kd.R_elder' (by (with_reducible repeat (first | apply Kd.R_alloc | apply Kd.R_drewN | apply Kd.R_drew)); exact HO198.out) (Kd.R_base ho0) hb); have n2_ := Aside0.mk (Kd.R_lower (Kd.R_new' ho0 (Kd.R_lt (by (with_reducible repeat (first | apply Kd.R_alloc | apply Kd.R_drewN | apply Kd.R_drew)); exact HO198.out))) (below_size (by repeat (first | (with_reducible first | exact HB.out | apply below_alloc | apply pw_below_drewN | apply below_drew1) | exact HB.out)))); have n3_ := Aside0.mk (below_step (by repeat (first | (with_reducible first | exact HB.out | apply below_alloc | apply pw_below_drewN | apply below_drew1) | exact HB.out)) hb); clear HO195; clear HO198; clear HB; have HO195 := n0_; have HO198 := n1_; have HO201 := n2_; have HB := n3_; clear n0_ n1_ n2_ n3_; (try clear hb); (try clear hb2); (try clear hk); (try clear hi); (try clear ho0); obtain ⟨Ao36, co36, eo36⟩ := Kd.R_slice HO198.out; subst eo36; obtain ⟨Ao37, co37, eo37⟩ := Kd.R_slice HO201.out; subst eo37) | ((with_reducible refine gate_callee (f := 39) rfl ?_); refine goesL_ (some 51) rfl rfl Try.func39 (by kernel_rfl) rfl #[.slice Ao36 t196.length co36, .slice Ao37 t199.length co37] rfl (by (try simp only [List.map_toArray, List.map_cons, List.map_nil]); first | done | rfl | (simp only [List.length_drop, List.length_take]; rfl)) ?_; (with_reducible refine (partition_Join.calls kj4 (fun k_ => some k_ = (.slice Ao36 t196.length co36 : Value).ownBlock) _ _ t196 (fun k_ => some k_ = (.slice Ao37 t199.length co37 : Value).ownBlock) _ _ t199 t202 _ ?side1 ?side2 A28.out).mono ?_); (case side1 => exact Kd.R_V (Kd.R_tight rfl (Kd.R_apart' (HO198.out) (Kd.R_typed HO195.out) (by decide)))); (case side2 => exact Kd.R_V (Kd.R_tight rfl (Kd.R_apart' (HO201.out) (Kd.R_typed HO195.out) (by decide)))); rintro e w38 ⟨v203, rfl, ho0, hb⟩; refine ⟨_, rfl, ?_⟩; have n0_ := Aside0.mk (Kd.R_below (by (with_reducible repeat (first | apply Kd.R_alloc | apply Kd.R_drewN | apply Kd.R_drew)); exact HO195.out) hb); have n1_ := Aside0.mk (Kd.R_elder' (by (with_reducible repeat (first | apply Kd.R_alloc | apply Kd.R_drewN | apply Kd.R_drew)); exact HO198.out) (Kd.R_base ho0) hb); have n2_ := Aside0.mk (Kd.R_elder' (by (with_reducible repeat (first | apply Kd.R_alloc | apply Kd.R_drewN | apply Kd.R_drew)); exact HO201.out) (Kd.R_base ho0) hb); have n3_ := Aside0.mk (Kd.R_lower (Kd.R_new' (Kd.R_new' (Kd.R_mono (ok' := fun k_ => True) ho0 (fun _ hk_ => trivial)) (Kd.R_lt (by (with_reducible repeat (first | apply Kd.R_alloc | apply Kd.R_drewN | apply Kd.R_drew)); exact HO198.out))) (Kd.R_lt (by (with_reducible repeat (first | apply Kd.R_alloc | apply Kd.R_drewN | apply Kd.R_drew)); exact HO201.out))) (below_size (by repeat (first | (with_reducible first | exact HB.out | apply below_alloc | apply pw_below_drewN | apply below_drew1) | exact HB.out)))); have n4_ := Aside0.mk (below_step (by repeat (first | (with_reducible first | exact HB.out | apply below_alloc | apply pw_below_drewN | apply below_drew1) | exact HB.out)) hb); clear HO195; clear HO198; clear HO201; clear HB; have HO195 := n0_; have HO198 := n1_; have HO201 := n2_; have HO204 := n3_; have HB := n4_; clear n0_ n1_ n2_ n3_ n4_; (try clear hb); (try clear hb2); (try clear hk); (try clear hi); (try clear ho0)))
            (try simp only [Act.put, List.setIfInBounds_toArray, List.set_cons_zero, List.set_cons_succ])
            go_cut [63] (fun v63 wc => ∃ (kq : Nat) (x63_28 : Bool), v63 = .bool x63_28 ∧ Aside0 (semigrouplaw03_PartitionJoins.j1 kq l3 x63_28 = some r) ∧ Aside0 (kq ≤ kj4) ∧ Aside0 (Below w.heap.size w wc))
            case first =>
              have H := HC29.out
              clear HC29
              by_cases c39 : (t202.length : Int) = a0
              · rw [if_pos c39] at H
                have c39b0 : ((t202.length : Int) == a0) = true := beq_iff_eq.mpr c39
                have c39b1 : ((t202.length : Int) != a0) = false := bne_eq_false_iff_eq.mpr c39
                clear c39
                (first | rw [c39b0] | (simp only [i64_w, i32_w]; rw [c39b0]) | skip)
                replace H := Option.bind_eq_some_iff.mp H
                obtain ⟨t205, A400, H⟩ := H
                replace H : ((semigroupref03_Same.f kj4 t205 t202).bind fun t208 => (semigrouplaw03_PartitionJoins.j1 kj4 l3 (!t208))) = some r := H
                have A40 := Aside0.mk A400
                clear A400
                replace H := Option.bind_eq_some_iff.mp H
                obtain ⟨t208, A410, H⟩ := H
                replace H : (semigrouplaw03_PartitionJoins.j1 kj4 l3 (!t208)) = some r := H
                have A41 := Aside0.mk A410
                clear A410
                have H' := Aside0.mk H
                clear H
                obtain ⟨Ao42, co42, eo42⟩ := Kd.R_slice HO204.out
                subst eo42
                obtain ⟨Ao43, co43, eo43⟩ := Kd.R_slice HO195.out
                subst eo43
                go_wp2_with (first | (go_at_call 26; (with_reducible refine (partition_FromPairs.calls kj4 a0 _ _ y193 t205 _ ?side1 ?side2 A40.out).mono ?_); (case side1 => repeat (first | exact (Kd.R_reads' HO195.out).2.2 | (with_reducible refine Kd.C_alloc ?_ _) | (with_reducible refine Kd.C_drewN ?_ _) | (with_reducible refine Kd.C_drew ?_))); (case side2 => exact (Kd.R_reads' HO195.out).2.1); rintro e w44 ⟨v206, rfl, ho0, hb⟩; have n0_ := Aside0.mk (Kd.R_below (by (with_reducible repeat (first | apply Kd.R_alloc | apply Kd.R_drewN | apply Kd.R_drew)); exact HO195.out) hb); have n1_ := Aside0.mk (Kd.R_elder' (by (with_reducible repeat (first | apply Kd.R_alloc | apply Kd.R_drewN | apply Kd.R_drew)); exact HO198.out) (Kd.R_base ho0) hb); have n2_ := Aside0.mk (Kd.R_elder' (by (with_reducible repeat (first | apply Kd.R_alloc | apply Kd.R_drewN | apply Kd.R_drew)); exact HO201.out) (Kd.R_base ho0) hb); have n3_ := Aside0.mk (Kd.R_elder' (by (with_reducible repeat (first | apply Kd.R_alloc | apply Kd.R_drewN | apply Kd.R_drew)); exact HO204.out) (Kd.R_base ho0) hb); have n4_ := Aside0.mk (Kd.R_lower (Kd.R_new' (Kd.R_new' (Kd.R_new' ho0 (Kd.R_lt (by (with_reducible repeat (first | apply Kd.R_alloc | apply Kd.R_drewN | apply Kd.R_drew)); exact HO198.out))) (Kd.R_lt (by (with_reducible repeat (first | apply Kd.R_alloc | apply Kd.R_drewN | apply Kd.R_drew)); exact HO201.out))) (Kd.R_lt (by (with_reducible repeat (first | apply Kd.R_alloc | apply Kd.R_drewN | apply Kd.R_drew)); exact HO204.out))) (below_size (by repeat (first | (with_reducible first | exact HB.out | apply below_alloc | apply pw_below_drewN | apply below_drew1) | exact HB.out)))); have n5_ := Aside0.mk (below_step (by repeat (first | (with_reducible first | exact HB.out | apply below_alloc | apply pw_below_drewN | apply below_drew1) | exact HB.out)) hb); clear HO195; clear HO198; clear HO201; clear HO204; clear HB; have HO195 := n0_; have HO198 := n1_; have HO201 := n2_; have HO204 := n3_; have HO207 := n4_; have HB := n5_; clear n0_ n1_ n2_ n3_ n4_ n5_; (try clear hb); (try clear hb2); (try clear hk); (try clear hi); (try clear ho0); obtain ⟨Ao45, co45, eo45⟩ := Kd.R_slice HO207.out; subst eo45) | (go_at_call 16; (with_reducible refine (semigroupref03_Same.calls kj4 _ _ t205 _ _ t202 t208 _ ?side1 ?side2 ?side3 ?side4 A41.out).mono ?_); (case side1 => repeat (first | exact (Kd.R_reads' HO207.out).2.2 | (with_reducible refine Kd.C_alloc ?_ _) | (with_reducible refine Kd.C_drewN ?_ _) | (with_reducible refine Kd.C_drew ?_))); (case side2 => exact (Kd.R_reads' HO207.out).2.1); (case side3 => repeat (first | exact (Kd.R_reads' HO204.out).2.2 | (with_reducible refine Kd.C_alloc ?_ _) | (with_reducible refine Kd.C_drewN ?_ _) | (with_reducible refine Kd.C_drew ?_))); (case side4 => exact (Kd.R_reads' HO204.out).2.1); rintro e w' ⟨rfl, ⟨nd, rfl⟩⟩))
                go_meet
                case rel => exact ⟨_, (!t208), (by first | rfl | (simp; done) | (simp [*]; done)), H', ⟨by have := HJ4.out; first | omega | exact Nat.le_refl _⟩, ⟨by repeat (first | (with_reducible first | exact HB.out | apply below_alloc | apply pw_below_drewN | apply below_drew1) | exact HB.out)⟩⟩
              · rw [if_neg c39] at H
                have c39b0 : ((t202.length : Int) == a0) = false := beq_eq_false_iff_ne.mpr c39
                have c39b1 : ((t202.length : Int) != a0) = true := bne_iff_ne.mpr c39
                (first | rw [c39b0] | (simp only [i64_w, i32_w]; rw [c39b0]) | skip)
                have H' := Aside0.mk H
                clear H
                obtain ⟨Ao46, co46, eo46⟩ := Kd.R_slice HO204.out
                subst eo46
                go_wp2
                go_meet
                case rel => exact ⟨_, (true), (by first | rfl | (simp; done) | (simp [*]; done)), H', ⟨by have := HJ4.out; first | omega | exact Nat.le_refl _⟩, ⟨by repeat (first | (with_reducible first | exact HB.out | apply below_alloc | apply pw_below_drewN | apply below_drew1) | exact HB.out)⟩⟩
            case rest =>
              clear HC29
              try clear c1
              try clear c2
              try clear p2
              try clear c3
              try clear c7
              try clear c9
              try clear c10
              try clear c10b0
              try clear c13
              try clear c13b0
              try clear c13b1
              try clear c20
              try clear c21
              try clear c24
              try clear c25
              try clear c26
              try clear c27
              try clear c39
              try clear c39b0
              try clear c39b1
              try clear p2
              obtain ⟨kq, x63_28, rfl, HA, HJ28, HB⟩ := hcut
              cases kq with
              | zero => exact absurd HA.out (by simp [semigrouplaw03_PartitionJoins.j1])
              | succ kj28 =>
                have H := HA.out
                clear HA
                simp only [semigrouplaw03_PartitionJoins.j1] at H
                by_cases c47 : x63_28 = true
                · subst c47
                  have H1 : (some false) = some r := by rw [if_pos rfl] at H; exact H
                  clear H
                  have H := H1
                  clear H1
                  obtain rfl := Option.some.inj H
                  go_wp2
                  go_ret
                  exact ⟨by first | rfl | (simp [errW_none, errW_some] <;> rfl) | (simp [*, errW_none, errW_some] <;> rfl), by repeat (first | (with_reducible first | exact HB.out | apply below_alloc | apply pw_below_drewN | apply below_drew1) | exact HB.out)⟩
                · replace c47 := Bool.eq_false_iff.mpr c47
                  subst c47
                  have H1 : ((semigroupref03_Valid.f kj28 l3).bind fun t209 => (if t209 = true then (semigrouplaw03_PartitionJoins.j2 kj28 l3 (decide ((l3.length : Int) > 100))) else (semigrouplaw03_PartitionJoins.j2 kj28 l3 true))) = some r := by rw [if_neg (show ¬ (false = true) by decide)] at H; exact H
                  clear H
                  have H := H1
                  clear H1
                  have HC48 := Aside0.mk H
                  clear H
                  go_upto_region 7 with (fail)
                  go_cut [71] (fun v71 wc => ∃ (kq : Nat) (x71_47 : Bool), v71 = .bool x71_47 ∧ Aside0 (semigrouplaw03_PartitionJoins.j2 kq l3 x71_47 = some r) ∧ Aside0 (kq ≤ kj28) ∧ Aside0 (Below w.heap.size w wc))
                  case first =>
                    have H := HC48.out
                    clear HC48
                    replace H := Option.bind_eq_some_iff.mp H
                    obtain ⟨t209, A490, H⟩ := H
                    replace H : (if t209 = true then (semigrouplaw03_PartitionJoins.j2 kj28 l3 (decide ((l3.length : Int) > 100))) else (semigrouplaw03_PartitionJoins.j2 kj28 l3 true)) = some r := H
                    have A49 := Aside0.mk A490
                    clear A490
                    by_cases c50 : t209 = true
                    · subst c50
                      have H1 : (semigrouplaw03_PartitionJoins.j2 kj28 l3 (decide ((l3.length : Int) > 100))) = some r := by rw [if_pos rfl] at H; exact H
                      clear H
                      have H := H1
                      clear H1
                      have H' := Aside0.mk H
                      clear H
                      go_wp2_with (first | ((with_reducible refine gate_callee (f := 19) rfl ?_); refine goesL_ (some 65) rfl rfl Try.func19 (by kernel_rfl) rfl #[.slice A3 l3.length c3] rfl (by (try simp only [List.map_toArray, List.map_cons, List.map_nil]); first | done | rfl | (simp only [List.length_drop, List.length_take]; rfl)) ?_; (with_reducible refine (semigroupref03_Valid.calls kj28 _ _ l3 true _ ?side1 ?side2 A49.out).mono ?_); (case side1 => repeat (first | exact (Kd.C_below HR3.out HB.out) | (with_reducible refine Kd.C_alloc ?_ _) | (with_reducible refine Kd.C_drewN ?_ _) | (with_reducible refine Kd.C_drew ?_))); (case side2 => exact HC3.out); rintro e w51 ⟨rfl, hb⟩; refine ⟨_, rfl, ?_⟩; have n0_ := Aside0.mk (below_step (by repeat (first | (with_reducible first | exact HB.out | apply below_alloc | apply pw_below_drewN | apply below_drew1) | exact HB.out)) hb); clear HB; have HB := n0_; clear n0_; (try clear hb); (try clear hb2); (try clear hk); (try clear hi)))
                      go_meet
                      case rel => exact ⟨_, (decide ((l3.length : Int) > 100)), (by first | rfl | (simp; done) | (simp [*]; done)), H', ⟨by have := HJ4.out; have := HJ28.out; first | omega | exact Nat.le_refl _⟩, ⟨by repeat (first | (with_reducible first | exact HB.out | apply below_alloc | apply pw_below_drewN | apply below_drew1) | exact HB.out)⟩⟩
                    · replace c50 := Bool.eq_false_iff.mpr c50
                      subst c50
                      have H1 : (semigrouplaw03_PartitionJoins.j2 kj28 l3 true) = some r := by rw [if_neg (show ¬ (false = true) by decide)] at H; exact H
                      clear H
                      have H := H1
                      clear H1
                      have H' := Aside0.mk H
                      clear H
                      go_wp2_with (first | ((with_reducible refine gate_callee (f := 19) rfl ?_); refine goesL_ (some 65) rfl rfl Try.func19 (by kernel_rfl) rfl #[.slice A3 l3.length c3] rfl (by (try simp only [List.map_toArray, List.map_cons, List.map_nil]); first | done | rfl | (simp only [List.length_drop, List.length_take]; rfl)) ?_; (with_reducible refine (semigroupref03_Valid.calls kj28 _ _ l3 false _ ?side1 ?side2 A49.out).mono ?_); (case side1 => repeat (first | exact (Kd.C_below HR3.out HB.out) | (with_reducible refine Kd.C_alloc ?_ _) | (with_reducible refine Kd.C_drewN ?_ _) | (with_reducible refine Kd.C_drew ?_))); (case side2 => exact HC3.out); rintro e w52 ⟨rfl, hb⟩; refine ⟨_, rfl, ?_⟩; have n0_ := Aside0.mk (below_step (by repeat (first | (with_reducible first | exact HB.out | apply below_alloc | apply pw_below_drewN | apply below_drew1) | exact HB.out)) hb); clear HB; have HB := n0_; clear n0_; (try clear hb); (try clear hb2); (try clear hk); (try clear hi)))
                      go_meet
                      case rel => exact ⟨_, (true), (by first | rfl | (simp; done) | (simp [*]; done)), H', ⟨by have := HJ4.out; have := HJ28.out; first | omega | exact Nat.le_refl _⟩, ⟨by repeat (first | (with_reducible first | exact HB.out | apply below_alloc | apply pw_below_drewN | apply below_drew1) | exact HB.out)⟩⟩
                  case rest =>
                    clear HC48
                    try clear c1
                    try clear c2
                    try clear p2
                    try clear c3
                    try clear c4
                    try clear c5
                    try clear c7
                    try clear c9
                    try clear c10
                    try clear c10b0
                    try clear c13
                    try clear c13b0
                    try clear c13b1
                    try clear c19
                    try clear c20
                    try clear c21
                    try clear c24
                    try clear c25
                    try clear c26
                    try clear c27
                    try clear c39
                    try clear c39b0
                    try clear c39b1
                    try clear c47
                    try clear c50
                    try clear p2
                    obtain ⟨kq, x71_47, rfl, HA, HJ47, HB⟩ := hcut
                    cases kq with
                    | zero => exact absurd HA.out (by simp [semigrouplaw03_PartitionJoins.j2])
                    | succ kj47 =>
                      have H := HA.out
                      clear HA
                      simp only [semigrouplaw03_PartitionJoins.j2] at H
                      by_cases c53 : x71_47 = true
                      · subst c53
                        have H1 : ((semigrouplaw03_awake.f kj47).bind fun t210 => (some t210)) = some r := by rw [if_pos rfl] at H; exact H
                        clear H
                        have H := H1
                        clear H1
                        replace H := Option.bind_eq_some_iff.mp H
                        obtain ⟨t210, A540, H⟩ := H
                        replace H : (some t210) = some r := H
                        have A54 := Aside0.mk A540
                        clear A540
                        obtain rfl := Option.some.inj H
                        go_wp2_with (first | ((with_reducible refine gate_callee (f := 20) rfl ?_); refine goesL_ (some 72) rfl rfl Try.func20 (by kernel_rfl) rfl #[] rfl (by (try simp only [List.map_toArray, List.map_cons, List.map_nil]); first | done | rfl | (simp only [List.length_drop, List.length_take]; rfl)) ?_; (with_reducible refine (semigrouplaw03_awake.calls kj47  t210 _ A54.out).mono ?_); rintro e w55 ⟨rfl, hb⟩; refine ⟨_, rfl, ?_⟩; have n0_ := Aside0.mk (below_step (by repeat (first | (with_reducible first | exact HB.out | apply below_alloc | apply pw_below_drewN | apply below_drew1) | exact HB.out)) hb); clear HB; have HB := n0_; clear n0_; (try clear hb); (try clear hb2); (try clear hk); (try clear hi)))
                        go_ret
                        exact ⟨by first | rfl | (simp [errW_none, errW_some] <;> rfl) | (simp [*, errW_none, errW_some] <;> rfl), by repeat (first | (with_reducible first | exact HB.out | apply below_alloc | apply pw_below_drewN | apply below_drew1) | exact HB.out)⟩
                      · replace c53 := Bool.eq_false_iff.mpr c53
                        subst c53
                        have H1 : ((partition_Classes.f kj47 l3).bind fun t211 => (semigrouplaw03_PartitionJoins.l0 kj47 l3 ([] : List (S42)) t211 (t211.length : Int) 0)) = some r := by rw [if_neg (show ¬ (false = true) by decide)] at H; exact H
                        clear H
                        have H := H1
                        clear H1
                        replace H := Option.bind_eq_some_iff.mp H
                        obtain ⟨t211, A560, H⟩ := H
                        replace H : (semigrouplaw03_PartitionJoins.l0 kj47 l3 ([] : List (S42)) t211 (t211.length : Int) 0) = some r := H
                        have A56 := Aside0.mk A560
                        clear A560
                        have H' := Aside0.mk H
                        clear H
                        go_wp2_with (first | ((with_reducible refine gate_callee (f := 22) rfl ?_); refine goesL_ (some 74) rfl rfl Try.func22 (by kernel_rfl) rfl #[.slice A3 l3.length c3] rfl (by (try simp only [List.map_toArray, List.map_cons, List.map_nil]); first | done | rfl | (simp only [List.length_drop, List.length_take]; rfl)) ?_; (with_reducible refine (partition_Classes.calls kj47 _ _ l3 t211 _ ?side1 ?side2 A56.out).mono ?_); (case side1 => repeat (first | exact (Kd.C_below HR3.out HB.out) | (with_reducible refine Kd.C_alloc ?_ _) | (with_reducible refine Kd.C_drewN ?_ _) | (with_reducible refine Kd.C_drew ?_))); (case side2 => exact HC3.out); rintro e w57 ⟨v212, rfl, ho0, hb⟩; refine ⟨_, rfl, ?_⟩; have n0_ := Aside0.mk (Kd.S_lower ho0 (below_size (by repeat (first | (with_reducible first | exact HB.out | apply below_alloc | apply pw_below_drewN | apply below_drew1) | exact HB.out)))); have n1_ := Aside0.mk (below_step (by repeat (first | (with_reducible first | exact HB.out | apply below_alloc | apply pw_below_drewN | apply below_drew1) | exact HB.out)) hb); clear HB; have HO213 := n0_; have HB := n1_; clear n0_ n1_; (try clear hb); (try clear hb2); (try clear hk); (try clear hi); (try clear ho0); obtain ⟨Ao58, co58, eo58⟩ := Kd.S_slice HO213.out; subst eo58))
                        go_loopg [11, 76] kj47 (fun kq v11 v76 w' => ∃ (x11_4 : List (S42)) (x76_4 : Int), v76 = .int .i64 x76_4 ∧ Aside0 (semigrouplaw03_PartitionJoins.l0 kq l3 x11_4 t211 (t211.length : Int) x76_4 = some r) ∧ Aside0 (kq ≤ kj47) ∧ Aside0 (Kd.R k42 42 w' w.heap.size (fun _ => True) v11 x11_4) ∧ Aside0 (Kd.S (Kd.slice 3 (Kd.int .i64)) 22 w' w.heap.size (fun _ => True) (.slice Ao58 t211.length co58) t211) ∧ Aside0 (Below w.heap.size w w'))
                        case atStart => exact ⟨(([] : List (S42))), (0), (by first | rfl | (simp; done) | (simp [*]; done)), H', ⟨Nat.le_refl _⟩, ⟨by first | exact Kd.R_nil _ _ _ _ _ | exact Kd.N_nil _ _ _ _ _ | exact Kd.V_nil _ _ _ _ _ | exact Kd.Q_nil _ _ _ _ _ | exact Kd.S_nil _ _ _ _ _⟩, ⟨by (with_reducible repeat (first | apply Kd.S_alloc | apply Kd.S_drewN | apply Kd.S_drew)); exact HO213.out⟩, ⟨by repeat (first | (with_reducible first | exact HB.out | apply below_alloc | apply pw_below_drewN | apply below_drew1) | exact HB.out)⟩⟩
                        case round =>
                          clear H'
                          try clear c1
                          try clear c2
                          try clear p2
                          try clear c3
                          try clear c4
                          try clear c5
                          try clear c7
                          try clear c9
                          try clear c10
                          try clear c10b0
                          try clear c13
                          try clear c13b0
                          try clear c13b1
                          try clear c19
                          try clear c20
                          try clear c21
                          try clear c22
                          try clear c24
                          try clear c25
                          try clear c26
                          try clear c27
                          try clear c39
                          try clear c39b0
                          try clear c39b1
                          try clear c47
                          try clear c50
                          try clear c53
                          try clear p2
                          obtain ⟨x11_4, x76_4, rfl, HA, HK4, HO_11, HO_74, HB⟩ := hrel
                          cases gk with
                          | zero => exact absurd HA.out (by simp [semigrouplaw03_PartitionJoins.l0])
                          | succ k4 =>
                            have H := HA.out
                            clear HA
                            simp only [semigrouplaw03_PartitionJoins.l0] at H
                            by_cases c59 : x76_4 < (t211.length : Int)
                            · rw [if_pos c59] at H
                              have c59b0 : decide (x76_4 < (t211.length : Int)) = true := decide_eq_true c59
                              clear c59
                              by_cases c60 : 0 ≤ x76_4
                              · rw [if_pos c60] at H
                                have c60b0 : decide (0 ≤ x76_4) = true := decide_eq_true c60
                                clear c60
                                by_cases c61 : x76_4 < (t211.length : Int)
                                · rw [if_pos c61] at H
                                  have c61b0 : decide (x76_4 < (t211.length : Int)) = true := decide_eq_true c61
                                  clear c61
                                  have H' := Aside0.mk H
                                  clear H
                                  have p219 : 0 ≤ (x76_4 : Int) := of_decide_eq_true (by first | (with_reducible assumption) | assumption)
                                  have q219 : x76_4 < (t211.length : Int) := of_decide_eq_true (by first | (with_reducible assumption) | assumption)
                                  obtain ⟨ad219, A219_0, c219_0, e219, hx219_0, hl219_0, hi219_0⟩ := at_L1 (Kd.S_reads' HO_74.out).2.2 x76_4 p219 q219
                                  cases e219
                                  obtain ⟨ce219, hce219, hMe219, hcc219⟩ := Kd.S_get HO_74.out [] x76_4 p219 (by first | exact q219 | exact of_decide_eq_true (by first | (with_reducible assumption) | assumption) | (have e_ := (Kd.S_reads' HO_74.out).1; omega))
                                  obtain ⟨ve219_0, rfl, ge219_0⟩ := hMe219
                                  have hv219_0 := hcc219 0 _ rfl
                                  rw [Nat.add_zero, show ((Kd.slice 3 (Kd.int .i64))).sz = 1 from rfl, Nat.mul_one] at hv219_0
                                  replace hv219_0 := Option.some.inj (hv219_0.symm.trans hx219_0)
                                  rw [hv219_0] at ge219_0
                                  have HL219_0 := Aside0.mk (show Kd.R (Kd.int .i64) 3 _ _ _ _ (rd_L1 t211 x76_4) from ge219_0)
                                  clear hv219_0 ge219_0
                                  clear hcc219 hce219
                                  have HR219_0 := Aside0.mk hi219_0
                                  have HC219_0 := Aside0.mk hl219_0
                                  clear hi219_0 hl219_0
                                  replace p219 := eq_true p219
                                  replace q219 := eq_true q219
                                  go_wp2
                                  go_loopg [11, 14] k4 (fun kq v11 v14 w' => ∃ (x11_5 : List (S42)) (x14_5 : Int), v14 = .int .i64 x14_5 ∧ Aside0 (semigrouplaw03_PartitionJoins.l1 kq l3 x11_5 (rd_L1 t211 x76_4) x14_5 t211 (t211.length : Int) x76_4 = some r) ∧ Aside0 (kq ≤ k4) ∧ Aside0 (Kd.R k42 42 w' w.heap.size (fun _ => True) v11 x11_5) ∧ Aside0 (Kd.S (Kd.slice 3 (Kd.int .i64)) 22 w' w.heap.size (fun _ => True) (.slice (some ad219) t211.length co58) t211) ∧ Aside0 (Kd.R (Kd.int .i64) 3 w' w.heap.size (fun k_ => some k_ ≠ ((.slice (some ad219) t211.length co58) : Value).ownBlock) (.slice A219_0 (rd_L1 t211 x76_4).length c219_0) (rd_L1 t211 x76_4)) ∧ Aside0 (Kd.C (Kd.int .i64) w' A219_0 (rd_L1 t211 x76_4).length (rd_L1 t211 x76_4)) ∧ Aside0 (Below w.heap.size w w'))
                                  case atStart => exact ⟨(x11_4), (1), (by first | rfl | (simp; done) | (simp [*]; done)), H', ⟨Nat.le_refl _⟩, ⟨by (with_reducible repeat (first | apply Kd.R_alloc | apply Kd.R_drewN | apply Kd.R_drew)); exact HO_11.out⟩, ⟨by (with_reducible repeat (first | apply Kd.S_alloc | apply Kd.S_drewN | apply Kd.S_drew)); exact HO_74.out⟩, ⟨by (with_reducible repeat (first | apply Kd.R_alloc | apply Kd.R_drewN | apply Kd.R_drew)); exact Kd.R_mono HL219_0.out (fun _ hk => hk.2)⟩, ⟨by repeat (first | (with_reducible exact HR219_0.out) | (with_reducible refine Kd.C_alloc ?_ _) | (with_reducible refine Kd.C_drewN ?_ _) | (with_reducible refine Kd.C_drew ?_) | exact HR219_0.out)⟩, ⟨by repeat (first | (with_reducible first | exact HB.out | apply below_alloc | apply pw_below_drewN | apply below_drew1) | exact HB.out)⟩⟩
                                  case round =>
                                    clear H'
                                    try clear c1
                                    try clear c2
                                    try clear p2
                                    try clear q2
                                    try clear hx2
                                    try clear c3
                                    try clear c4
                                    try clear c5
                                    try clear c6
                                    try clear c7
                                    try clear c9
                                    try clear c10
                                    try clear c10b0
                                    try clear c13
                                    try clear c13b0
                                    try clear c13b1
                                    try clear c19
                                    try clear c20
                                    try clear c21
                                    try clear p21
                                    try clear q21
                                    try clear hx21
                                    try clear c22
                                    try clear c24
                                    try clear c25
                                    try clear c26
                                    try clear c27
                                    try clear c39
                                    try clear c39b0
                                    try clear c39b1
                                    try clear c47
                                    try clear c50
                                    try clear c53
                                    try clear c59
                                    try clear c59b0
                                    try clear c60
                                    try clear c60b0
                                    try clear c61
                                    try clear c61b0
                                    try clear hx219_0
                                    try clear p2
                                    try clear p219
                                    try clear q219
                                    obtain ⟨x11_5, x14_5, rfl, HA, HK5, HO_11, HO_74, HL219_0, HR219_0, HB⟩ := hrel
                                    cases gk with
                                    | zero => exact absurd HA.out (by simp [semigrouplaw03_PartitionJoins.l1])
                                    | succ k5 =>
                                      have H := HA.out
                                      clear HA
                                      simp only [semigrouplaw03_PartitionJoins.l1] at H
                                      by_cases c62 : x14_5 < ((rd_L1 t211 x76_4).length : Int)
                                      · rw [if_pos c62] at H
                                        have c62b0 : decide (x14_5 < ((rd_L1 t211 x76_4).length : Int)) = true := decide_eq_true c62
                                        clear c62
                                        obtain ⟨ji63, hji63⟩ : ∃ j_ : Int, (wrap64 (x14_5 - 1)) = j_ := ⟨_, rfl⟩
                                        replace H : (if 0 ≤ (ji63) then (if (ji63) < ((rd_L1 t211 x76_4).length : Int) then (if 0 ≤ x14_5 then (if x11_5.length < 8796093022208 then (semigrouplaw03_PartitionJoins.l1 k5 l3 (x11_5 ++ [(⟨rd (rd_L1 t211 x76_4) (ji63), rd (rd_L1 t211 x76_4) x14_5⟩ : S42)]) (rd_L1 t211 x76_4) (wrap64 (x14_5 + 1)) t211 (t211.length : Int) x76_4) else (none)) else (none)) else (none)) else (none)) = some r := by first | (rw [hji63] at H; exact H) | (simp only [hji63] at H ⊢; exact H)
                                        have hji63w : (IntKind.i64.wrap (x14_5 - 1)) = ji63 := (i64_w _).trans hji63
                                        by_cases c64 : 0 ≤ (ji63)
                                        · rw [if_pos c64] at H
                                          have c64b0 : decide (0 ≤ (ji63)) = true := decide_eq_true c64
                                          clear c64
                                          by_cases c65 : (ji63) < ((rd_L1 t211 x76_4).length : Int)
                                          · rw [if_pos c65] at H
                                            have c65b0 : decide ((ji63) < ((rd_L1 t211 x76_4).length : Int)) = true := decide_eq_true c65
                                            clear c65
                                            by_cases c66 : 0 ≤ x14_5
                                            · rw [if_pos c66] at H
                                              have c66b0 : decide (0 ≤ x14_5) = true := decide_eq_true c66
                                              clear c66
                                              by_cases c67 : x11_5.length < 8796093022208
                                              · rw [if_pos c67] at H
                                                have LMc67 := Aside0.mk c67
                                                clear c67
                                                obtain ⟨y222, hy222⟩ : ∃ y_ : List (S42), y_ = (x11_5 ++ [(⟨rd (rd_L1 t211 x76_4) (ji63), rd (rd_L1 t211 x76_4) x14_5⟩ : S42)]) := ⟨_, rfl⟩
                                                replace H : (semigrouplaw03_PartitionJoins.l1 k5 l3 y222 (rd_L1 t211 x76_4) (wrap64 (x14_5 + 1)) t211 (t211.length : Int) x76_4) = some r := by first | (rw [hy222]; with_reducible exact H) | (have H2_ := (Option.bind_some _ _).symm.trans H; rw [hy222]; with_reducible exact H2_) | (have H2_ := (Option.bind_some _ _).symm.trans H; with_reducible exact H2_) | with_reducible exact H | (rw [hy222]; exact H) | exact H
                                                have Ny222 := Aside0.mk hy222
                                                clear hy222
                                                have H' := Aside0.mk H
                                                clear H
                                                try go_wp2
                                                have n0_ := Aside0.mk (Kd.R_drew HO_11.out)
                                                have n1_ := Aside0.mk (Kd.S_drew HO_74.out)
                                                have n2_ := Aside0.mk (Kd.R_drew HL219_0.out)
                                                have n3_ := Aside0.mk (Kd.C_drew HR219_0.out)
                                                have n4_ := Aside0.mk (below_drew1 HB.out)
                                                clear HO_11
                                                clear HO_74
                                                clear HL219_0
                                                clear HR219_0
                                                clear HB
                                                have HO_11 := n0_
                                                have HO_74 := n1_
                                                have HL219_0 := n2_
                                                have HR219_0 := n3_
                                                have HB := n4_
                                                clear n0_ n1_ n2_ n3_ n4_
                                                have p220 : 0 ≤ ((ji63) : Int) := of_decide_eq_true (by first | (with_reducible assumption) | assumption)
                                                have q220 : (ji63) < ((rd_L1 t211 x76_4).length : Int) := of_decide_eq_true (by first | (with_reducible assumption) | assumption)
                                                obtain ⟨ad220, e220, hx220_0⟩ := Kd.at_int (by repeat (first | (with_reducible exact HR219_0.out) | (with_reducible refine Kd.C_alloc ?_ _) | (with_reducible refine Kd.C_drewN ?_ _) | (with_reducible refine Kd.C_drew ?_) | exact HR219_0.out)) (ji63) p220 q220
                                                cases e220
                                                replace p220 := eq_true p220
                                                replace q220 := eq_true q220
                                                have p221 : 0 ≤ (x14_5 : Int) := of_decide_eq_true (by first | (with_reducible assumption) | assumption)
                                                have q221 : x14_5 < ((rd_L1 t211 x76_4).length : Int) := of_decide_eq_true (by first | (with_reducible assumption) | assumption)
                                                obtain ⟨ad221, e221, hx221_0⟩ := Kd.at_int (by repeat (first | (with_reducible exact HR219_0.out) | (with_reducible refine Kd.C_alloc ?_ _) | (with_reducible refine Kd.C_drewN ?_ _) | (with_reducible refine Kd.C_drew ?_) | exact HR219_0.out)) x14_5 p221 q221
                                                obtain rfl : ad220 = ad221 := (by injection e221)
                                                replace p221 := eq_true p221
                                                replace q221 := eq_true q221
                                                refine start_ (n := 14) (S := fun w' => w'.cell? (ad220.add ((ji63)).toNat) = some (.int .i64 (rd (rd_L1 t211 x76_4) (ji63))) ∧ w'.cell? (ad220.add (x14_5).toNat) = some (.int .i64 (rd (rd_L1 t211 x76_4) x14_5))) (ds := [11]) #[false, false, false, false, false, false, false, false, false, false, false, false, false, false] (by kernel_rfl) rfl rfl ⟨hx220_0, hx221_0⟩ (fun hHeld => ?_); refine with_tabW semigrouplaw03_PartitionJoins.tab16 semigrouplaw03_PartitionJoins.bits16 (fun HT_ HW_ => ?_)
                                                generalize wr.drew = w68 at HO_11 HO_74 HL219_0 HR219_0 HB hx220_0 hx221_0 hHeld ⊢
                                                refine pure_ (i := 0) (N := some 86) (v := ?_) (a' := ?_) #[true, false, false, false, false, false, false, false, false, false, false, false, false, false] rfl rfl (any_of HT_.out (by kernel_rfl)) (fun _ _ _ h => h) (Or.inl ⟨by rfl, ?_⟩) ?_ ?_
                                                rotate_left
                                                · intro w'
                                                  go_simp
                                                  with_reducible rfl
                                                rotate_left
                                                · simp only [Act.put, List.setIfInBounds_toArray, List.set_cons_zero, List.set_cons_succ, i64_w, i32_w]
                                                  rfl
                                                refine pure_ (i := 1) (N := some 87) (v := ?_) (a' := ?_) #[true, true, false, false, false, false, false, false, false, false, false, false, false, false] rfl rfl (any_of HT_.out (by kernel_rfl)) (fun _ _ _ h => h) (Or.inl ⟨by rfl, ?_⟩) ?_ ?_
                                                rotate_left
                                                · intro w'
                                                  go_simp
                                                  with_reducible rfl
                                                rotate_left
                                                · simp only [Act.put, List.setIfInBounds_toArray, List.set_cons_zero, List.set_cons_succ, i64_w, i32_w]
                                                  rfl
                                                refine pure_ (i := 2) (N := some 88) (v := ?_) (a' := ?_) #[true, true, true, false, false, false, false, false, false, false, false, false, false, false] rfl rfl (any_of HT_.out (by kernel_rfl)) (fun _ _ _ h => h) (Or.inl ⟨by rfl, ?_⟩) ?_ ?_
                                                rotate_left
                                                · intro w'
                                                  go_simp
                                                  with_reducible rfl
                                                rotate_left
                                                · simp only [Act.put, List.setIfInBounds_toArray, List.set_cons_zero, List.set_cons_succ, i64_w, i32_w]
                                                  rfl
                                                refine pure_ (i := 3) (N := some 89) (v := ?_) (a' := ?_) #[true, true, true, true, false, false, false, false, false, false, false, false, false, false] rfl rfl (any_of HT_.out (by kernel_rfl)) (fun _ _ _ h => h) (Or.inl ⟨by rfl, ?_⟩) ?_ ?_
                                                rotate_left
                                                · intro w'
                                                  go_simp
                                                  with_reducible rfl
                                                rotate_left
                                                · simp only [Act.put, List.setIfInBounds_toArray, List.set_cons_zero, List.set_cons_succ, i64_w, i32_w]
                                                  rfl
                                                refine pure_ (i := 4) (N := some 90) (v := ?_) (a' := ?_) #[true, true, true, true, true, false, false, false, false, false, false, false, false, false] rfl rfl (any_of HT_.out (by kernel_rfl)) (fun _ _ _ h => h) (Or.inl ⟨by rfl, ?_⟩) ?_ ?_
                                                rotate_left
                                                · intro w'
                                                  go_simp
                                                  with_reducible rfl
                                                rotate_left
                                                · simp only [Act.put, List.setIfInBounds_toArray, List.set_cons_zero, List.set_cons_succ, i64_w, i32_w]
                                                  rfl
                                                refine pure_ (i := 6) (N := some 92) (v := ?_) (a' := ?_) #[true, true, true, true, true, false, true, false, false, false, false, false, false, false] rfl rfl (any_of HT_.out (by kernel_rfl)) (fun _ _ _ h => h) (Or.inl ⟨by rfl, ?_⟩) ?_ ?_
                                                rotate_left
                                                · intro w'
                                                  go_simp
                                                  with_reducible rfl
                                                rotate_left
                                                · simp only [Act.put, List.setIfInBounds_toArray, List.set_cons_zero, List.set_cons_succ, i64_w, i32_w]
                                                  rfl
                                                refine pure_ (i := 7) (N := some 93) (v := ?_) (a' := ?_) #[true, true, true, true, true, false, true, true, false, false, false, false, false, false] rfl rfl (any_of HT_.out (by kernel_rfl)) (fun _ _ _ h => h) (Or.inl ⟨by rfl, ?_⟩) ?_ ?_
                                                rotate_left
                                                · intro w'
                                                  go_simp
                                                  with_reducible rfl
                                                rotate_left
                                                · simp only [Act.put, List.setIfInBounds_toArray, List.set_cons_zero, List.set_cons_succ, i64_w, i32_w]
                                                  rfl
                                                refine pure_ (i := 8) (N := some 94) (v := ?_) (a' := ?_) #[true, true, true, true, true, false, true, true, true, false, false, false, false, false] rfl rfl (any_of HT_.out (by kernel_rfl)) (fun _ _ _ h => h) (Or.inl ⟨by rfl, ?_⟩) ?_ ?_
                                                rotate_left
                                                · intro w'
                                                  go_simp
                                                  with_reducible rfl
                                                rotate_left
                                                · simp only [Act.put, List.setIfInBounds_toArray, List.set_cons_zero, List.set_cons_succ, i64_w, i32_w]
                                                  rfl
                                                refine take_ (i := 5) (N := some 91) (v := ?_) (a' := ?_) #[true, true, true, true, true, true, true, true, true, false, false, false, false, false] rfl rfl (take_ofW HT_.out HW_.out (by kernel_rfl)) (fun _ _ _ h => h) (Or.inl ⟨by rfl, ?_⟩) hHeld ?_ ?_
                                                rotate_left
                                                · rintro w' ⟨s0, s1⟩
                                                  go_simp
                                                  with_reducible rfl
                                                rotate_left
                                                · simp only [Act.put, List.setIfInBounds_toArray, List.set_cons_zero, List.set_cons_succ, i64_w, i32_w]
                                                  rfl
                                                refine take_ (i := 9) (N := some 95) (v := ?_) (a' := ?_) #[true, true, true, true, true, true, true, true, true, true, false, false, false, false] rfl rfl (take_ofW HT_.out HW_.out (by kernel_rfl)) (fun _ _ _ h => h) (Or.inl ⟨by rfl, ?_⟩) hHeld ?_ ?_
                                                rotate_left
                                                · rintro w' ⟨s0, s1⟩
                                                  go_simp
                                                  with_reducible rfl
                                                rotate_left
                                                · simp only [Act.put, List.setIfInBounds_toArray, List.set_cons_zero, List.set_cons_succ, i64_w, i32_w]
                                                  rfl
                                                refine pure_ (i := 10) (N := some 96) (v := ?_) (a' := ?_) #[true, true, true, true, true, true, true, true, true, true, true, false, false, false] rfl rfl (any_of HT_.out (by kernel_rfl)) (fun _ _ _ h => h) (Or.inl ⟨by rfl, ?_⟩) ?_ ?_
                                                rotate_left
                                                · intro w'
                                                  go_simp
                                                  with_reducible rfl
                                                rotate_left
                                                · simp only [Act.put, List.setIfInBounds_toArray, List.set_cons_zero, List.set_cons_succ, i64_w, i32_w]
                                                  rfl
                                                refine last_ (i := 11) (N := some 97) #[true, true, true, true, true, true, true, true, true, true, true, true, false, false] rfl rfl (one_of HT_.out (by kernel_rfl)) (by decide) (fun K hK => ?_)
                                                refine value_ (w1 := ?_) (v := ?_) (by rfl) rfl ?_ ?_
                                                rotate_left 2
                                                · go_simp
                                                  constructor
                                                  · rfl
                                                  · rfl
                                                refine hK.out _ _ ?_
                                                clear hK K
                                                refine norm_ (a' := ?_) ?_ ?_
                                                rotate_left
                                                · show Act.put _ (some 97) _ = _
                                                  simp only [Act.put, List.setIfInBounds_toArray, List.set_cons_zero, List.set_cons_succ, i64_w, i32_w]
                                                  rfl
                                                refine one_ (i := 12) (N := some 98) #[true, true, true, true, true, true, true, true, true, true, true, true, true, false] rfl rfl (one_of HT_.out (by kernel_rfl)) (by decide) (fun K hK => ?_)
                                                refine Kd.R_append_step k42 (w0 := w) w.heap.size (by rfl) (.tmp 86) (.tmp 97) 31 42 (.agg #[(.int .i64 0), (.int .i64 0)]) 16 rfl Try.underlying31 info42 rfl (by decide) (by omega) u11 x11_5 (⟨rd (rd_L1 t211 x76_4) (ji63), rd (rd_L1 t211 x76_4) x14_5⟩ : S42) [.int .i64 (rd (rd_L1 t211 x76_4) (ji63)), .int .i64 (rd (rd_L1 t211 x76_4) x14_5)] (fun _ => True) (fun _ => False) rfl rfl ?aP (fun _ hk => hk.elim) ?aF ?aO ?aB ?aS ?aL ?_
                                                (case aP => exact k42_mkM _ _ _ (⟨rd (rd_L1 t211 x76_4) (ji63), rd (rd_L1 t211 x76_4) x14_5⟩ : S42))
                                                (case aB => exact (by repeat (first | (with_reducible first | exact HB.out | apply below_alloc | apply pw_below_drewN | apply below_drew1) | exact HB.out)))
                                                (case aF => exact (fun _ _ => trivial))
                                                (case aO => exact (by (with_reducible repeat (first | apply Kd.R_alloc | apply Kd.R_drewN | apply Kd.R_drew)); exact HO_11.out))
                                                (case aS => exact (below_size (by repeat (first | (with_reducible first | exact HB.out | apply below_alloc | apply pw_below_drewN | apply below_drew1) | exact HB.out))))
                                                (case aL => have := LMc67.out; omega)
                                                intro v223 w69 ho hb hg hat
                                                have HS0_ := cell_grown hg (hHeld.1) (by first | (rw [add_block]; exact (ne_typed (Kd.R_typed HL219_0.out) (Kd.R_typed HO_11.out) (by decide) _ rfl)) | (show some (Addr.add _ _).block ≠ _; rw [add_block]; exact (ne_typed (Kd.R_typed HL219_0.out) (Kd.R_typed HO_11.out) (by decide) _ rfl)) | exact (ne_typed (Kd.R_typed HL219_0.out) (Kd.R_typed HO_11.out) (by decide) _ rfl))
                                                have HS1_ := cell_grown hg (hHeld.2) (by first | (rw [add_block]; exact (ne_typed (Kd.R_typed HL219_0.out) (Kd.R_typed HO_11.out) (by decide) _ rfl)) | (show some (Addr.add _ _).block ≠ _; rw [add_block]; exact (ne_typed (Kd.R_typed HL219_0.out) (Kd.R_typed HO_11.out) (by decide) _ rfl)) | exact (ne_typed (Kd.R_typed HL219_0.out) (Kd.R_typed HO_11.out) (by decide) _ rfl))
                                                rw [← Ny222.out] at ho
                                                have n0_ := Aside0.mk (Kd.S_over' (by (with_reducible repeat (first | apply Kd.S_alloc | apply Kd.S_drewN | apply Kd.S_drew)); exact HO_74.out) (Kd.R_typed (by (with_reducible repeat (first | apply Kd.R_alloc | apply Kd.R_drewN | apply Kd.R_drew)); exact HO_11.out)) (by decide) hg)
                                                have n1_ := Aside0.mk (Kd.R_over' (by (with_reducible repeat (first | apply Kd.R_alloc | apply Kd.R_drewN | apply Kd.R_drew)); exact HL219_0.out) (Kd.R_typed (by (with_reducible repeat (first | apply Kd.R_alloc | apply Kd.R_drewN | apply Kd.R_drew)); exact HO_11.out)) (by decide) hg)
                                                have n2_ := Aside0.mk (hb)
                                                have n3_ := Aside0.mk ((Kd.R_reads' (Kd.R_over' (by (with_reducible repeat (first | apply Kd.R_alloc | apply Kd.R_drewN | apply Kd.R_drew)); exact HL219_0.out) (Kd.R_typed (by (with_reducible repeat (first | apply Kd.R_alloc | apply Kd.R_drewN | apply Kd.R_drew)); exact HO_11.out)) (by decide) hg)).2.2)
                                                have n4_ := Aside0.mk (ho)
                                                clear HO_74
                                                clear HL219_0
                                                clear HB
                                                clear HR219_0
                                                clear HO_11
                                                have HO_74 := n0_
                                                have HL219_0 := n1_
                                                have HB := n2_
                                                have HR219_0 := n3_
                                                have HO224 := n4_
                                                clear n0_ n1_ n2_ n3_ n4_
                                                clear ho hb hg hat
                                                refine hK.out _ _ ⟨HS0_, HS1_⟩ (fun hHeld => ?_)
                                                clear hK K
                                                refine norm_ (a' := ?_) ?_ ?_
                                                rotate_left
                                                · show Act.put _ (some 98) _ = _
                                                  simp only [Act.put, List.setIfInBounds_toArray, List.set_cons_zero, List.set_cons_succ, i64_w, i32_w]
                                                  rfl
                                                refine pure_ (i := 13) (N := some 11) (v := ?_) (a' := ?_) #[true, true, true, true, true, true, true, true, true, true, true, true, true, true] rfl rfl (any_of HT_.out (by kernel_rfl)) (fun _ _ _ h => h) (Or.inl ⟨by rfl, ?_⟩) ?_ ?_
                                                rotate_left
                                                · intro w'
                                                  go_simp
                                                  with_reducible rfl
                                                rotate_left
                                                · simp only [Act.put, List.setIfInBounds_toArray, List.set_cons_zero, List.set_cons_succ, i64_w, i32_w]
                                                  rfl
                                                refine done_ (done_of HT_.out (by kernel_rfl)) ?_
                                                try go_wp2
                                                go_roundg k5
                                                case measure => have := HJ4.out; have := HJ28.out; have := HJ47.out; have := HK4.out; have := HK5.out; omega
                                                case rel => exact ⟨(y222), (wrap64 (x14_5 + 1)), (by first | rfl | (simp; done) | (simp [*]; done)), H', ⟨by have := HJ4.out; have := HJ28.out; have := HJ47.out; have := HK4.out; have := HK5.out; omega⟩, ⟨by (with_reducible repeat (first | apply Kd.R_alloc | apply Kd.R_drewN | apply Kd.R_drew)); exact HO224.out⟩, ⟨by (with_reducible repeat (first | apply Kd.S_alloc | apply Kd.S_drewN | apply Kd.S_drew)); exact HO_74.out⟩, ⟨by (with_reducible repeat (first | apply Kd.R_alloc | apply Kd.R_drewN | apply Kd.R_drew)); exact HL219_0.out⟩, ⟨by repeat (first | (with_reducible exact HR219_0.out) | (with_reducible refine Kd.C_alloc ?_ _) | (with_reducible refine Kd.C_drewN ?_ _) | (with_reducible refine Kd.C_drew ?_) | exact HR219_0.out)⟩, ⟨by repeat (first | (with_reducible first | exact HB.out | apply below_alloc | apply pw_below_drewN | apply below_drew1) | exact HB.out)⟩⟩
                                              · rw [if_neg c67] at H
                                                exact absurd H (by simp)
                                            · rw [if_neg c66] at H
                                              exact absurd H (by simp)
                                          · rw [if_neg c65] at H
                                            exact absurd H (by simp)
                                        · rw [if_neg c64] at H
                                          exact absurd H (by simp)
                                      · rw [if_neg c62] at H
                                        have c62b0 : decide (x14_5 < ((rd_L1 t211 x76_4).length : Int)) = false := decide_eq_false c62
                                        clear c62
                                        have H' := Aside0.mk H
                                        clear H
                                        go_wp2
                                        go_roundg k5
                                        case measure => have := HJ4.out; have := HJ28.out; have := HJ47.out; have := HK4.out; have := HK5.out; omega
                                        case rel => exact ⟨(x11_5), (wrap64 (x76_4 + 1)), (by first | rfl | (simp; done) | (simp [*]; done)), H', ⟨by have := HJ4.out; have := HJ28.out; have := HJ47.out; have := HK4.out; have := HK5.out; omega⟩, ⟨by (with_reducible repeat (first | apply Kd.R_alloc | apply Kd.R_drewN | apply Kd.R_drew)); exact HO_11.out⟩, ⟨by (with_reducible repeat (first | apply Kd.S_alloc | apply Kd.S_drewN | apply Kd.S_drew)); exact HO_74.out⟩, ⟨by repeat (first | (with_reducible first | exact HB.out | apply below_alloc | apply pw_below_drewN | apply below_drew1) | exact HB.out)⟩⟩
                                · rw [if_neg c61] at H
                                  exact absurd H (by simp)
                              · rw [if_neg c60] at H
                                exact absurd H (by simp)
                            · rw [if_neg c59] at H
                              have c59b0 : decide (x76_4 < (t211.length : Int)) = false := decide_eq_false c59
                              clear c59
                              replace H := Option.bind_eq_some_iff.mp H
                              obtain ⟨t214, A700, H⟩ := H
                              replace H : ((semigroupref03_Same.f k4 t214 l3).bind fun t217 => (if t217 = true then ((semigrouplaw03_awake.f k4).bind fun t218 => (some t218)) else (some false))) = some r := H
                              have A70 := Aside0.mk A700
                              clear A700
                              replace H := Option.bind_eq_some_iff.mp H
                              obtain ⟨t217, A710, H⟩ := H
                              replace H : (if t217 = true then ((semigrouplaw03_awake.f k4).bind fun t218 => (some t218)) else (some false)) = some r := H
                              have A71 := Aside0.mk A710
                              clear A710
                              by_cases c72 : t217 = true
                              · subst c72
                                have H1 : ((semigrouplaw03_awake.f k4).bind fun t218 => (some t218)) = some r := by rw [if_pos rfl] at H; exact H
                                clear H
                                have H := H1
                                clear H1
                                replace H := Option.bind_eq_some_iff.mp H
                                obtain ⟨t218, A730, H⟩ := H
                                replace H : (some t218) = some r := H
                                have A73 := Aside0.mk A730
                                clear A730
                                obtain rfl := Option.some.inj H
                                obtain ⟨Ao74, co74, eo74⟩ := Kd.R_slice HO_11.out
                                subst eo74
                                go_wp2_with (first | ((with_reducible refine gate_callee (f := 26) rfl ?_); refine goesL_ (some 103) rfl rfl Try.func26 (by kernel_rfl) rfl #[.int .i64 (l3.length : Int), .slice Ao74 x11_4.length co74] rfl (by (try simp only [List.map_toArray, List.map_cons, List.map_nil]); first | done | rfl | (simp only [List.length_drop, List.length_take]; rfl)) ?_; (with_reducible refine (partition_FromPairs.calls k4 (l3.length : Int) _ _ x11_4 t214 _ ?side1 ?side2 A70.out).mono ?_); (case side1 => repeat (first | exact (Kd.R_reads' HO_11.out).2.2 | (with_reducible refine Kd.C_alloc ?_ _) | (with_reducible refine Kd.C_drewN ?_ _) | (with_reducible refine Kd.C_drew ?_))); (case side2 => exact (Kd.R_reads' HO_11.out).2.1); rintro e w75 ⟨v215, rfl, ho0, hb⟩; refine ⟨_, rfl, ?_⟩; have n0_ := Aside0.mk (Kd.R_below (by (with_reducible repeat (first | apply Kd.R_alloc | apply Kd.R_drewN | apply Kd.R_drew)); exact HO_11.out) hb); have n1_ := Aside0.mk (Kd.S_elder' (by (with_reducible repeat (first | apply Kd.S_alloc | apply Kd.S_drewN | apply Kd.S_drew)); exact HO_74.out) (Kd.R_base ho0) hb); have n2_ := Aside0.mk (Kd.R_lower ho0 (below_size (by repeat (first | (with_reducible first | exact HB.out | apply below_alloc | apply pw_below_drewN | apply below_drew1) | exact HB.out)))); have n3_ := Aside0.mk (below_step (by repeat (first | (with_reducible first | exact HB.out | apply below_alloc | apply pw_below_drewN | apply below_drew1) | exact HB.out)) hb); clear HO_11; clear HO_74; clear HB; have HO_11 := n0_; have HO_74 := n1_; have HO216 := n2_; have HB := n3_; clear n0_ n1_ n2_ n3_; (try clear hb); (try clear hb2); (try clear hk); (try clear hi); (try clear ho0); obtain ⟨Ao76, co76, eo76⟩ := Kd.R_slice HO216.out; subst eo76) | ((with_reducible refine gate_callee (f := 16) rfl ?_); refine goesL_ (some 105) rfl rfl Try.func16 (by kernel_rfl) rfl #[.slice Ao76 t214.length co76, .slice A3 l3.length c3] rfl (by (try simp only [List.map_toArray, List.map_cons, List.map_nil]); first | done | rfl | (simp only [List.length_drop, List.length_take]; rfl)) ?_; (with_reducible refine (semigroupref03_Same.calls k4 _ _ t214 _ _ l3 true _ ?side1 ?side2 ?side3 ?side4 A71.out).mono ?_); (case side1 => repeat (first | exact (Kd.R_reads' HO216.out).2.2 | (with_reducible refine Kd.C_alloc ?_ _) | (with_reducible refine Kd.C_drewN ?_ _) | (with_reducible refine Kd.C_drew ?_))); (case side2 => exact (Kd.R_reads' HO216.out).2.1); (case side3 => repeat (first | exact (Kd.C_below HR3.out HB.out) | (with_reducible refine Kd.C_alloc ?_ _) | (with_reducible refine Kd.C_drewN ?_ _) | (with_reducible refine Kd.C_drew ?_))); (case side4 => exact HC3.out); rintro e w' ⟨rfl, ⟨nd, rfl⟩⟩; refine ⟨_, rfl, ?_⟩) | (go_at_call 20; (with_reducible refine (semigrouplaw03_awake.calls k4  t218 _ A73.out).mono ?_); rintro e w77 ⟨rfl, hb⟩; have n0_ := Aside0.mk (Kd.R_below (by (with_reducible repeat (first | apply Kd.R_alloc | apply Kd.R_drewN | apply Kd.R_drew)); exact HO_11.out) hb); have n1_ := Aside0.mk (Kd.S_below (by (with_reducible repeat (first | apply Kd.S_alloc | apply Kd.S_drewN | apply Kd.S_drew)); exact HO_74.out) hb); have n2_ := Aside0.mk (Kd.R_below (by (with_reducible repeat (first | apply Kd.R_alloc | apply Kd.R_drewN | apply Kd.R_drew)); exact HO216.out) hb); have n3_ := Aside0.mk (below_step (by repeat (first | (with_reducible first | exact HB.out | apply below_alloc | apply pw_below_drewN | apply below_drew1) | exact HB.out)) hb); clear HO_11; clear HO_74; clear HO216; clear HB; have HO_11 := n0_; have HO_74 := n1_; have HO216 := n2_; have HB := n3_; clear n0_ n1_ n2_ n3_; (try clear hb); (try clear hb2); (try clear hk); (try clear hi)))
                                go_ret
                                exact ⟨by first | rfl | (simp [errW_none, errW_some] <;> rfl) | (simp [*, errW_none, errW_some] <;> rfl), by repeat (first | (with_reducible first | exact HB.out | apply below_alloc | apply pw_below_drewN | apply below_drew1) | exact HB.out)⟩
                              · replace c72 := Bool.eq_false_iff.mpr c72
                                subst c72
                                have H1 : (some false) = some r := by rw [if_neg (show ¬ (false = true) by decide)] at H; exact H
                                clear H
                                have H := H1
                                clear H1
                                obtain rfl := Option.some.inj H
                                obtain ⟨Ao78, co78, eo78⟩ := Kd.R_slice HO_11.out
                                subst eo78
                                go_wp2_with (first | ((with_reducible refine gate_callee (f := 26) rfl ?_); refine goesL_ (some 103) rfl rfl Try.func26 (by kernel_rfl) rfl #[.int .i64 (l3.length : Int), .slice Ao78 x11_4.length co78] rfl (by (try simp only [List.map_toArray, List.map_cons, List.map_nil]); first | done | rfl | (simp only [List.length_drop, List.length_take]; rfl)) ?_; (with_reducible refine (partition_FromPairs.calls k4 (l3.length : Int) _ _ x11_4 t214 _ ?side1 ?side2 A70.out).mono ?_); (case side1 => repeat (first | exact (Kd.R_reads' HO_11.out).2.2 | (with_reducible refine Kd.C_alloc ?_ _) | (with_reducible refine Kd.C_drewN ?_ _) | (with_reducible refine Kd.C_drew ?_))); (case side2 => exact (Kd.R_reads' HO_11.out).2.1); rintro e w79 ⟨v215, rfl, ho0, hb⟩; refine ⟨_, rfl, ?_⟩; have n0_ := Aside0.mk (Kd.R_below (by (with_reducible repeat (first | apply Kd.R_alloc | apply Kd.R_drewN | apply Kd.R_drew)); exact HO_11.out) hb); have n1_ := Aside0.mk (Kd.S_elder' (by (with_reducible repeat (first | apply Kd.S_alloc | apply Kd.S_drewN | apply Kd.S_drew)); exact HO_74.out) (Kd.R_base ho0) hb); have n2_ := Aside0.mk (Kd.R_lower ho0 (below_size (by repeat (first | (with_reducible first | exact HB.out | apply below_alloc | apply pw_below_drewN | apply below_drew1) | exact HB.out)))); have n3_ := Aside0.mk (below_step (by repeat (first | (with_reducible first | exact HB.out | apply below_alloc | apply pw_below_drewN | apply below_drew1) | exact HB.out)) hb); clear HO_11; clear HO_74; clear HB; have HO_11 := n0_; have HO_74 := n1_; have HO216 := n2_; have HB := n3_; clear n0_ n1_ n2_ n3_; (try clear hb); (try clear hb2); (try clear hk); (try clear hi); (try clear ho0); obtain ⟨Ao80, co80, eo80⟩ := Kd.R_slice HO216.out; subst eo80) | ((with_reducible refine gate_callee (f := 16) rfl ?_); refine goesL_ (some 105) rfl rfl Try.func16 (by kernel_rfl) rfl #[.slice Ao80 t214.length co80, .slice A3 l3.length c3] rfl (by (try simp only [List.map_toArray, List.map_cons, List.map_nil]); first | done | rfl | (simp only [List.length_drop, List.length_take]; rfl)) ?_; (with_reducible refine (semigroupref03_Same.calls k4 _ _ t214 _ _ l3 false _ ?side1 ?side2 ?side3 ?side4 A71.out).mono ?_); (case side1 => repeat (first | exact (Kd.R_reads' HO216.out).2.2 | (with_reducible refine Kd.C_alloc ?_ _) | (with_reducible refine Kd.C_drewN ?_ _) | (with_reducible refine Kd.C_drew ?_))); (case side2 => exact (Kd.R_reads' HO216.out).2.1); (case side3 => repeat (first | exact (Kd.C_below HR3.out HB.out) | (with_reducible refine Kd.C_alloc ?_ _) | (with_reducible refine Kd.C_drewN ?_ _) | (with_reducible refine Kd.C_drew ?_))); (case side4 => exact HC3.out); rintro e w' ⟨rfl, ⟨nd, rfl⟩⟩; refine ⟨_, rfl, ?_⟩))
                                go_ret
                                exact ⟨by first | rfl | (simp [errW_none, errW_some] <;> rfl) | (simp [*, errW_none, errW_some] <;> rfl), by repeat (first | (with_reducible first | exact HB.out | apply below_alloc | apply pw_below_drewN | apply below_drew1) | exact HB.out)⟩
          · rw [if_neg c25] at H
            exact absurd H (by simp)
        · rw [if_neg c24] at H
          exact absurd H (by simp)

end Go.Proofs.Ytjpghckijecdcaa.PPartitionJoins
