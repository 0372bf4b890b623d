import Derived.Test.YtpjbmgoagehjkaaZDfaProductsx0
namespace Go.Proofs.Ytpjbmgoagehjkaa.PDfaProducts
open Go.RowKit Go.Proofs.YtpjbmgoagehjkaaH Go.Proofs.YtpjbmgoagehjkaaW.PrintWords Go.Proofs.YtpjbmgoagehjkaaW.PrintLast Go.Proofs.YtpjbmgoagehjkaaW.PrintMore
attribute [local go_sem] max2_int min2_int max_two min_two max_three min_three max_four min_four   -- for this text's walks alone
set_option linter.unusedVariables false
set_option linter.unusedSimpArgs false
/-! ### semigroupref07_Same: function 28 -/
mutual
def semigroupref07_Same.j0 : Nat → Bool → Int → Int → List Bool → List (List Int) → Int → Int → List Bool → List (List Int) → Option (Bool)
 | 0, _, _, _, _, _, _, _, _, _ => none
 | k + 1, x37, x189000, x189001, x189002, x189003, x190000, x190001, x190002, x190003 => if x37 = true then (some false) else (semigroupref07_Same.l0 k (x189002.length : Int) 0 x189000 x189001 x189002 x189003 x190000 x190001 x190002 x190003)
def semigroupref07_Same.l0 : Nat → Int → Int → Int → Int → List Bool → List (List Int) → Int → Int → List Bool → List (List Int) → Option (Bool)
 | 0, _, _, _, _, _, _, _, _, _, _ => none
 | k + 1, x40, x41, x189000, x189001, x189002, x189003, x190000, x190001, x190002, x190003 => if x41 < x40 then (if 0 ≤ x41 then (if x41 < (x189002.length : Int) then (if x41 < (x190002.length : Int) then (if ((rdOf false x189002 x41) != (rdOf false x190002 x41)) = true then (some false) else (semigroupref07_Same.l0 k x40 (wrap64 (x41 + 1)) x189000 x189001 x189002 x189003 x190000 x190001 x190002 x190003)) else (none)) else (none)) else (none)) else (semigroupref07_Same.l1 k (x189003.length : Int) 0 x189000 x189001 x189002 x189003 x190000 x190001 x190002 x190003)
def semigroupref07_Same.l1 : Nat → Int → Int → Int → Int → List Bool → List (List Int) → Int → Int → List Bool → List (List Int) → Option (Bool)
 | 0, _, _, _, _, _, _, _, _, _, _ => none
 | k + 1, x58, x59, x189000, x189001, x189002, x189003, x190000, x190001, x190002, x190003 => if x59 < x58 then (if 0 ≤ x59 then (if x59 < (x189003.length : Int) then (if x59 < (x190003.length : Int) then (if ((rd_L1 x189003 x59).length : Int) = ((rd_L1 x190003 x59).length : Int) then (semigroupref07_Same.l2 k x59 x58 x59 ((rd_L1 x189003 x59).length : Int) 0 x189000 x189001 x189002 x189003 x190000 x190001 x190002 x190003) else (some false)) else (none)) else (none)) else (none)) else (some true)
def semigroupref07_Same.l2 : Nat → Int → Int → Int → Int → Int → Int → Int → List Bool → List (List Int) → Int → Int → List Bool → List (List Int) → Option (Bool)
 | 0, _, _, _, _, _, _, _, _, _, _, _, _, _ => none
 | k + 1, x6, x58, x59, x80, x81, x189000, x189001, x189002, x189003, x190000, x190001, x190002, x190003 => if x81 < x80 then (if 0 ≤ x6 then (if x6 < (x189003.length : Int) then (if 0 ≤ x81 then (if x81 < ((rd_L1 x189003 x6).length : Int) then (if x6 < (x190003.length : Int) then (if x81 < ((rd_L1 x190003 x6).length : Int) then (if (rd (rd_L1 x189003 x6) x81) = (rd (rd_L1 x190003 x6) x81) then (semigroupref07_Same.l2 k x6 x58 x59 x80 (wrap64 (x81 + 1)) x189000 x189001 x189002 x189003 x190000 x190001 x190002 x190003) else (some false)) else (none)) else (none)) else (none)) else (none)) else (none)) else (none)) else (semigroupref07_Same.l1 k x58 (wrap64 (x59 + 1)) x189000 x189001 x189002 x189003 x190000 x190001 x190002 x190003)
end
def semigroupref07_Same.f (k : Nat) (a0_0 : Int) (a0_1 : Int) (l0_2 : List Bool) (l0_3 : List (List Int)) (a1_0 : Int) (a1_1 : Int) (l1_2 : List Bool) (l1_3 : List (List Int)) : Option (Bool) := if a0_0 = a1_0 then (if a0_1 = a1_1 then (if (l0_2.length : Int) = (l1_2.length : Int) then (semigroupref07_Same.j0 k ((l0_3.length : Int) != (l1_3.length : Int)) a0_0 a0_1 l0_2 l0_3 a1_0 a1_1 l1_2 l1_3) else (semigroupref07_Same.j0 k true a0_0 a0_1 l0_2 l0_3 a1_0 a1_1 l1_2 l1_3)) else (semigroupref07_Same.j0 k true a0_0 a0_1 l0_2 l0_3 a1_0 a1_1 l1_2 l1_3)) else (semigroupref07_Same.j0 k true a0_0 a0_1 l0_2 l0_3 a1_0 a1_1 l1_2 l1_3)
theorem semigroupref07_Same.mono_l : ∀ k, (∀ y0 y1 y2 y3 y4 y5 y6 y7 y8, LeO (semigroupref07_Same.j0 k y0 y1 y2 y3 y4 y5 y6 y7 y8) (semigroupref07_Same.j0 (k + 1) y0 y1 y2 y3 y4 y5 y6 y7 y8)) ∧ (∀ y0 y1 y2 y3 y4 y5 y6 y7 y8 y9, LeO (semigroupref07_Same.l0 k y0 y1 y2 y3 y4 y5 y6 y7 y8 y9) (semigroupref07_Same.l0 (k + 1) y0 y1 y2 y3 y4 y5 y6 y7 y8 y9)) ∧ (∀ y0 y1 y2 y3 y4 y5 y6 y7 y8 y9, LeO (semigroupref07_Same.l1 k y0 y1 y2 y3 y4 y5 y6 y7 y8 y9) (semigroupref07_Same.l1 (k + 1) y0 y1 y2 y3 y4 y5 y6 y7 y8 y9)) ∧ (∀ y0 y1 y2 y3 y4 y5 y6 y7 y8 y9 y10 y11 y12, LeO (semigroupref07_Same.l2 k y0 y1 y2 y3 y4 y5 y6 y7 y8 y9 y10 y11 y12) (semigroupref07_Same.l2 (k + 1) y0 y1 y2 y3 y4 y5 y6 y7 y8 y9 y10 y11 y12))
 | 0 => ⟨fun _ _ _ _ _ _ _ _ _ r h => by simp [semigroupref07_Same.j0] at h, fun _ _ _ _ _ _ _ _ _ _ r h => by simp [semigroupref07_Same.l0] at h, fun _ _ _ _ _ _ _ _ _ _ r h => by simp [semigroupref07_Same.l1] at h, fun _ _ _ _ _ _ _ _ _ _ _ _ _ r h => by simp [semigroupref07_Same.l2] at h⟩
 | k + 1 => by
  obtain ⟨ih0, ih1, ih2, ih3⟩ := semigroupref07_Same.mono_l k
  refine ⟨?_, ?_, ?_, ?_⟩
  (focus
  intro y0 y1 y2 y3 y4 y5 y6 y7 y8
  unfold semigroupref07_Same.j0
  repeat' first
  | (with_reducible exact ih0 _ _ _ _ _ _ _ _ _)
  | (with_reducible exact ih1 _ _ _ _ _ _ _ _ _ _)
  | (with_reducible exact ih2 _ _ _ _ _ _ _ _ _ _)
  | (with_reducible exact ih3 _ _ _ _ _ _ _ _ _ _ _ _ _)
  | (with_reducible exact LeO.refl _)
  | (with_reducible exact LeO.none _)
  | (with_reducible refine LeO.ite ?_ ?_)
  | (with_reducible refine LeO.bind ?_ (fun _ => ?_))
  | exact ih0 _ _ _ _ _ _ _ _ _
  | exact ih1 _ _ _ _ _ _ _ _ _ _
  | exact ih2 _ _ _ _ _ _ _ _ _ _
  | exact ih3 _ _ _ _ _ _ _ _ _ _ _ _ _
  | exact LeO.none _
  | refine LeO.ite ?_ ?_
  | refine LeO.bind ?_ (fun _ => ?_)
  )
  (focus
  intro y0 y1 y2 y3 y4 y5 y6 y7 y8 y9
  unfold semigroupref07_Same.l0
  repeat' first
  | (with_reducible exact ih0 _ _ _ _ _ _ _ _ _)
  | (with_reducible exact ih1 _ _ _ _ _ _ _ _ _ _)
  | (with_reducible exact ih2 _ _ _ _ _ _ _ _ _ _)
  | (with_reducible exact ih3 _ _ _ _ _ _ _ _ _ _ _ _ _)
  | (with_reducible exact LeO.refl _)
  | (with_reducible exact LeO.none _)
  | (with_reducible refine LeO.ite ?_ ?_)
  | (with_reducible refine LeO.bind ?_ (fun _ => ?_))
  | exact ih0 _ _ _ _ _ _ _ _ _
  | exact ih1 _ _ _ _ _ _ _ _ _ _
  | exact ih2 _ _ _ _ _ _ _ _ _ _
  | exact ih3 _ _ _ _ _ _ _ _ _ _ _ _ _
  | exact LeO.none _
  | refine LeO.ite ?_ ?_
  | refine LeO.bind ?_ (fun _ => ?_)
  )
  (focus
  intro y0 y1 y2 y3 y4 y5 y6 y7 y8 y9
  unfold semigroupref07_Same.l1
  repeat' first
  | (with_reducible exact ih0 _ _ _ _ _ _ _ _ _)
  | (with_reducible exact ih1 _ _ _ _ _ _ _ _ _ _)
  | (with_reducible exact ih2 _ _ _ _ _ _ _ _ _ _)
  | (with_reducible exact ih3 _ _ _ _ _ _ _ _ _ _ _ _ _)
  | (with_reducible exact LeO.refl _)
  | (with_reducible exact LeO.none _)
  | (with_reducible refine LeO.ite ?_ ?_)
  | (with_reducible refine LeO.bind ?_ (fun _ => ?_))
  | exact ih0 _ _ _ _ _ _ _ _ _
  | exact ih1 _ _ _ _ _ _ _ _ _ _
  | exact ih2 _ _ _ _ _ _ _ _ _ _
  | exact ih3 _ _ _ _ _ _ _ _ _ _ _ _ _
  | exact LeO.none _
  | refine LeO.ite ?_ ?_
  | refine LeO.bind ?_ (fun _ => ?_)
  )
  (focus
  intro y0 y1 y2 y3 y4 y5 y6 y7 y8 y9 y10 y11 y12
  unfold semigroupref07_Same.l2
  repeat' first
  | (with_reducible exact ih0 _ _ _ _ _ _ _ _ _)
  | (with_reducible exact ih1 _ _ _ _ _ _ _ _ _ _)
  | (with_reducible exact ih2 _ _ _ _ _ _ _ _ _ _)
  | (with_reducible exact ih3 _ _ _ _ _ _ _ _ _ _ _ _ _)
  | (with_reducible exact LeO.refl _)
  | (with_reducible exact LeO.none _)
  | (with_reducible refine LeO.ite ?_ ?_)
  | (with_reducible refine LeO.bind ?_ (fun _ => ?_))
  | exact ih0 _ _ _ _ _ _ _ _ _
  | exact ih1 _ _ _ _ _ _ _ _ _ _
  | exact ih2 _ _ _ _ _ _ _ _ _ _
  | exact ih3 _ _ _ _ _ _ _ _ _ _ _ _ _
  | exact LeO.none _
  | refine LeO.ite ?_ ?_
  | refine LeO.bind ?_ (fun _ => ?_)
  )
theorem semigroupref07_Same.mono : ∀ a0 a1 a2 a3 a4 a5 a6 a7 k, LeO (semigroupref07_Same.f k a0 a1 a2 a3 a4 a5 a6 a7) (semigroupref07_Same.f (k + 1) a0 a1 a2 a3 a4 a5 a6 a7) := by
 intro a0 a1 a2 a3 a4 a5 a6 a7 k
 obtain ⟨ih0, ih1, ih2, ih3⟩ := semigroupref07_Same.mono_l k
 unfold semigroupref07_Same.f
 repeat' first
  | (with_reducible exact ih0 _ _ _ _ _ _ _ _ _)
  | (with_reducible exact ih1 _ _ _ _ _ _ _ _ _ _)
  | (with_reducible exact ih2 _ _ _ _ _ _ _ _ _ _)
  | (with_reducible exact ih3 _ _ _ _ _ _ _ _ _ _ _ _ _)
  | (with_reducible exact LeO.refl _)
  | (with_reducible exact LeO.none _)
  | (with_reducible refine LeO.ite ?_ ?_)
  | (with_reducible refine LeO.bind ?_ (fun _ => ?_))
  | exact ih0 _ _ _ _ _ _ _ _ _
  | exact ih1 _ _ _ _ _ _ _ _ _ _
  | exact ih2 _ _ _ _ _ _ _ _ _ _
  | exact ih3 _ _ _ _ _ _ _ _ _ _ _ _ _
  | exact LeO.none _
  | refine LeO.ite ?_ ?_
  | refine LeO.bind ?_ (fun _ => ?_)
set_option maxHeartbeats 8000000 in
set_option maxRecDepth 100000 in
theorem semigroupref07_Same.calls (k : Nat) (a0_0 : Int) (a0_1 : Int) (A0_2 : Option Addr) (c0_2 : Nat) (l0_2 : List Bool) (A0_3 : Option Addr) (c0_3 : Nat) (l0_3 : List (List Int)) (a1_0 : Int) (a1_1 : Int) (A1_2 : Option Addr) (c1_2 : Nat) (l1_2 : List Bool) (A1_3 : Option Addr) (c1_3 : Nat) (l1_3 : List (List Int)) (r : Bool) (w : World) (hr0_2 : Kd.C Kd.bool w A0_2 l0_2.length l0_2) (hc0_2 : l0_2.length ≤ c0_2) (hr0_3 : Kd.C (Kd.slice 3 (Kd.int .i64)) w A0_3 l0_3.length l0_3) (hc0_3 : l0_3.length ≤ c0_3) (hr1_2 : Kd.C Kd.bool w A1_2 l1_2.length l1_2) (hc1_2 : l1_2.length ≤ c1_2) (hr1_3 : Kd.C (Kd.slice 3 (Kd.int .i64)) w A1_3 l1_3.length l1_3) (hc1_3 : l1_3.length ≤ c1_3) (h : semigroupref07_Same.f k a0_0 a0_1 l0_2 l0_3 a1_0 a1_1 l1_2 l1_3 = some r) :
 Calls Try.prog 28 #[.agg #[.int .i64 a0_0, .int .i64 a0_1, .slice A0_2 l0_2.length c0_2, .slice A0_3 l0_3.length c0_3], .agg #[.int .i64 a1_0, .int .i64 a1_1, .slice A1_2 l1_2.length c1_2, .slice A1_3 l1_3.length c1_3]] w fun e w' => e = .returned (.bool r) ∧ Below w.heap.size w w' := by
 have hu25 := Try.underlying25
 have HR0_2 := Aside0.mk hr0_2
 have HC0_2 := Aside0.mk hc0_2
 clear hr0_2 hc0_2
 have HR0_3 := Aside0.mk hr0_3
 have HC0_3 := Aside0.mk hc0_3
 clear hr0_3 hc0_3
 have HR1_2 := Aside0.mk hr1_2
 have HC1_2 := Aside0.mk hc1_2
 clear hr1_2 hc1_2
 have HR1_3 := Aside0.mk hr1_3
 have HC1_3 := Aside0.mk hc1_3
 clear hr1_3 hc1_3
 have HB := aM (Below.refl w.heap.size w)
 have H : (if a0_0 = a1_0 then (if a0_1 = a1_1 then (if (l0_2.length : Int) = (l1_2.length : Int) then (semigroupref07_Same.j0 k ((l0_3.length : Int) != (l1_3.length : Int)) a0_0 a0_1 l0_2 l0_3 a1_0 a1_1 l1_2 l1_3) else (semigroupref07_Same.j0 k true a0_0 a0_1 l0_2 l0_3 a1_0 a1_1 l1_2 l1_3)) else (semigroupref07_Same.j0 k true a0_0 a0_1 l0_2 l0_3 a1_0 a1_1 l1_2 l1_3)) else (semigroupref07_Same.j0 k true a0_0 a0_1 l0_2 l0_3 a1_0 a1_1 l1_2 l1_3)) = some r := h
 clear h
 have HC3 := Aside0.mk H
 clear H
 go_enter Try.func28, Try.ntmps28
 go_upto_region 1 with (first | ((with_reducible refine gate_dst (N := 2) rfl ?_); (try (refine gate_guard (by rfl) ?_; dsimp only)); refine box_event ?hg (N := 2) ?hd (cs := #[.int .i64 a0_0, .int .i64 a0_1, .slice A0_2 l0_2.length c0_2, .slice A0_3 l0_3.length c0_3]) (t := 25) ?hr ?_; (case hd => rfl); (case hg => rfl); (case hr => first | (go_simp; done) | (go_simp; rfl)); intro gb188 hg w4 hbox hb; have n0_ := aM (below_step (by repeat (first | (with_reducible first | exact HB.out | apply bA | apply bN | apply bD) | exact HB.out)) hb); have n1_ := aM (hbox); have n2_ := aM ((by rw [hg]; exact (below_size (by repeat (first | (with_reducible first | exact HB.out | apply bA | apply bN | apply bD) | exact HB.out))) : w.heap.size ≤ gb188)); have n3_ := aM ((by rw [hg]; exact (below_size (by repeat (first | (with_reducible first | exact HB.out | apply bA | apply bN | apply bD) | exact HB.out))) : w.heap.size ≤ gb188)); clear HB; have HB := n0_; have BK188 := n1_; have GW188 := n2_; have GE188 := n3_; clear n0_ n1_ n2_ n3_; clear hb hbox hg) | ((with_reducible refine gate_dst (N := 3) rfl ?_); (try (refine gate_guard (by rfl) ?_; dsimp only)); refine box_event ?hg (N := 3) ?hd (cs := #[.int .i64 a1_0, .int .i64 a1_1, .slice A1_2 l1_2.length c1_2, .slice A1_3 l1_3.length c1_3]) (t := 25) ?hr ?_; (case hd => rfl); (case hg => rfl); (case hr => first | (go_simp; done) | (go_simp; rfl)); intro gb189 hg w5 hbox hb; have n0_ := aM (blk_below (uB BK188.out) hb); have n1_ := aM (below_step (by repeat (first | (with_reducible first | exact HB.out | apply bA | apply bN | apply bD | refine bS ?_ ‹_›) | exact HB.out)) hb); have n2_ := aM (hbox); have n3_ := aM ((by rw [hg]; exact (below_size (by repeat (first | (with_reducible first | exact HB.out | apply bA | apply bN | apply bD | refine bS ?_ ‹_›) | exact HB.out))) : w.heap.size ≤ gb189)); have n4_ := aM ((by rw [hg]; exact (below_size (by repeat (first | (with_reducible first | exact HB.out | apply bA | apply bN | apply bD | refine bS ?_ ‹_›) | exact HB.out))) : w.heap.size ≤ gb189)); have n5_ := aM ((by rw [hg]; exact Nat.ne_of_lt (blk_lt (uB BK188.out)) : gb188 ≠ gb189)); have n6_ := aM ((by rw [hg]; exact Nat.ne_of_gt (blk_lt (uB BK188.out)) : gb189 ≠ gb188)); clear BK188; clear HB; have BK188 := n0_; have HB := n1_; have BK189 := n2_; have GW189 := n3_; have GE189 := n4_; have NB188_189 := n5_; have NB189_188 := n6_; clear n0_ n1_ n2_ n3_ n4_ n5_ n6_; clear hb hbox hg))
 repeat (go_quiet (first | ((with_reducible refine gate_dst (N := 2) rfl ?_); (try (refine gate_guard (by rfl) ?_; dsimp only)); refine box_event ?hg (N := 2) ?hd (cs := #[.int .i64 a0_0, .int .i64 a0_1, .slice A0_2 l0_2.length c0_2, .slice A0_3 l0_3.length c0_3]) (t := 25) ?hr ?_; (case hd => rfl); (case hg => rfl); (case hr => first | (go_simp; done) | (go_simp; rfl)); intro gb188 hg w4 hbox hb; have n0_ := aM (below_step (by repeat (first | (with_reducible first | exact HB.out | apply bA | apply bN | apply bD) | exact HB.out)) hb); have n1_ := aM (hbox); have n2_ := aM ((by rw [hg]; exact (below_size (by repeat (first | (with_reducible first | exact HB.out | apply bA | apply bN | apply bD) | exact HB.out))) : w.heap.size ≤ gb188)); have n3_ := aM ((by rw [hg]; exact (below_size (by repeat (first | (with_reducible first | exact HB.out | apply bA | apply bN | apply bD) | exact HB.out))) : w.heap.size ≤ gb188)); clear HB; have HB := n0_; have BK188 := n1_; have GW188 := n2_; have GE188 := n3_; clear n0_ n1_ n2_ n3_; clear hb hbox hg) | ((with_reducible refine gate_dst (N := 3) rfl ?_); (try (refine gate_guard (by rfl) ?_; dsimp only)); refine box_event ?hg (N := 3) ?hd (cs := #[.int .i64 a1_0, .int .i64 a1_1, .slice A1_2 l1_2.length c1_2, .slice A1_3 l1_3.length c1_3]) (t := 25) ?hr ?_; (case hd => rfl); (case hg => rfl); (case hr => first | (go_simp; done) | (go_simp; rfl)); intro gb189 hg w5 hbox hb; have n0_ := aM (blk_below (uB BK188.out) hb); have n1_ := aM (below_step (by repeat (first | (with_reducible first | exact HB.out | apply bA | apply bN | apply bD | refine bS ?_ ‹_›) | exact HB.out)) hb); have n2_ := aM (hbox); have n3_ := aM ((by rw [hg]; exact (below_size (by repeat (first | (with_reducible first | exact HB.out | apply bA | apply bN | apply bD | refine bS ?_ ‹_›) | exact HB.out))) : w.heap.size ≤ gb189)); have n4_ := aM ((by rw [hg]; exact (below_size (by repeat (first | (with_reducible first | exact HB.out | apply bA | apply bN | apply bD | refine bS ?_ ‹_›) | exact HB.out))) : w.heap.size ≤ gb189)); have n5_ := aM ((by rw [hg]; exact Nat.ne_of_lt (blk_lt (uB BK188.out)) : gb188 ≠ gb189)); have n6_ := aM ((by rw [hg]; exact Nat.ne_of_gt (blk_lt (uB BK188.out)) : gb189 ≠ gb188)); clear BK188; clear HB; have BK188 := n0_; have HB := n1_; have BK189 := n2_; have GW189 := n3_; have GE189 := n4_; have NB188_189 := n5_; have NB189_188 := n6_; clear n0_ n1_ n2_ n3_ n4_ n5_ n6_; clear hb hbox hg)); go_upto_region 1 with (first | ((with_reducible refine gate_dst (N := 2) rfl ?_); (try (refine gate_guard (by rfl) ?_; dsimp only)); refine box_event ?hg (N := 2) ?hd (cs := #[.int .i64 a0_0, .int .i64 a0_1, .slice A0_2 l0_2.length c0_2, .slice A0_3 l0_3.length c0_3]) (t := 25) ?hr ?_; (case hd => rfl); (case hg => rfl); (case hr => first | (go_simp; done) | (go_simp; rfl)); intro gb188 hg w4 hbox hb; have n0_ := aM (below_step (by repeat (first | (with_reducible first | exact HB.out | apply bA | apply bN | apply bD) | exact HB.out)) hb); have n1_ := aM (hbox); have n2_ := aM ((by rw [hg]; exact (below_size (by repeat (first | (with_reducible first | exact HB.out | apply bA | apply bN | apply bD) | exact HB.out))) : w.heap.size ≤ gb188)); have n3_ := aM ((by rw [hg]; exact (below_size (by repeat (first | (with_reducible first | exact HB.out | apply bA | apply bN | apply bD) | exact HB.out))) : w.heap.size ≤ gb188)); clear HB; have HB := n0_; have BK188 := n1_; have GW188 := n2_; have GE188 := n3_; clear n0_ n1_ n2_ n3_; clear hb hbox hg) | ((with_reducible refine gate_dst (N := 3) rfl ?_); (try (refine gate_guard (by rfl) ?_; dsimp only)); refine box_event ?hg (N := 3) ?hd (cs := #[.int .i64 a1_0, .int .i64 a1_1, .slice A1_2 l1_2.length c1_2, .slice A1_3 l1_3.length c1_3]) (t := 25) ?hr ?_; (case hd => rfl); (case hg => rfl); (case hr => first | (go_simp; done) | (go_simp; rfl)); intro gb189 hg w5 hbox hb; have n0_ := aM (blk_below (uB BK188.out) hb); have n1_ := aM (below_step (by repeat (first | (with_reducible first | exact HB.out | apply bA | apply bN | apply bD | refine bS ?_ ‹_›) | exact HB.out)) hb); have n2_ := aM (hbox); have n3_ := aM ((by rw [hg]; exact (below_size (by repeat (first | (with_reducible first | exact HB.out | apply bA | apply bN | apply bD | refine bS ?_ ‹_›) | exact HB.out))) : w.heap.size ≤ gb189)); have n4_ := aM ((by rw [hg]; exact (below_size (by repeat (first | (with_reducible first | exact HB.out | apply bA | apply bN | apply bD | refine bS ?_ ‹_›) | exact HB.out))) : w.heap.size ≤ gb189)); have n5_ := aM ((by rw [hg]; exact Nat.ne_of_lt (blk_lt (uB BK188.out)) : gb188 ≠ gb189)); have n6_ := aM ((by rw [hg]; exact Nat.ne_of_gt (blk_lt (uB BK188.out)) : gb189 ≠ gb188)); clear BK188; clear HB; have BK188 := n0_; have HB := n1_; have BK189 := n2_; have GW189 := n3_; have GE189 := n4_; have NB188_189 := n5_; have NB189_188 := n6_; clear n0_ n1_ n2_ n3_ n4_ n5_ n6_; clear hb hbox hg)))
 (try simp only [Act.put, sA, sB, sC])
 go_cut [37] (fun v37 wc => ∃ (kq : Nat) (x37_2 : Bool), v37 = .bool x37_2 ∧ Aside0 (semigroupref07_Same.j0 kq x37_2 a0_0 a0_1 l0_2 l0_3 a1_0 a1_1 l1_2 l1_3 = some r) ∧ Aside0 (kq ≤ k) ∧ Aside0 (wc.heap[gb188]? = some (.cells #[.int .i64 a0_0, .int .i64 a0_1, (.slice A0_2 l0_2.length c0_2), (.slice A0_3 l0_3.length c0_3)] 25 (0, 0))) ∧ Aside0 (wc.heap[gb189]? = some (.cells #[.int .i64 a1_0, .int .i64 a1_1, (.slice A1_2 l1_2.length c1_2), (.slice A1_3 l1_3.length c1_3)] 25 (0, 0))) ∧ Aside0 (Below w.heap.size w wc))
 case first =>
  have H := HC3.out
  clear HC3
  by_cases c6 : a0_0 = a1_0
  (focus
  rw [if_pos c6] at H
  have c6b0 : (a0_0 == a1_0) = true := beq_iff_eq.mpr c6
  have c6b1 : (a0_0 != a1_0) = false := bne_eq_false_iff_eq.mpr c6
  clear c6
  (first | rw [c6b0] | (simp only [i64_w, i32_w]; rw [c6b0]) | skip)
  by_cases c7 : a0_1 = a1_1
  (focus
  rw [if_pos c7] at H
  have c7b0 : (a0_1 == a1_1) = true := beq_iff_eq.mpr c7
  have c7b1 : (a0_1 != a1_1) = false := bne_eq_false_iff_eq.mpr c7
  clear c7
  by_cases c8 : (l0_2.length : Int) = (l1_2.length : Int)
  (focus
  rw [if_pos c8] at H
  have c8b0 : ((l0_2.length : Int) == (l1_2.length : Int)) = true := beq_iff_eq.mpr c8
  have c8b1 : ((l0_2.length : Int) != (l1_2.length : Int)) = false := bne_eq_false_iff_eq.mpr c8
  have c8b2 : (l0_2.length == l1_2.length) = true := by first | simpa using c8 | (simp at c8 ⊢; omega)
  clear c8
  have H' := Aside0.mk H
  clear H
  have hnb9 := NB188_189.out
  have hnc9 := NB189_188.out
  have hcz10_0 : w5.cell? ⟨gb188, 0, none⟩ = some (.int .i64 a0_0) := (blk_cell BK188.out 0).trans rfl
  have hcz10_1 : w5.cell? ⟨gb188, 1, none⟩ = some (.int .i64 a0_1) := (blk_cell BK188.out 1).trans rfl
  have hcz10_2 : w5.cell? ⟨gb188, 2, none⟩ = some (.slice A0_2 l0_2.length c0_2) := (blk_cell BK188.out 2).trans rfl
  have hcz10_3 : w5.cell? ⟨gb188, 3, none⟩ = some (.slice A0_3 l0_3.length c0_3) := (blk_cell BK188.out 3).trans rfl
  have hfz10_0 := blk_frozen BK188.out 0
  have hfz10_1 := blk_frozen BK188.out 1
  have hfz10_2 := blk_frozen BK188.out 2
  have hfz10_3 := blk_frozen BK188.out 3
  have hcz11_0 : w5.cell? ⟨gb189, 0, none⟩ = some (.int .i64 a1_0) := (blk_cell BK189.out 0).trans rfl
  have hcz11_1 : w5.cell? ⟨gb189, 1, none⟩ = some (.int .i64 a1_1) := (blk_cell BK189.out 1).trans rfl
  have hcz11_2 : w5.cell? ⟨gb189, 2, none⟩ = some (.slice A1_2 l1_2.length c1_2) := (blk_cell BK189.out 2).trans rfl
  have hcz11_3 : w5.cell? ⟨gb189, 3, none⟩ = some (.slice A1_3 l1_3.length c1_3) := (blk_cell BK189.out 3).trans rfl
  have hfz11_0 := blk_frozen BK189.out 0
  have hfz11_1 := blk_frozen BK189.out 1
  have hfz11_2 := blk_frozen BK189.out 2
  have hfz11_3 := blk_frozen BK189.out 3
  go_wp2
  repeat (go_quiet (fail); try go_wp2)
  go_meet
  case rel => exact ⟨_, (((l0_3.length : Int) != (l1_3.length : Int))), (by first | rfl | (simp; done) | (simp [*]; done)), H', ⟨by first | omega | exact Nat.le_refl _⟩, ⟨by (with_reducible repeat (first | refine kN ?_ | refine kD ?_ | refine kA ?_)); exact BK188.out⟩, ⟨by (with_reducible repeat (first | refine kN ?_ | refine kD ?_ | refine kA ?_)); exact BK189.out⟩, ⟨by repeat (first | (with_reducible first | exact HB.out | apply bA | apply bN | apply bD | refine bS ?_ ‹_›) | exact HB.out)⟩⟩
  )
  (focus
  rw [if_neg c8] at H
  have c8b0 : ((l0_2.length : Int) == (l1_2.length : Int)) = false := beq_eq_false_iff_ne.mpr c8
  have c8b1 : ((l0_2.length : Int) != (l1_2.length : Int)) = true := bne_iff_ne.mpr c8
  have c8b2 : (l0_2.length == l1_2.length) = false := by first | simpa using c8 | (simp at c8 ⊢; omega)
  have H' := Aside0.mk H
  clear H
  have hnb12 := NB188_189.out
  have hnc12 := NB189_188.out
  have hcz13_0 : w5.cell? ⟨gb188, 0, none⟩ = some (.int .i64 a0_0) := (blk_cell BK188.out 0).trans rfl
  have hcz13_1 : w5.cell? ⟨gb188, 1, none⟩ = some (.int .i64 a0_1) := (blk_cell BK188.out 1).trans rfl
  have hcz13_2 : w5.cell? ⟨gb188, 2, none⟩ = some (.slice A0_2 l0_2.length c0_2) := (blk_cell BK188.out 2).trans rfl
  have hcz13_3 : w5.cell? ⟨gb188, 3, none⟩ = some (.slice A0_3 l0_3.length c0_3) := (blk_cell BK188.out 3).trans rfl
  have hfz13_0 := blk_frozen BK188.out 0
  have hfz13_1 := blk_frozen BK188.out 1
  have hfz13_2 := blk_frozen BK188.out 2
  have hfz13_3 := blk_frozen BK188.out 3
  have hcz14_0 : w5.cell? ⟨gb189, 0, none⟩ = some (.int .i64 a1_0) := (blk_cell BK189.out 0).trans rfl
  have hcz14_1 : w5.cell? ⟨gb189, 1, none⟩ = some (.int .i64 a1_1) := (blk_cell BK189.out 1).trans rfl
  have hcz14_2 : w5.cell? ⟨gb189, 2, none⟩ = some (.slice A1_2 l1_2.length c1_2) := (blk_cell BK189.out 2).trans rfl
  have hcz14_3 : w5.cell? ⟨gb189, 3, none⟩ = some (.slice A1_3 l1_3.length c1_3) := (blk_cell BK189.out 3).trans rfl
  have hfz14_0 := blk_frozen BK189.out 0
  have hfz14_1 := blk_frozen BK189.out 1
  have hfz14_2 := blk_frozen BK189.out 2
  have hfz14_3 := blk_frozen BK189.out 3
  go_wp2
  repeat (go_quiet (fail); try go_wp2)
  go_meet
  case rel => exact ⟨_, (true), (by first | rfl | (simp; done) | (simp [*]; done)), H', ⟨by first | omega | exact Nat.le_refl _⟩, ⟨by (with_reducible repeat (first | refine kN ?_ | refine kD ?_ | refine kA ?_)); exact BK188.out⟩, ⟨by (with_reducible repeat (first | refine kN ?_ | refine kD ?_ | refine kA ?_)); exact BK189.out⟩, ⟨by repeat (first | (with_reducible first | exact HB.out | apply bA | apply bN | apply bD | refine bS ?_ ‹_›) | exact HB.out)⟩⟩
  )
  )
  (focus
  rw [if_neg c7] at H
  have c7b0 : (a0_1 == a1_1) = false := beq_eq_false_iff_ne.mpr c7
  have c7b1 : (a0_1 != a1_1) = true := bne_iff_ne.mpr c7
  have H' := Aside0.mk H
  clear H
  have hnb15 := NB188_189.out
  have hnc15 := NB189_188.out
  have hcz16_0 : w5.cell? ⟨gb188, 0, none⟩ = some (.int .i64 a0_0) := (blk_cell BK188.out 0).trans rfl
  have hcz16_1 : w5.cell? ⟨gb188, 1, none⟩ = some (.int .i64 a0_1) := (blk_cell BK188.out 1).trans rfl
  have hcz16_2 : w5.cell? ⟨gb188, 2, none⟩ = some (.slice A0_2 l0_2.length c0_2) := (blk_cell BK188.out 2).trans rfl
  have hcz16_3 : w5.cell? ⟨gb188, 3, none⟩ = some (.slice A0_3 l0_3.length c0_3) := (blk_cell BK188.out 3).trans rfl
  have hfz16_0 := blk_frozen BK188.out 0
  have hfz16_1 := blk_frozen BK188.out 1
  have hfz16_2 := blk_frozen BK188.out 2
  have hfz16_3 := blk_frozen BK188.out 3
  have hcz17_0 : w5.cell? ⟨gb189, 0, none⟩ = some (.int .i64 a1_0) := (blk_cell BK189.out 0).trans rfl
  have hcz17_1 : w5.cell? ⟨gb189, 1, none⟩ = some (.int .i64 a1_1) := (blk_cell BK189.out 1).trans rfl
  have hcz17_2 : w5.cell? ⟨gb189, 2, none⟩ = some (.slice A1_2 l1_2.length c1_2) := (blk_cell BK189.out 2).trans rfl
  have hcz17_3 : w5.cell? ⟨gb189, 3, none⟩ = some (.slice A1_3 l1_3.length c1_3) := (blk_cell BK189.out 3).trans rfl
  have hfz17_0 := blk_frozen BK189.out 0
  have hfz17_1 := blk_frozen BK189.out 1
  have hfz17_2 := blk_frozen BK189.out 2
  have hfz17_3 := blk_frozen BK189.out 3
  go_wp2
  repeat (go_quiet (fail); try go_wp2)
  go_meet
  case rel => exact ⟨_, (true), (by first | rfl | (simp; done) | (simp [*]; done)), H', ⟨by first | omega | exact Nat.le_refl _⟩, ⟨by (with_reducible repeat (first | refine kN ?_ | refine kD ?_ | refine kA ?_)); exact BK188.out⟩, ⟨by (with_reducible repeat (first | refine kN ?_ | refine kD ?_ | refine kA ?_)); exact BK189.out⟩, ⟨by repeat (first | (with_reducible first | exact HB.out | apply bA | apply bN | apply bD | refine bS ?_ ‹_›) | exact HB.out)⟩⟩
  )
  )
  (focus
  rw [if_neg c6] at H
  have c6b0 : (a0_0 == a1_0) = false := beq_eq_false_iff_ne.mpr c6
  have c6b1 : (a0_0 != a1_0) = true := bne_iff_ne.mpr c6
  (first | rw [c6b0] | (simp only [i64_w, i32_w]; rw [c6b0]) | skip)
  have H' := Aside0.mk H
  clear H
  have hnb18 := NB188_189.out
  have hnc18 := NB189_188.out
  have hcz19_0 : w5.cell? ⟨gb188, 0, none⟩ = some (.int .i64 a0_0) := (blk_cell BK188.out 0).trans rfl
  have hcz19_1 : w5.cell? ⟨gb188, 1, none⟩ = some (.int .i64 a0_1) := (blk_cell BK188.out 1).trans rfl
  have hcz19_2 : w5.cell? ⟨gb188, 2, none⟩ = some (.slice A0_2 l0_2.length c0_2) := (blk_cell BK188.out 2).trans rfl
  have hcz19_3 : w5.cell? ⟨gb188, 3, none⟩ = some (.slice A0_3 l0_3.length c0_3) := (blk_cell BK188.out 3).trans rfl
  have hfz19_0 := blk_frozen BK188.out 0
  have hfz19_1 := blk_frozen BK188.out 1
  have hfz19_2 := blk_frozen BK188.out 2
  have hfz19_3 := blk_frozen BK188.out 3
  have hcz20_0 : w5.cell? ⟨gb189, 0, none⟩ = some (.int .i64 a1_0) := (blk_cell BK189.out 0).trans rfl
  have hcz20_1 : w5.cell? ⟨gb189, 1, none⟩ = some (.int .i64 a1_1) := (blk_cell BK189.out 1).trans rfl
  have hcz20_2 : w5.cell? ⟨gb189, 2, none⟩ = some (.slice A1_2 l1_2.length c1_2) := (blk_cell BK189.out 2).trans rfl
  have hcz20_3 : w5.cell? ⟨gb189, 3, none⟩ = some (.slice A1_3 l1_3.length c1_3) := (blk_cell BK189.out 3).trans rfl
  have hfz20_0 := blk_frozen BK189.out 0
  have hfz20_1 := blk_frozen BK189.out 1
  have hfz20_2 := blk_frozen BK189.out 2
  have hfz20_3 := blk_frozen BK189.out 3
  go_wp2
  repeat (go_quiet (fail); try go_wp2)
  go_meet
  case rel => exact ⟨_, (true), (by first | rfl | (simp; done) | (simp [*]; done)), H', ⟨by first | omega | exact Nat.le_refl _⟩, ⟨by (with_reducible repeat (first | refine kN ?_ | refine kD ?_ | refine kA ?_)); exact BK188.out⟩, ⟨by (with_reducible repeat (first | refine kN ?_ | refine kD ?_ | refine kA ?_)); exact BK189.out⟩, ⟨by repeat (first | (with_reducible first | exact HB.out | apply bA | apply bN | apply bD | refine bS ?_ ‹_›) | exact HB.out)⟩⟩
  )
 case rest =>
  clear HC3
  try clear c1
  try clear c2
  try clear p2
  try clear c6
  try clear c6b0
  try clear c6b1
  try clear c7
  try clear c7b0
  try clear c7b1
  try clear c8
  try clear c8b0
  try clear c8b1
  try clear c8b2
  try clear c9
  try clear c12
  try clear c15
  try clear c18
  try clear hcz10_0
  try clear hcz10_1
  try clear hcz10_2
  try clear hcz10_3
  try clear hcz11_0
  try clear hcz11_1
  try clear hcz11_2
  try clear hcz11_3
  try clear hcz13_0
  try clear hcz13_1
  try clear hcz13_2
  try clear hcz13_3
  try clear hcz14_0
  try clear hcz14_1
  try clear hcz14_2
  try clear hcz14_3
  try clear hcz16_0
  try clear hcz16_1
  try clear hcz16_2
  try clear hcz16_3
  try clear hcz17_0
  try clear hcz17_1
  try clear hcz17_2
  try clear hcz17_3
  try clear hcz19_0
  try clear hcz19_1
  try clear hcz19_2
  try clear hcz19_3
  try clear hcz20_0
  try clear hcz20_1
  try clear hcz20_2
  try clear hcz20_3
  try clear hfz10_0
  try clear hfz10_1
  try clear hfz10_2
  try clear hfz10_3
  try clear hfz11_0
  try clear hfz11_1
  try clear hfz11_2
  try clear hfz11_3
  try clear hfz13_0
  try clear hfz13_1
  try clear hfz13_2
  try clear hfz13_3
  try clear hfz14_0
  try clear hfz14_1
  try clear hfz14_2
  try clear hfz14_3
  try clear hfz16_0
  try clear hfz16_1
  try clear hfz16_2
  try clear hfz16_3
  try clear hfz17_0
  try clear hfz17_1
  try clear hfz17_2
  try clear hfz17_3
  try clear hfz19_0
  try clear hfz19_1
  try clear hfz19_2
  try clear hfz19_3
  try clear hfz20_0
  try clear hfz20_1
  try clear hfz20_2
  try clear hfz20_3
  obtain ⟨kq, x37_2, rfl, HA, HJ2, BK188, BK189, HB⟩ := hcut
  cases kq with
  | zero => exact absurd HA.out (by simp [semigroupref07_Same.j0])
  | succ kj2 =>
   have H := HA.out
   clear HA
   simp only [semigroupref07_Same.j0] at H
   by_cases c21 : x37_2 = true
   (focus
   subst c21
   have H1 : (some false) = some r := by rw [if_pos rfl] at H; exact H
   clear H
   have H := H1
   clear H1
   obtain rfl := Option.some.inj H
   go_wp2
   repeat (go_quiet (fail); try go_wp2)
   go_ret
   exact ⟨by first | rfl | (simp [errW_none, errW_some] <;> rfl) | (simp [*, errW_none, errW_some] <;> rfl), by repeat (first | (with_reducible first | exact HB.out | apply bA | apply bN | apply bD | refine bS ?_ ‹_›) | exact HB.out)⟩
   )
   (focus
   replace c21 := Bool.eq_false_iff.mpr c21
   subst c21
   have H1 : (semigroupref07_Same.l0 kj2 (l0_2.length : Int) 0 a0_0 a0_1 l0_2 l0_3 a1_0 a1_1 l1_2 l1_3) = some r := by rw [if_neg (show ¬ (false = true) by decide)] at H; exact H
   clear H
   have H := H1
   clear H1
   have H' := Aside0.mk H
   clear H
   have hnb22 := NB188_189.out
   have hnc22 := NB189_188.out
   have hcz23_0 : wc.cell? ⟨gb188, 0, none⟩ = some (.int .i64 a0_0) := (blk_cell BK188.out 0).trans rfl
   have hcz23_1 : wc.cell? ⟨gb188, 1, none⟩ = some (.int .i64 a0_1) := (blk_cell BK188.out 1).trans rfl
   have hcz23_2 : wc.cell? ⟨gb188, 2, none⟩ = some (.slice A0_2 l0_2.length c0_2) := (blk_cell BK188.out 2).trans rfl
   have hcz23_3 : wc.cell? ⟨gb188, 3, none⟩ = some (.slice A0_3 l0_3.length c0_3) := (blk_cell BK188.out 3).trans rfl
   have hfz23_0 := blk_frozen BK188.out 0
   have hfz23_1 := blk_frozen BK188.out 1
   have hfz23_2 := blk_frozen BK188.out 2
   have hfz23_3 := blk_frozen BK188.out 3
   go_wp2
   repeat (go_quiet (fail); try go_wp2)
   go_loopg [41] kj2 (fun kq v41 w' => ∃ (x41_2 : Int), v41 = .int .i64 x41_2 ∧ Aside0 (semigroupref07_Same.l0 kq (l0_2.length : Int) x41_2 a0_0 a0_1 l0_2 l0_3 a1_0 a1_1 l1_2 l1_3 = some r) ∧ Aside0 (kq ≤ kj2) ∧ Aside0 (w'.heap[gb188]? = some (.cells #[.int .i64 a0_0, .int .i64 a0_1, (.slice A0_2 l0_2.length c0_2), (.slice A0_3 l0_3.length c0_3)] 25 (0, 0))) ∧ Aside0 (w'.heap[gb189]? = some (.cells #[.int .i64 a1_0, .int .i64 a1_1, (.slice A1_2 l1_2.length c1_2), (.slice A1_3 l1_3.length c1_3)] 25 (0, 0))) ∧ Aside0 (Below w.heap.size w w'))
   case atStart => exact ⟨(0), (by first | rfl | (simp; done) | (simp [*]; done)), H', ⟨Nat.le_refl _⟩, ⟨by (with_reducible repeat (first | refine kN ?_ | refine kD ?_ | refine kA ?_)); exact BK188.out⟩, ⟨by (with_reducible repeat (first | refine kN ?_ | refine kD ?_ | refine kA ?_)); exact BK189.out⟩, ⟨by repeat (first | (with_reducible first | exact HB.out | apply bA | apply bN | apply bD | refine bS ?_ ‹_›) | exact HB.out)⟩⟩
   case round =>
    clear H'
    try clear c1
    try clear c2
    try clear p2
    try clear c6
    try clear c6b0
    try clear c6b1
    try clear c7
    try clear c7b0
    try clear c7b1
    try clear c8
    try clear c8b0
    try clear c8b1
    try clear c8b2
    try clear c9
    try clear c12
    try clear c15
    try clear c18
    try clear c21
    try clear c22
    try clear hcz10_0
    try clear hcz10_1
    try clear hcz10_2
    try clear hcz10_3
    try clear hcz11_0
    try clear hcz11_1
    try clear hcz11_2
    try clear hcz11_3
    try clear hcz13_0
    try clear hcz13_1
    try clear hcz13_2
    try clear hcz13_3
    try clear hcz14_0
    try clear hcz14_1
    try clear hcz14_2
    try clear hcz14_3
    try clear hcz16_0
    try clear hcz16_1
    try clear hcz16_2
    try clear hcz16_3
    try clear hcz17_0
    try clear hcz17_1
    try clear hcz17_2
    try clear hcz17_3
    try clear hcz19_0
    try clear hcz19_1
    try clear hcz19_2
    try clear hcz19_3
    try clear hcz20_0
    try clear hcz20_1
    try clear hcz20_2
    try clear hcz20_3
    try clear hcz23_0
    try clear hcz23_1
    try clear hcz23_2
    try clear hcz23_3
    try clear hfz10_0
    try clear hfz10_1
    try clear hfz10_2
    try clear hfz10_3
    try clear hfz11_0
    try clear hfz11_1
    try clear hfz11_2
    try clear hfz11_3
    try clear hfz13_0
    try clear hfz13_1
    try clear hfz13_2
    try clear hfz13_3
    try clear hfz14_0
    try clear hfz14_1
    try clear hfz14_2
    try clear hfz14_3
    try clear hfz16_0
    try clear hfz16_1
    try clear hfz16_2
    try clear hfz16_3
    try clear hfz17_0
    try clear hfz17_1
    try clear hfz17_2
    try clear hfz17_3
    try clear hfz19_0
    try clear hfz19_1
    try clear hfz19_2
    try clear hfz19_3
    try clear hfz20_0
    try clear hfz20_1
    try clear hfz20_2
    try clear hfz20_3
    try clear hfz23_0
    try clear hfz23_1
    try clear hfz23_2
    try clear hfz23_3
    try clear p2
    obtain ⟨x41_2, rfl, HA, HK2, BK188, BK189, HB⟩ := hrel
    cases gk with
    | zero => exact absurd HA.out (by simp [semigroupref07_Same.l0])
    | succ k2 =>
     have H := HA.out
     clear HA
     simp only [semigroupref07_Same.l0] at H
     by_cases c24 : x41_2 < (l0_2.length : Int)
     (focus
     rw [if_pos c24] at H
     have c24b0 : decide (x41_2 < (l0_2.length : Int)) = true := decide_eq_true c24
     clear c24
     by_cases c25 : 0 ≤ x41_2
     (focus
     rw [if_pos c25] at H
     have c25b0 : decide (0 ≤ x41_2) = true := decide_eq_true c25
     clear c25
     by_cases c26 : x41_2 < (l0_2.length : Int)
     (focus
     rw [if_pos c26] at H
     have c26b0 : decide (x41_2 < (l0_2.length : Int)) = true := decide_eq_true c26
     clear c26
     by_cases c27 : x41_2 < (l1_2.length : Int)
     (focus
     rw [if_pos c27] at H
     have c27b0 : decide (x41_2 < (l1_2.length : Int)) = true := decide_eq_true c27
     clear c27
     by_cases c28 : ((rdOf false l0_2 x41_2) != (rdOf false l1_2 x41_2)) = true
     (focus
     rw [if_pos c28] at H
     have c28b0 : ((rdOf false l0_2 x41_2) != (rdOf false l1_2 x41_2)) = true := c28
     (try (have c28b1 : decide ((rdOf false l0_2 x41_2) = (rdOf false l1_2 x41_2)) = false := by simpa using c28))
     (try (have c28b2 : ((rdOf false l0_2 x41_2) == (rdOf false l1_2 x41_2)) = false := by simpa using c28))
     (try (have c28b3 : ¬ ((rdOf false l0_2 x41_2) = (rdOf false l1_2 x41_2)) := by simpa using c28))
     clear c28
     obtain rfl := Option.some.inj H
     have hnb29 := NB188_189.out
     have hnc29 := NB189_188.out
     have hcz30_0 : wr.cell? ⟨gb188, 0, none⟩ = some (.int .i64 a0_0) := (blk_cell BK188.out 0).trans rfl
     have hcz30_1 : wr.cell? ⟨gb188, 1, none⟩ = some (.int .i64 a0_1) := (blk_cell BK188.out 1).trans rfl
     have hcz30_2 : wr.cell? ⟨gb188, 2, none⟩ = some (.slice A0_2 l0_2.length c0_2) := (blk_cell BK188.out 2).trans rfl
     have hcz30_3 : wr.cell? ⟨gb188, 3, none⟩ = some (.slice A0_3 l0_3.length c0_3) := (blk_cell BK188.out 3).trans rfl
     have hfz30_0 := blk_frozen BK188.out 0
     have hfz30_1 := blk_frozen BK188.out 1
     have hfz30_2 := blk_frozen BK188.out 2
     have hfz30_3 := blk_frozen BK188.out 3
     have p190 : 0 ≤ (x41_2 : Int) := of_decide_eq_true (by assumption)
     have q190 : x41_2 < (l0_2.length : Int) := of_decide_eq_true (by assumption)
     obtain ⟨ad190, e190, hx190_0⟩ := Kd.at_bool HR0_2.out x41_2 p190 q190
     cases e190
     (try replace hx190_0 := (HB.out.cell (World.block_lt_of_cell? w _ hx190_0)).trans hx190_0)
     replace p190 := eq_true p190
     replace q190 := eq_true q190
     have hcz31_0 : wr.cell? ⟨gb189, 0, none⟩ = some (.int .i64 a1_0) := (blk_cell BK189.out 0).trans rfl
     have hcz31_1 : wr.cell? ⟨gb189, 1, none⟩ = some (.int .i64 a1_1) := (blk_cell BK189.out 1).trans rfl
     have hcz31_2 : wr.cell? ⟨gb189, 2, none⟩ = some (.slice A1_2 l1_2.length c1_2) := (blk_cell BK189.out 2).trans rfl
     have hcz31_3 : wr.cell? ⟨gb189, 3, none⟩ = some (.slice A1_3 l1_3.length c1_3) := (blk_cell BK189.out 3).trans rfl
     have hfz31_0 := blk_frozen BK189.out 0
     have hfz31_1 := blk_frozen BK189.out 1
     have hfz31_2 := blk_frozen BK189.out 2
     have hfz31_3 := blk_frozen BK189.out 3
     have p191 : 0 ≤ (x41_2 : Int) := of_decide_eq_true (by assumption)
     have q191 : x41_2 < (l1_2.length : Int) := of_decide_eq_true (by assumption)
     obtain ⟨ad191, e191, hx191_0⟩ := Kd.at_bool HR1_2.out x41_2 p191 q191
     cases e191
     (try replace hx191_0 := (HB.out.cell (World.block_lt_of_cell? w _ hx191_0)).trans hx191_0)
     replace p191 := eq_true p191
     replace q191 := eq_true q191
     go_wp2
     repeat (go_quiet (fail); try go_wp2)
     go_ret
     exact ⟨by first | rfl | (simp [errW_none, errW_some] <;> rfl) | (simp [*, errW_none, errW_some] <;> rfl), by repeat (first | (with_reducible first | exact HB.out | apply bA | apply bN | apply bD | refine bS ?_ ‹_›) | exact HB.out)⟩
     )
     (focus
     rw [if_neg c28] at H
     have c28b0 : ((rdOf false l0_2 x41_2) != (rdOf false l1_2 x41_2)) = false := by simpa using c28
     (try (have c28b1 : decide ((rdOf false l0_2 x41_2) = (rdOf false l1_2 x41_2)) = true := by simpa using c28))
     (try (have c28b2 : ((rdOf false l0_2 x41_2) == (rdOf false l1_2 x41_2)) = true := by simpa using c28))
     clear c28
     have H' := Aside0.mk H
     clear H
     have hnb32 := NB188_189.out
     have hnc32 := NB189_188.out
     have hcz33_0 : wr.cell? ⟨gb188, 0, none⟩ = some (.int .i64 a0_0) := (blk_cell BK188.out 0).trans rfl
     have hcz33_1 : wr.cell? ⟨gb188, 1, none⟩ = some (.int .i64 a0_1) := (blk_cell BK188.out 1).trans rfl
     have hcz33_2 : wr.cell? ⟨gb188, 2, none⟩ = some (.slice A0_2 l0_2.length c0_2) := (blk_cell BK188.out 2).trans rfl
     have hcz33_3 : wr.cell? ⟨gb188, 3, none⟩ = some (.slice A0_3 l0_3.length c0_3) := (blk_cell BK188.out 3).trans rfl
     have hfz33_0 := blk_frozen BK188.out 0
     have hfz33_1 := blk_frozen BK188.out 1
     have hfz33_2 := blk_frozen BK188.out 2
     have hfz33_3 := blk_frozen BK188.out 3
     have p190 : 0 ≤ (x41_2 : Int) := of_decide_eq_true (by assumption)
     have q190 : x41_2 < (l0_2.length : Int) := of_decide_eq_true (by assumption)
     obtain ⟨ad190, e190, hx190_0⟩ := Kd.at_bool HR0_2.out x41_2 p190 q190
     cases e190
     (try replace hx190_0 := (HB.out.cell (World.block_lt_of_cell? w _ hx190_0)).trans hx190_0)
     replace p190 := eq_true p190
     replace q190 := eq_true q190
     have hcz34_0 : wr.cell? ⟨gb189, 0, none⟩ = some (.int .i64 a1_0) := (blk_cell BK189.out 0).trans rfl
     have hcz34_1 : wr.cell? ⟨gb189, 1, none⟩ = some (.int .i64 a1_1) := (blk_cell BK189.out 1).trans rfl
     have hcz34_2 : wr.cell? ⟨gb189, 2, none⟩ = some (.slice A1_2 l1_2.length c1_2) := (blk_cell BK189.out 2).trans rfl
     have hcz34_3 : wr.cell? ⟨gb189, 3, none⟩ = some (.slice A1_3 l1_3.length c1_3) := (blk_cell BK189.out 3).trans rfl
     have hfz34_0 := blk_frozen BK189.out 0
     have hfz34_1 := blk_frozen BK189.out 1
     have hfz34_2 := blk_frozen BK189.out 2
     have hfz34_3 := blk_frozen BK189.out 3
     have p191 : 0 ≤ (x41_2 : Int) := of_decide_eq_true (by assumption)
     have q191 : x41_2 < (l1_2.length : Int) := of_decide_eq_true (by assumption)
     obtain ⟨ad191, e191, hx191_0⟩ := Kd.at_bool HR1_2.out x41_2 p191 q191
     cases e191
     (try replace hx191_0 := (HB.out.cell (World.block_lt_of_cell? w _ hx191_0)).trans hx191_0)
     replace p191 := eq_true p191
     replace q191 := eq_true q191
     go_wp2
     repeat (go_quiet (fail); try go_wp2)
     go_roundg k2
     case measure => have := HJ2.out; have := HK2.out; omega
     case rel => exact ⟨(wrap64 (x41_2 + 1)), (by first | rfl | (simp; done) | (simp [*]; done)), H', ⟨by have := HJ2.out; have := HK2.out; omega⟩, ⟨by (with_reducible repeat (first | refine kN ?_ | refine kD ?_ | refine kA ?_)); exact BK188.out⟩, ⟨by (with_reducible repeat (first | refine kN ?_ | refine kD ?_ | refine kA ?_)); exact BK189.out⟩, ⟨by repeat (first | (with_reducible first | exact HB.out | apply bA | apply bN | apply bD | refine bS ?_ ‹_›) | exact HB.out)⟩⟩
     )
     )
     (focus
     rw [if_neg c27] at H
     exact absurd H (by simp)
     )
     )
     (focus
     rw [if_neg c26] at H
     exact absurd H (by simp)
     )
     )
     (focus
     rw [if_neg c25] at H
     exact absurd H (by simp)
     )
     )
     (focus
     rw [if_neg c24] at H
     have c24b0 : decide (x41_2 < (l0_2.length : Int)) = false := decide_eq_false c24
     clear c24
     have H' := Aside0.mk H
     clear H
     have hnb35 := NB188_189.out
     have hnc35 := NB189_188.out
     have hcz36_0 : wr.cell? ⟨gb188, 0, none⟩ = some (.int .i64 a0_0) := (blk_cell BK188.out 0).trans rfl
     have hcz36_1 : wr.cell? ⟨gb188, 1, none⟩ = some (.int .i64 a0_1) := (blk_cell BK188.out 1).trans rfl
     have hcz36_2 : wr.cell? ⟨gb188, 2, none⟩ = some (.slice A0_2 l0_2.length c0_2) := (blk_cell BK188.out 2).trans rfl
     have hcz36_3 : wr.cell? ⟨gb188, 3, none⟩ = some (.slice A0_3 l0_3.length c0_3) := (blk_cell BK188.out 3).trans rfl
     have hfz36_0 := blk_frozen BK188.out 0
     have hfz36_1 := blk_frozen BK188.out 1
     have hfz36_2 := blk_frozen BK188.out 2
     have hfz36_3 := blk_frozen BK188.out 3
     go_wp2
     repeat (go_quiet (fail); try go_wp2)
     go_loopg [59] k2 (fun kq v59 w' => ∃ (x59_3 : Int), v59 = .int .i64 x59_3 ∧ Aside0 (semigroupref07_Same.l1 kq (l0_3.length : Int) x59_3 a0_0 a0_1 l0_2 l0_3 a1_0 a1_1 l1_2 l1_3 = some r) ∧ Aside0 (kq ≤ k2) ∧ Aside0 (w'.heap[gb188]? = some (.cells #[.int .i64 a0_0, .int .i64 a0_1, (.slice A0_2 l0_2.length c0_2), (.slice A0_3 l0_3.length c0_3)] 25 (0, 0))) ∧ Aside0 (w'.heap[gb189]? = some (.cells #[.int .i64 a1_0, .int .i64 a1_1, (.slice A1_2 l1_2.length c1_2), (.slice A1_3 l1_3.length c1_3)] 25 (0, 0))) ∧ Aside0 (Below w.heap.size w w'))
     case atStart => exact ⟨(0), (by first | rfl | (simp; done) | (simp [*]; done)), H', ⟨Nat.le_refl _⟩, ⟨by (with_reducible repeat (first | refine kN ?_ | refine kD ?_ | refine kA ?_)); exact BK188.out⟩, ⟨by (with_reducible repeat (first | refine kN ?_ | refine kD ?_ | refine kA ?_)); exact BK189.out⟩, ⟨by repeat (first | (with_reducible first | exact HB.out | apply bA | apply bN | apply bD | refine bS ?_ ‹_›) | exact HB.out)⟩⟩
     case round =>
      clear H'
      try clear c1
      try clear p1
      try clear q1
      try clear hx1
      try clear c2
      try clear p2
      try clear c3
      try clear c6
      try clear c6b0
      try clear c6b1
      try clear p6
      try clear c7
      try clear c7b0
      try clear c7b1
      try clear c8
      try clear c8b0
      try clear c8b1
      try clear c8b2
      try clear c9
      try clear c12
      try clear c15
      try clear c18
      try clear p19
      try clear q19
      try clear hx19
      try clear c21
      try clear c22
      try clear c24
      try clear c24b0
      try clear c25
      try clear c25b0
      try clear c26
      try clear c26b0
      try clear c27
      try clear c27b0
      try clear c28
      try clear c28b0
      try clear c28b1
      try clear c28b2
      try clear c29
      try clear c32
      try clear c35
      try clear hcz10_0
      try clear hcz10_1
      try clear hcz10_2
      try clear hcz10_3
      try clear hcz11_0
      try clear hcz11_1
      try clear hcz11_2
      try clear hcz11_3
      try clear hcz13_0
      try clear hcz13_1
      try clear hcz13_2
      try clear hcz13_3
      try clear hcz14_0
      try clear hcz14_1
      try clear hcz14_2
      try clear hcz14_3
      try clear hcz16_0
      try clear hcz16_1
      try clear hcz16_2
      try clear hcz16_3
      try clear hcz17_0
      try clear hcz17_1
      try clear hcz17_2
      try clear hcz17_3
      try clear hcz19_0
      try clear hcz19_1
      try clear hcz19_2
      try clear hcz19_3
      try clear hcz20_0
      try clear hcz20_1
      try clear hcz20_2
      try clear hcz20_3
      try clear hcz23_0
      try clear hcz23_1
      try clear hcz23_2
      try clear hcz23_3
      try clear hcz30_0
      try clear hcz30_1
      try clear hcz30_2
      try clear hcz30_3
      try clear hcz31_0
      try clear hcz31_1
      try clear hcz31_2
      try clear hcz31_3
      try clear hcz33_0
      try clear hcz33_1
      try clear hcz33_2
      try clear hcz33_3
      try clear hcz34_0
      try clear hcz34_1
      try clear hcz34_2
      try clear hcz34_3
      try clear hcz36_0
      try clear hcz36_1
      try clear hcz36_2
      try clear hcz36_3
      try clear hfz10_0
      try clear hfz10_1
      try clear hfz10_2
      try clear hfz10_3
      try clear hfz11_0
      try clear hfz11_1
      try clear hfz11_2
      try clear hfz11_3
      try clear hfz13_0
      try clear hfz13_1
      try clear hfz13_2
      try clear hfz13_3
      try clear hfz14_0
      try clear hfz14_1
      try clear hfz14_2
      try clear hfz14_3
      try clear hfz16_0
      try clear hfz16_1
      try clear hfz16_2
      try clear hfz16_3
      try clear hfz17_0
      try clear hfz17_1
      try clear hfz17_2
      try clear hfz17_3
      try clear hfz19_0
      try clear hfz19_1
      try clear hfz19_2
      try clear hfz19_3
      try clear hfz20_0
      try clear hfz20_1
      try clear hfz20_2
      try clear hfz20_3
      try clear hfz23_0
      try clear hfz23_1
      try clear hfz23_2
      try clear hfz23_3
      try clear hfz30_0
      try clear hfz30_1
      try clear hfz30_2
      try clear hfz30_3
      try clear hfz31_0
      try clear hfz31_1
      try clear hfz31_2
      try clear hfz31_3
      try clear hfz33_0
      try clear hfz33_1
      try clear hfz33_2
      try clear hfz33_3
      try clear hfz34_0
      try clear hfz34_1
      try clear hfz34_2
      try clear hfz34_3
      try clear hfz36_0
      try clear hfz36_1
      try clear hfz36_2
      try clear hfz36_3
      try clear hx190_0
      try clear hx191_0
      try clear p190
      try clear p191
      try clear p2
      try clear q190
      try clear q191
      obtain ⟨x59_3, rfl, HA, HK3, BK188, BK189, HB⟩ := hrel
      cases gk with
      | zero => exact absurd HA.out (by simp [semigroupref07_Same.l1])
      | succ k3 =>
       have H := HA.out
       clear HA
       simp only [semigroupref07_Same.l1] at H
       by_cases c37 : x59_3 < (l0_3.length : Int)
       (focus
       rw [if_pos c37] at H
       have c37b0 : decide (x59_3 < (l0_3.length : Int)) = true := decide_eq_true c37
       clear c37
       by_cases c38 : 0 ≤ x59_3
       (focus
       rw [if_pos c38] at H
       have c38b0 : decide (0 ≤ x59_3) = true := decide_eq_true c38
       clear c38
       by_cases c39 : x59_3 < (l0_3.length : Int)
       (focus
       rw [if_pos c39] at H
       have c39b0 : decide (x59_3 < (l0_3.length : Int)) = true := decide_eq_true c39
       clear c39
       by_cases c40 : x59_3 < (l1_3.length : Int)
       (focus
       rw [if_pos c40] at H
       have c40b0 : decide (x59_3 < (l1_3.length : Int)) = true := decide_eq_true c40
       clear c40
       by_cases c41 : ((rd_L1 l0_3 x59_3).length : Int) = ((rd_L1 l1_3 x59_3).length : Int)
       (focus
       rw [if_pos c41] at H
       have c41b0 : (((rd_L1 l0_3 x59_3).length : Int) == ((rd_L1 l1_3 x59_3).length : Int)) = true := beq_iff_eq.mpr c41
       have c41b1 : (((rd_L1 l0_3 x59_3).length : Int) != ((rd_L1 l1_3 x59_3).length : Int)) = false := bne_eq_false_iff_eq.mpr c41
       have c41b2 : ((rd_L1 l0_3 x59_3).length == (rd_L1 l1_3 x59_3).length) = true := by first | simpa using c41 | (simp at c41 ⊢; omega)
       clear c41
       have H' := Aside0.mk H
       clear H
       have hnb42 := NB188_189.out
       have hnc42 := NB189_188.out
       have hcz43_0 : wr.cell? ⟨gb188, 0, none⟩ = some (.int .i64 a0_0) := (blk_cell BK188.out 0).trans rfl
       have hcz43_1 : wr.cell? ⟨gb188, 1, none⟩ = some (.int .i64 a0_1) := (blk_cell BK188.out 1).trans rfl
       have hcz43_2 : wr.cell? ⟨gb188, 2, none⟩ = some (.slice A0_2 l0_2.length c0_2) := (blk_cell BK188.out 2).trans rfl
       have hcz43_3 : wr.cell? ⟨gb188, 3, none⟩ = some (.slice A0_3 l0_3.length c0_3) := (blk_cell BK188.out 3).trans rfl
       have hfz43_0 := blk_frozen BK188.out 0
       have hfz43_1 := blk_frozen BK188.out 1
       have hfz43_2 := blk_frozen BK188.out 2
       have hfz43_3 := blk_frozen BK188.out 3
       have p192 : 0 ≤ (x59_3 : Int) := of_decide_eq_true (by assumption)
       have q192 : x59_3 < (l0_3.length : Int) := of_decide_eq_true (by assumption)
       obtain ⟨ad192, A192_0, c192_0, e192, hx192_0, hl192_0, hi192_0⟩ := at_L1 HR0_3.out x59_3 p192 q192
       cases e192
       (try replace hx192_0 := (HB.out.cell (World.block_lt_of_cell? w _ hx192_0)).trans hx192_0)
       have HR192_0 := Aside0.mk hi192_0
       have HC192_0 := Aside0.mk hl192_0
       clear hi192_0 hl192_0
       replace p192 := eq_true p192
       replace q192 := eq_true q192
       have hcz44_0 : wr.cell? ⟨gb189, 0, none⟩ = some (.int .i64 a1_0) := (blk_cell BK189.out 0).trans rfl
       have hcz44_1 : wr.cell? ⟨gb189, 1, none⟩ = some (.int .i64 a1_1) := (blk_cell BK189.out 1).trans rfl
       have hcz44_2 : wr.cell? ⟨gb189, 2, none⟩ = some (.slice A1_2 l1_2.length c1_2) := (blk_cell BK189.out 2).trans rfl
       have hcz44_3 : wr.cell? ⟨gb189, 3, none⟩ = some (.slice A1_3 l1_3.length c1_3) := (blk_cell BK189.out 3).trans rfl
       have hfz44_0 := blk_frozen BK189.out 0
       have hfz44_1 := blk_frozen BK189.out 1
       have hfz44_2 := blk_frozen BK189.out 2
       have hfz44_3 := blk_frozen BK189.out 3
       have p193 : 0 ≤ (x59_3 : Int) := of_decide_eq_true (by assumption)
       have q193 : x59_3 < (l1_3.length : Int) := of_decide_eq_true (by assumption)
       obtain ⟨ad193, A193_0, c193_0, e193, hx193_0, hl193_0, hi193_0⟩ := at_L1 HR1_3.out x59_3 p193 q193
       cases e193
       (try replace hx193_0 := (HB.out.cell (World.block_lt_of_cell? w _ hx193_0)).trans hx193_0)
       have HR193_0 := Aside0.mk hi193_0
       have HC193_0 := Aside0.mk hl193_0
       clear hi193_0 hl193_0
       replace p193 := eq_true p193
       replace q193 := eq_true q193
       have p194 : 0 ≤ (x59_3 : Int) := of_decide_eq_true (by assumption)
       have q194 : x59_3 < (l0_3.length : Int) := of_decide_eq_true (by assumption)
       obtain ⟨ad194, A194_0, c194_0, e194, hx194_0, hl194_0, hi194_0⟩ := at_L1 HR0_3.out x59_3 p194 q194
       obtain rfl : ad192 = ad194 := (by injection e194)
       (try replace hx194_0 := (HB.out.cell (World.block_lt_of_cell? w _ hx194_0)).trans hx194_0)
       have HR194_0 := Aside0.mk hi194_0
       have HC194_0 := Aside0.mk hl194_0
       clear hi194_0 hl194_0
       replace p194 := eq_true p194
       replace q194 := eq_true q194
       have ea_ := Option.some.inj (hx192_0.symm.trans hx194_0)
       injection ea_ with ea_ en_ ec_
       subst ea_
       subst ec_
       clear en_
       go_wp2
       repeat (go_quiet (fail); try go_wp2)
       go_loopg [81] k3 (fun kq v81 w' => ∃ (x81_4 : Int), v81 = .int .i64 x81_4 ∧ Aside0 (semigroupref07_Same.l2 kq x59_3 (l0_3.length : Int) x59_3 ((rd_L1 l0_3 x59_3).length : Int) x81_4 a0_0 a0_1 l0_2 l0_3 a1_0 a1_1 l1_2 l1_3 = some r) ∧ Aside0 (kq ≤ k3) ∧ Aside0 (w'.heap[gb188]? = some (.cells #[.int .i64 a0_0, .int .i64 a0_1, (.slice A0_2 l0_2.length c0_2), (.slice (some ad192) l0_3.length c0_3)] 25 (0, 0))) ∧ Aside0 (w'.heap[gb189]? = some (.cells #[.int .i64 a1_0, .int .i64 a1_1, (.slice A1_2 l1_2.length c1_2), (.slice (some ad193) l1_3.length c1_3)] 25 (0, 0))) ∧ Aside0 (Below w.heap.size w w'))
       case atStart => exact ⟨(0), (by first | rfl | (simp; done) | (simp [*]; done)), H', ⟨Nat.le_refl _⟩, ⟨by (with_reducible repeat (first | refine kN ?_ | refine kD ?_ | refine kA ?_)); exact BK188.out⟩, ⟨by (with_reducible repeat (first | refine kN ?_ | refine kD ?_ | refine kA ?_)); exact BK189.out⟩, ⟨by repeat (first | (with_reducible first | exact HB.out | apply bA | apply bN | apply bD | refine bS ?_ ‹_›) | exact HB.out)⟩⟩
       case round =>
        clear H'
        try clear c1
        try clear p1
        try clear q1
        try clear hx1
        try clear c2
        try clear p2
        try clear c3
        try clear c4
        try clear c6
        try clear c6b0
        try clear c6b1
        try clear p6
        try clear c7
        try clear c7b0
        try clear c7b1
        try clear c8
        try clear c8b0
        try clear c8b1
        try clear c8b2
        try clear c9
        try clear c12
        try clear c15
        try clear c18
        try clear c19
        try clear p19
        try clear q19
        try clear hx19
        try clear c21
        try clear c22
        try clear c24
        try clear c24b0
        try clear c25
        try clear c25b0
        try clear c26
        try clear c26b0
        try clear c27
        try clear c27b0
        try clear c28
        try clear c28b0
        try clear c28b1
        try clear c28b2
        try clear c29
        try clear c32
        try clear c35
        try clear c37
        try clear c37b0
        try clear c38
        try clear c38b0
        try clear c39
        try clear c39b0
        try clear c40
        try clear c40b0
        try clear c41
        try clear c41b0
        try clear c41b1
        try clear c41b2
        try clear c42
        try clear hcz10_0
        try clear hcz10_1
        try clear hcz10_2
        try clear hcz10_3
        try clear hcz11_0
        try clear hcz11_1
        try clear hcz11_2
        try clear hcz11_3
        try clear hcz13_0
        try clear hcz13_1
        try clear hcz13_2
        try clear hcz13_3
        try clear hcz14_0
        try clear hcz14_1
        try clear hcz14_2
        try clear hcz14_3
        try clear hcz16_0
        try clear hcz16_1
        try clear hcz16_2
        try clear hcz16_3
        try clear hcz17_0
        try clear hcz17_1
        try clear hcz17_2
        try clear hcz17_3
        try clear hcz19_0
        try clear hcz19_1
        try clear hcz19_2
        try clear hcz19_3
        try clear hcz20_0
        try clear hcz20_1
        try clear hcz20_2
        try clear hcz20_3
        try clear hcz23_0
        try clear hcz23_1
        try clear hcz23_2
        try clear hcz23_3
        try clear hcz30_0
        try clear hcz30_1
        try clear hcz30_2
        try clear hcz30_3
        try clear hcz31_0
        try clear hcz31_1
        try clear hcz31_2
        try clear hcz31_3
        try clear hcz33_0
        try clear hcz33_1
        try clear hcz33_2
        try clear hcz33_3
        try clear hcz34_0
        try clear hcz34_1
        try clear hcz34_2
        try clear hcz34_3
        try clear hcz36_0
        try clear hcz36_1
        try clear hcz36_2
        try clear hcz36_3
        try clear hcz43_0
        try clear hcz43_1
        try clear hcz43_2
        try clear hcz43_3
        try clear hcz44_0
        try clear hcz44_1
        try clear hcz44_2
        try clear hcz44_3
        try clear hfz10_0
        try clear hfz10_1
        try clear hfz10_2
        try clear hfz10_3
        try clear hfz11_0
        try clear hfz11_1
        try clear hfz11_2
        try clear hfz11_3
        try clear hfz13_0
        try clear hfz13_1
        try clear hfz13_2
        try clear hfz13_3
        try clear hfz14_0
        try clear hfz14_1
        try clear hfz14_2
        try clear hfz14_3
        try clear hfz16_0
        try clear hfz16_1
        try clear hfz16_2
        try clear hfz16_3
        try clear hfz17_0
        try clear hfz17_1
        try clear hfz17_2
        try clear hfz17_3
        try clear hfz19_0
        try clear hfz19_1
        try clear hfz19_2
        try clear hfz19_3
        try clear hfz20_0
        try clear hfz20_1
        try clear hfz20_2
        try clear hfz20_3
        try clear hfz23_0
        try clear hfz23_1
        try clear hfz23_2
        try clear hfz23_3
        try clear hfz30_0
        try clear hfz30_1
        try clear hfz30_2
        try clear hfz30_3
        try clear hfz31_0
        try clear hfz31_1
        try clear hfz31_2
        try clear hfz31_3
        try clear hfz33_0
        try clear hfz33_1
        try clear hfz33_2
        try clear hfz33_3
        try clear hfz34_0
        try clear hfz34_1
        try clear hfz34_2
        try clear hfz34_3
        try clear hfz36_0
        try clear hfz36_1
        try clear hfz36_2
        try clear hfz36_3
        try clear hfz43_0
        try clear hfz43_1
        try clear hfz43_2
        try clear hfz43_3
        try clear hfz44_0
        try clear hfz44_1
        try clear hfz44_2
        try clear hfz44_3
        try clear hx190_0
        try clear hx191_0
        try clear hx192_0
        try clear hx193_0
        try clear hx194_0
        try clear p1
        try clear p19
        try clear p190
        try clear p191
        try clear p192
        try clear p193
        try clear p194
        try clear p2
        try clear p6
        try clear q1
        try clear q19
        try clear q190
        try clear q191
        try clear q192
        try clear q193
        try clear q194
        obtain ⟨x81_4, rfl, HA, HK4, BK188, BK189, HB⟩ := hrel
        cases gk with
        | zero => exact absurd HA.out (by simp [semigroupref07_Same.l2])
        | succ k4 =>
         have H := HA.out
         clear HA
         simp only [semigroupref07_Same.l2] at H
         by_cases c45 : x81_4 < ((rd_L1 l0_3 x59_3).length : Int)
         (focus
         rw [if_pos c45] at H
         have c45b0 : decide (x81_4 < ((rd_L1 l0_3 x59_3).length : Int)) = true := decide_eq_true c45
         clear c45
         by_cases c46 : 0 ≤ x59_3
         (focus
         rw [if_pos c46] at H
         have c46b0 : decide (0 ≤ x59_3) = true := decide_eq_true c46
         clear c46
         by_cases c47 : x59_3 < (l0_3.length : Int)
         (focus
         rw [if_pos c47] at H
         have c47b0 : decide (x59_3 < (l0_3.length : Int)) = true := decide_eq_true c47
         clear c47
         by_cases c48 : 0 ≤ x81_4
         (focus
         rw [if_pos c48] at H
         have c48b0 : decide (0 ≤ x81_4) = true := decide_eq_true c48
         clear c48
         by_cases c49 : x81_4 < ((rd_L1 l0_3 x59_3).length : Int)
         (focus
         rw [if_pos c49] at H
         have c49b0 : decide (x81_4 < ((rd_L1 l0_3 x59_3).length : Int)) = true := decide_eq_true c49
         clear c49
         by_cases c50 : x59_3 < (l1_3.length : Int)
         (focus
         rw [if_pos c50] at H
         have c50b0 : decide (x59_3 < (l1_3.length : Int)) = true := decide_eq_true c50
         clear c50
         by_cases c51 : x81_4 < ((rd_L1 l1_3 x59_3).length : Int)
         (focus
         rw [if_pos c51] at H
         have c51b0 : decide (x81_4 < ((rd_L1 l1_3 x59_3).length : Int)) = true := decide_eq_true c51
         clear c51
         by_cases c52 : (rd (rd_L1 l0_3 x59_3) x81_4) = (rd (rd_L1 l1_3 x59_3) x81_4)
         (focus
         rw [if_pos c52] at H
         have c52b0 : ((rd (rd_L1 l0_3 x59_3) x81_4) == (rd (rd_L1 l1_3 x59_3) x81_4)) = true := beq_iff_eq.mpr c52
         have c52b1 : ((rd (rd_L1 l0_3 x59_3) x81_4) != (rd (rd_L1 l1_3 x59_3) x81_4)) = false := bne_eq_false_iff_eq.mpr c52
         clear c52
         have H' := Aside0.mk H
         clear H
         have hnb53 := NB188_189.out
         have hnc53 := NB189_188.out
         have hcz54_0 : wr.cell? ⟨gb188, 0, none⟩ = some (.int .i64 a0_0) := (blk_cell BK188.out 0).trans rfl
         have hcz54_1 : wr.cell? ⟨gb188, 1, none⟩ = some (.int .i64 a0_1) := (blk_cell BK188.out 1).trans rfl
         have hcz54_2 : wr.cell? ⟨gb188, 2, none⟩ = some (.slice A0_2 l0_2.length c0_2) := (blk_cell BK188.out 2).trans rfl
         have hcz54_3 : wr.cell? ⟨gb188, 3, none⟩ = some (.slice (some ad192) l0_3.length c0_3) := (blk_cell BK188.out 3).trans rfl
         have hfz54_0 := blk_frozen BK188.out 0
         have hfz54_1 := blk_frozen BK188.out 1
         have hfz54_2 := blk_frozen BK188.out 2
         have hfz54_3 := blk_frozen BK188.out 3
         have p195 : 0 ≤ (x59_3 : Int) := of_decide_eq_true (by assumption)
         have q195 : x59_3 < (l0_3.length : Int) := of_decide_eq_true (by assumption)
         obtain ⟨ad195, A195_0, c195_0, e195, hx195_0, hl195_0, hi195_0⟩ := at_L1 HR0_3.out x59_3 p195 q195
         obtain rfl : ad192 = ad195 := (by injection e195)
         (try replace hx195_0 := (HB.out.cell (World.block_lt_of_cell? w _ hx195_0)).trans hx195_0)
         have HR195_0 := Aside0.mk hi195_0
         have HC195_0 := Aside0.mk hl195_0
         clear hi195_0 hl195_0
         replace p195 := eq_true p195
         replace q195 := eq_true q195
         have p196 : 0 ≤ (x81_4 : Int) := of_decide_eq_true (by assumption)
         have q196 : x81_4 < ((rd_L1 l0_3 x59_3).length : Int) := of_decide_eq_true (by assumption)
         obtain ⟨ad196, e196, hx196_0⟩ := Kd.at_int HR195_0.out x81_4 p196 q196
         cases e196
         (try replace hx196_0 := (HB.out.cell (World.block_lt_of_cell? w _ hx196_0)).trans hx196_0)
         replace p196 := eq_true p196
         replace q196 := eq_true q196
         have hcz55_0 : wr.cell? ⟨gb189, 0, none⟩ = some (.int .i64 a1_0) := (blk_cell BK189.out 0).trans rfl
         have hcz55_1 : wr.cell? ⟨gb189, 1, none⟩ = some (.int .i64 a1_1) := (blk_cell BK189.out 1).trans rfl
         have hcz55_2 : wr.cell? ⟨gb189, 2, none⟩ = some (.slice A1_2 l1_2.length c1_2) := (blk_cell BK189.out 2).trans rfl
         have hcz55_3 : wr.cell? ⟨gb189, 3, none⟩ = some (.slice (some ad193) l1_3.length c1_3) := (blk_cell BK189.out 3).trans rfl
         have hfz55_0 := blk_frozen BK189.out 0
         have hfz55_1 := blk_frozen BK189.out 1
         have hfz55_2 := blk_frozen BK189.out 2
         have hfz55_3 := blk_frozen BK189.out 3
         have p197 : 0 ≤ (x59_3 : Int) := of_decide_eq_true (by assumption)
         have q197 : x59_3 < (l1_3.length : Int) := of_decide_eq_true (by assumption)
         obtain ⟨ad197, A197_0, c197_0, e197, hx197_0, hl197_0, hi197_0⟩ := at_L1 HR1_3.out x59_3 p197 q197
         obtain rfl : ad193 = ad197 := (by injection e197)
         (try replace hx197_0 := (HB.out.cell (World.block_lt_of_cell? w _ hx197_0)).trans hx197_0)
         have HR197_0 := Aside0.mk hi197_0
         have HC197_0 := Aside0.mk hl197_0
         clear hi197_0 hl197_0
         replace p197 := eq_true p197
         replace q197 := eq_true q197
         have p198 : 0 ≤ (x81_4 : Int) := of_decide_eq_true (by assumption)
         have q198 : x81_4 < ((rd_L1 l1_3 x59_3).length : Int) := of_decide_eq_true (by assumption)
         obtain ⟨ad198, e198, hx198_0⟩ := Kd.at_int HR197_0.out x81_4 p198 q198
         cases e198
         (try replace hx198_0 := (HB.out.cell (World.block_lt_of_cell? w _ hx198_0)).trans hx198_0)
         replace p198 := eq_true p198
         replace q198 := eq_true q198
         go_wp2
         repeat (go_quiet (fail); try go_wp2)
         go_roundg k4
         case measure => have := HJ2.out; have := HK2.out; have := HK3.out; have := HK4.out; omega
         case rel => exact ⟨(wrap64 (x81_4 + 1)), (by first | rfl | (simp; done) | (simp [*]; done)), H', ⟨by have := HJ2.out; have := HK2.out; have := HK3.out; have := HK4.out; omega⟩, ⟨by (with_reducible repeat (first | refine kN ?_ | refine kD ?_ | refine kA ?_)); exact BK188.out⟩, ⟨by (with_reducible repeat (first | refine kN ?_ | refine kD ?_ | refine kA ?_)); exact BK189.out⟩, ⟨by repeat (first | (with_reducible first | exact HB.out | apply bA | apply bN | apply bD | refine bS ?_ ‹_›) | exact HB.out)⟩⟩
         )
         (focus
         rw [if_neg c52] at H
         have c52b0 : ((rd (rd_L1 l0_3 x59_3) x81_4) == (rd (rd_L1 l1_3 x59_3) x81_4)) = false := beq_eq_false_iff_ne.mpr c52
         have c52b1 : ((rd (rd_L1 l0_3 x59_3) x81_4) != (rd (rd_L1 l1_3 x59_3) x81_4)) = true := bne_iff_ne.mpr c52
         obtain rfl := Option.some.inj H
         have hnb56 := NB188_189.out
         have hnc56 := NB189_188.out
         have hcz57_0 : wr.cell? ⟨gb188, 0, none⟩ = some (.int .i64 a0_0) := (blk_cell BK188.out 0).trans rfl
         have hcz57_1 : wr.cell? ⟨gb188, 1, none⟩ = some (.int .i64 a0_1) := (blk_cell BK188.out 1).trans rfl
         have hcz57_2 : wr.cell? ⟨gb188, 2, none⟩ = some (.slice A0_2 l0_2.length c0_2) := (blk_cell BK188.out 2).trans rfl
         have hcz57_3 : wr.cell? ⟨gb188, 3, none⟩ = some (.slice (some ad192) l0_3.length c0_3) := (blk_cell BK188.out 3).trans rfl
         have hfz57_0 := blk_frozen BK188.out 0
         have hfz57_1 := blk_frozen BK188.out 1
         have hfz57_2 := blk_frozen BK188.out 2
         have hfz57_3 := blk_frozen BK188.out 3
         have p195 : 0 ≤ (x59_3 : Int) := of_decide_eq_true (by assumption)
         have q195 : x59_3 < (l0_3.length : Int) := of_decide_eq_true (by assumption)
         obtain ⟨ad195, A195_0, c195_0, e195, hx195_0, hl195_0, hi195_0⟩ := at_L1 HR0_3.out x59_3 p195 q195
         obtain rfl : ad192 = ad195 := (by injection e195)
         (try replace hx195_0 := (HB.out.cell (World.block_lt_of_cell? w _ hx195_0)).trans hx195_0)
         have HR195_0 := Aside0.mk hi195_0
         have HC195_0 := Aside0.mk hl195_0
         clear hi195_0 hl195_0
         replace p195 := eq_true p195
         replace q195 := eq_true q195
         have p196 : 0 ≤ (x81_4 : Int) := of_decide_eq_true (by assumption)
         have q196 : x81_4 < ((rd_L1 l0_3 x59_3).length : Int) := of_decide_eq_true (by assumption)
         obtain ⟨ad196, e196, hx196_0⟩ := Kd.at_int HR195_0.out x81_4 p196 q196
         cases e196
         (try replace hx196_0 := (HB.out.cell (World.block_lt_of_cell? w _ hx196_0)).trans hx196_0)
         replace p196 := eq_true p196
         replace q196 := eq_true q196
         have hcz58_0 : wr.cell? ⟨gb189, 0, none⟩ = some (.int .i64 a1_0) := (blk_cell BK189.out 0).trans rfl
         have hcz58_1 : wr.cell? ⟨gb189, 1, none⟩ = some (.int .i64 a1_1) := (blk_cell BK189.out 1).trans rfl
         have hcz58_2 : wr.cell? ⟨gb189, 2, none⟩ = some (.slice A1_2 l1_2.length c1_2) := (blk_cell BK189.out 2).trans rfl
         have hcz58_3 : wr.cell? ⟨gb189, 3, none⟩ = some (.slice (some ad193) l1_3.length c1_3) := (blk_cell BK189.out 3).trans rfl
         have hfz58_0 := blk_frozen BK189.out 0
         have hfz58_1 := blk_frozen BK189.out 1
         have hfz58_2 := blk_frozen BK189.out 2
         have hfz58_3 := blk_frozen BK189.out 3
         have p197 : 0 ≤ (x59_3 : Int) := of_decide_eq_true (by assumption)
         have q197 : x59_3 < (l1_3.length : Int) := of_decide_eq_true (by assumption)
         obtain ⟨ad197, A197_0, c197_0, e197, hx197_0, hl197_0, hi197_0⟩ := at_L1 HR1_3.out x59_3 p197 q197
         obtain rfl : ad193 = ad197 := (by injection e197)
         (try replace hx197_0 := (HB.out.cell (World.block_lt_of_cell? w _ hx197_0)).trans hx197_0)
         have HR197_0 := Aside0.mk hi197_0
         have HC197_0 := Aside0.mk hl197_0
         clear hi197_0 hl197_0
         replace p197 := eq_true p197
         replace q197 := eq_true q197
         have p198 : 0 ≤ (x81_4 : Int) := of_decide_eq_true (by assumption)
         have q198 : x81_4 < ((rd_L1 l1_3 x59_3).length : Int) := of_decide_eq_true (by assumption)
         obtain ⟨ad198, e198, hx198_0⟩ := Kd.at_int HR197_0.out x81_4 p198 q198
         cases e198
         (try replace hx198_0 := (HB.out.cell (World.block_lt_of_cell? w _ hx198_0)).trans hx198_0)
         replace p198 := eq_true p198
         replace q198 := eq_true q198
         go_wp2
         repeat (go_quiet (fail); try go_wp2)
         go_ret
         exact ⟨by first | rfl | (simp [errW_none, errW_some] <;> rfl) | (simp [*, errW_none, errW_some] <;> rfl), by repeat (first | (with_reducible first | exact HB.out | apply bA | apply bN | apply bD | refine bS ?_ ‹_›) | exact HB.out)⟩
         )
         )
         (focus
         rw [if_neg c51] at H
         exact absurd H (by simp)
         )
         )
         (focus
         rw [if_neg c50] at H
         exact absurd H (by simp)
         )
         )
         (focus
         rw [if_neg c49] at H
         exact absurd H (by simp)
         )
         )
         (focus
         rw [if_neg c48] at H
         exact absurd H (by simp)
         )
         )
         (focus
         rw [if_neg c47] at H
         exact absurd H (by simp)
         )
         )
         (focus
         rw [if_neg c46] at H
         exact absurd H (by simp)
         )
         )
         (focus
         rw [if_neg c45] at H
         have c45b0 : decide (x81_4 < ((rd_L1 l0_3 x59_3).length : Int)) = false := decide_eq_false c45
         clear c45
         have H' := Aside0.mk H
         clear H
         go_wp2
         repeat (go_quiet (fail); try go_wp2)
         go_roundg k4
         case measure => have := HJ2.out; have := HK2.out; have := HK3.out; have := HK4.out; omega
         case rel => exact ⟨(wrap64 (x59_3 + 1)), (by first | rfl | (simp; done) | (simp [*]; done)), H', ⟨by have := HJ2.out; have := HK2.out; have := HK3.out; have := HK4.out; omega⟩, ⟨by (with_reducible repeat (first | refine kN ?_ | refine kD ?_ | refine kA ?_)); exact BK188.out⟩, ⟨by (with_reducible repeat (first | refine kN ?_ | refine kD ?_ | refine kA ?_)); exact BK189.out⟩, ⟨by repeat (first | (with_reducible first | exact HB.out | apply bA | apply bN | apply bD | refine bS ?_ ‹_›) | exact HB.out)⟩⟩
         )
       )
       (focus
       rw [if_neg c41] at H
       have c41b0 : (((rd_L1 l0_3 x59_3).length : Int) == ((rd_L1 l1_3 x59_3).length : Int)) = false := beq_eq_false_iff_ne.mpr c41
       have c41b1 : (((rd_L1 l0_3 x59_3).length : Int) != ((rd_L1 l1_3 x59_3).length : Int)) = true := bne_iff_ne.mpr c41
       have c41b2 : ((rd_L1 l0_3 x59_3).length == (rd_L1 l1_3 x59_3).length) = false := by first | simpa using c41 | (simp at c41 ⊢; omega)
       obtain rfl := Option.some.inj H
       have hnb59 := NB188_189.out
       have hnc59 := NB189_188.out
       have hcz60_0 : wr.cell? ⟨gb188, 0, none⟩ = some (.int .i64 a0_0) := (blk_cell BK188.out 0).trans rfl
       have hcz60_1 : wr.cell? ⟨gb188, 1, none⟩ = some (.int .i64 a0_1) := (blk_cell BK188.out 1).trans rfl
       have hcz60_2 : wr.cell? ⟨gb188, 2, none⟩ = some (.slice A0_2 l0_2.length c0_2) := (blk_cell BK188.out 2).trans rfl
       have hcz60_3 : wr.cell? ⟨gb188, 3, none⟩ = some (.slice A0_3 l0_3.length c0_3) := (blk_cell BK188.out 3).trans rfl
       have hfz60_0 := blk_frozen BK188.out 0
       have hfz60_1 := blk_frozen BK188.out 1
       have hfz60_2 := blk_frozen BK188.out 2
       have hfz60_3 := blk_frozen BK188.out 3
       have p192 : 0 ≤ (x59_3 : Int) := of_decide_eq_true (by assumption)
       have q192 : x59_3 < (l0_3.length : Int) := of_decide_eq_true (by assumption)
       obtain ⟨ad192, A192_0, c192_0, e192, hx192_0, hl192_0, hi192_0⟩ := at_L1 HR0_3.out x59_3 p192 q192
       cases e192
       (try replace hx192_0 := (HB.out.cell (World.block_lt_of_cell? w _ hx192_0)).trans hx192_0)
       have HR192_0 := Aside0.mk hi192_0
       have HC192_0 := Aside0.mk hl192_0
       clear hi192_0 hl192_0
       replace p192 := eq_true p192
       replace q192 := eq_true q192
       have hcz61_0 : wr.cell? ⟨gb189, 0, none⟩ = some (.int .i64 a1_0) := (blk_cell BK189.out 0).trans rfl
       have hcz61_1 : wr.cell? ⟨gb189, 1, none⟩ = some (.int .i64 a1_1) := (blk_cell BK189.out 1).trans rfl
       have hcz61_2 : wr.cell? ⟨gb189, 2, none⟩ = some (.slice A1_2 l1_2.length c1_2) := (blk_cell BK189.out 2).trans rfl
       have hcz61_3 : wr.cell? ⟨gb189, 3, none⟩ = some (.slice A1_3 l1_3.length c1_3) := (blk_cell BK189.out 3).trans rfl
       have hfz61_0 := blk_frozen BK189.out 0
       have hfz61_1 := blk_frozen BK189.out 1
       have hfz61_2 := blk_frozen BK189.out 2
       have hfz61_3 := blk_frozen BK189.out 3
       have p193 : 0 ≤ (x59_3 : Int) := of_decide_eq_true (by assumption)
       have q193 : x59_3 < (l1_3.length : Int) := of_decide_eq_true (by assumption)
       obtain ⟨ad193, A193_0, c193_0, e193, hx193_0, hl193_0, hi193_0⟩ := at_L1 HR1_3.out x59_3 p193 q193
       cases e193
       (try replace hx193_0 := (HB.out.cell (World.block_lt_of_cell? w _ hx193_0)).trans hx193_0)
       have HR193_0 := Aside0.mk hi193_0
       have HC193_0 := Aside0.mk hl193_0
       clear hi193_0 hl193_0
       replace p193 := eq_true p193
       replace q193 := eq_true q193
       go_wp2
       repeat (go_quiet (fail); try go_wp2)
       go_ret
       exact ⟨by first | rfl | (simp [errW_none, errW_some] <;> rfl) | (simp [*, errW_none, errW_some] <;> rfl), by repeat (first | (with_reducible first | exact HB.out | apply bA | apply bN | apply bD | refine bS ?_ ‹_›) | exact HB.out)⟩
       )
       )
       (focus
       rw [if_neg c40] at H
       exact absurd H (by simp)
       )
       )
       (focus
       rw [if_neg c39] at H
       exact absurd H (by simp)
       )
       )
       (focus
       rw [if_neg c38] at H
       exact absurd H (by simp)
       )
       )
       (focus
       rw [if_neg c37] at H
       have c37b0 : decide (x59_3 < (l0_3.length : Int)) = false := decide_eq_false c37
       clear c37
       obtain rfl := Option.some.inj H
       go_wp2
       repeat (go_quiet (fail); try go_wp2)
       go_ret
       exact ⟨by first | rfl | (simp [errW_none, errW_some] <;> rfl) | (simp [*, errW_none, errW_some] <;> rfl), by repeat (first | (with_reducible first | exact HB.out | apply bA | apply bN | apply bD | refine bS ?_ ‹_›) | exact HB.out)⟩
       )
     )
   )
end Go.Proofs.Ytpjbmgoagehjkaa.PDfaProducts
