import Derived.Test.YtpjbmgoagehjkaaZDfaProductsx0
namespace Go.Proofs.Ytpjbmgoagehjkaa.PDfaProducts
open Go.RowKit Go.Proofs.YtpjbmgoagehjkaaH Go.Proofs.YtpjbmgoagehjkaaW.PrintWords Go.Proofs.YtpjbmgoagehjkaaW.PrintLast Go.Proofs.YtpjbmgoagehjkaaW.PrintMore
attribute [local go_sem] max2_int min2_int max_two min_two max_three min_three max_four min_four   -- for this text's walks alone
set_option linter.unusedVariables false
set_option linter.unusedSimpArgs false
/-! ### dfa_collect: function 43 -/
mutual
def dfa_collect.l0 : Nat → List (List Bool) → Int → List ByteArray → List Int → Int → List Int → Int → Int → Int → Int → List Bool → List (List Int) → Option (List ByteArray × List Int)
 | 0, _, _, _, _, _, _, _, _, _, _, _, _ => none
 | k + 1, x1, x2, x3, x4, x6, x28, x29, x30, x105000, x105001, x105002, x105003 => if x30 < x29 then (if 0 ≤ x30 then (if x30 < (x28.length : Int) then (if (x3.length : Int) < x2 then (if 0 ≤ (wrap64 (x6 - 1)) then (if (wrap64 (x6 - 1)) < (x1.length : Int) then (if 0 ≤ (rd x28 x30) then (if (rd x28 x30) < ((rd_L3 x1 (wrap64 (x6 - 1))).length : Int) then (if rdOf false (rd_L3 x1 (wrap64 (x6 - 1))) (rd x28 x30) = true then (if x4.length < 140737488355328 then ((dfa_collect.f k x105000 x105001 x105002 x105003 x1 x2 x3 (x4 ++ [(97 + ((x30) % 256)) % 256]) (rd x28 x30) (wrap64 (x6 - 1))).bind fun bt115 => (dfa_collect.l0 k x1 x2 bt115.1 x4 x6 x28 x29 (wrap64 (x30 + 1)) x105000 x105001 x105002 x105003)) else (none)) else (dfa_collect.l0 k x1 x2 x3 x4 x6 x28 x29 (wrap64 (x30 + 1)) x105000 x105001 x105002 x105003)) else (none)) else (none)) else (none)) else (none)) else (dfa_collect.l0 k x1 x2 x3 x4 x6 x28 x29 (wrap64 (x30 + 1)) x105000 x105001 x105002 x105003)) else (none)) else (none)) else (some (x3, x4))
def dfa_collect.f : Nat → Int → Int → List Bool → List (List Int) → List (List Bool) → Int → List ByteArray → List Int → Int → Int → Option (List ByteArray × List Int)
 | 0, _, _, _, _, _, _, _, _, _, _ => none
 | k + 1, a0_0, a0_1, l0_2, l0_3, l1, a2, l3, l4, a5, a6 => if a6 = 0 then (if l3.length < 8796093022208 then (some ((l3 ++ [strOfNums l4]), l4)) else (none)) else (if 0 ≤ a5 then (if a5 < (l0_3.length : Int) then (dfa_collect.l0 k l1 a2 l3 l4 a6 (rd_L1 l0_3 a5) ((rd_L1 l0_3 a5).length : Int) 0 a0_0 a0_1 l0_2 l0_3) else (none)) else (none))
end
theorem dfa_collect.mono_l : ∀ k, (∀ y0 y1 y2 y3 y4 y5 y6 y7 y8 y9, LeO (dfa_collect.f k y0 y1 y2 y3 y4 y5 y6 y7 y8 y9) (dfa_collect.f (k + 1) y0 y1 y2 y3 y4 y5 y6 y7 y8 y9)) ∧ (∀ y0 y1 y2 y3 y4 y5 y6 y7 y8 y9 y10 y11, LeO (dfa_collect.l0 k y0 y1 y2 y3 y4 y5 y6 y7 y8 y9 y10 y11) (dfa_collect.l0 (k + 1) y0 y1 y2 y3 y4 y5 y6 y7 y8 y9 y10 y11))
 | 0 => ⟨fun _ _ _ _ _ _ _ _ _ _ r h => by simp [dfa_collect.f] at h, fun _ _ _ _ _ _ _ _ _ _ _ _ r h => by simp [dfa_collect.l0] at h⟩
 | k + 1 => by
  obtain ⟨ih0, ih1⟩ := dfa_collect.mono_l k
  refine ⟨?_, ?_⟩
  (focus
  intro y0 y1 y2 y3 y4 y5 y6 y7 y8 y9
  unfold dfa_collect.f
  repeat' first
  | (with_reducible exact ih0 _ _ _ _ _ _ _ _ _ _)
  | (with_reducible exact ih1 _ _ _ _ _ _ _ _ _ _ _ _)
  | (with_reducible exact LeO.refl _)
  | (with_reducible exact LeO.none _)
  | (with_reducible refine LeO.ite ?_ ?_)
  | (with_reducible refine LeO.bind ?_ (fun _ => ?_))
  | exact ih0 _ _ _ _ _ _ _ _ _ _
  | exact ih1 _ _ _ _ _ _ _ _ _ _ _ _
  | exact LeO.none _
  | refine LeO.ite ?_ ?_
  | refine LeO.bind ?_ (fun _ => ?_)
  )
  (focus
  intro y0 y1 y2 y3 y4 y5 y6 y7 y8 y9 y10 y11
  unfold dfa_collect.l0
  repeat' first
  | (with_reducible exact ih0 _ _ _ _ _ _ _ _ _ _)
  | (with_reducible exact ih1 _ _ _ _ _ _ _ _ _ _ _ _)
  | (with_reducible exact LeO.refl _)
  | (with_reducible exact LeO.none _)
  | (with_reducible refine LeO.ite ?_ ?_)
  | (with_reducible refine LeO.bind ?_ (fun _ => ?_))
  | exact ih0 _ _ _ _ _ _ _ _ _ _
  | exact ih1 _ _ _ _ _ _ _ _ _ _ _ _
  | exact LeO.none _
  | refine LeO.ite ?_ ?_
  | refine LeO.bind ?_ (fun _ => ?_)
  )
theorem dfa_collect.mono : ∀ a0 a1 a2 a3 a4 a5 a6 a7 a8 a9 k, LeO (dfa_collect.f k a0 a1 a2 a3 a4 a5 a6 a7 a8 a9) (dfa_collect.f (k + 1) a0 a1 a2 a3 a4 a5 a6 a7 a8 a9) := by
 intro a0 a1 a2 a3 a4 a5 a6 a7 a8 a9 k
 obtain ⟨ih0, ih1⟩ := dfa_collect.mono_l k
 exact ih0 a0 a1 a2 a3 a4 a5 a6 a7 a8 a9
def dfa_collect.T7 : Bool × List (List Nat × List Nat) := (true, [([], []), ([], []), ([], []), ([], []), ([], []), ([], []), ([5], [5]), ([6], [6]), ([7], [7]), ([4, 8], [4, 8]), ([], []), ([], []), ([11], [11]), ([0, 1, 2, 3, 9, 10, 12, 9], [0, 1, 2, 3, 9, 10, 12]), ([13, 13, 0, 1, 2, 3, 4, 5, 6, 7, 8, 9, 10, 11, 12, 13], [3, 13])])
def dfa_collect.B7 : List Nat := [0, 0, 0, 0, 0, 0, 32, 96, 224, 496, 0, 0, 2048, 8191, 16383]
theorem dfa_collect.tab7 : rtab .any (opsOf Try.f43 7) = dfa_collect.T7 := by kernel_rfl
theorem dfa_collect.bits7 : waitsOk dfa_collect.T7.2 dfa_collect.B7 = true := by kernel_rfl
set_option maxHeartbeats 8000000 in
set_option maxRecDepth 100000 in
theorem dfa_collect.same_l : ∀ k, (∀ y0 y1 y2 y3 y4 y5 y6 y7 y8 y9 r, dfa_collect.f k y0 y1 y2 y3 y4 y5 y6 y7 y8 y9 = some r → r.2 = y7) ∧ (∀ y0 y1 y2 y3 y4 y5 y6 y7 y8 y9 y10 y11 r, dfa_collect.l0 k y0 y1 y2 y3 y4 y5 y6 y7 y8 y9 y10 y11 = some r → r.2 = y3)
 | 0 => ⟨fun _ _ _ _ _ _ _ _ _ _ r h => by simp [dfa_collect.f] at h, fun _ _ _ _ _ _ _ _ _ _ _ _ r h => by simp [dfa_collect.l0] at h⟩
 | k + 1 => by
  obtain ⟨ih0, ih1⟩ := dfa_collect.same_l k
  constructor
  (focus
  intro y0 y1 y2 y3 y4 y5 y6 y7 y8 y9 r h
  unfold dfa_collect.f at h
  repeat' split at h
  all_goals first | (cases h; done) | (cases h; rfl) | exact ih1 _ _ _ _ _ _ _ _ _ _ _ _ _ h
  )
  (focus
  intro y0 y1 y2 y3 y4 y5 y6 y7 y8 y9 y10 y11 r h
  unfold dfa_collect.l0 at h
  repeat' split at h
  all_goals first | (cases h; done) | (cases h; rfl) | exact ih1 _ _ _ _ _ _ _ _ _ _ _ _ _ h | (obtain ⟨p, _, hq⟩ := Option.bind_eq_some_iff.1 h; exact ih1 _ _ _ _ _ _ _ _ _ _ _ _ _ hq)
  )
theorem dfa_collect.same {k : Nat} {y0 y1 : Int} {y2 : List Bool} {y3 : List (List Int)} {y4 : List (List Bool)} {y5 : Int} {y6 : List ByteArray} {y7 : List Int} {y8 y9 : Int} {r1 : List ByteArray} {r2 : List Int} (h : dfa_collect.f k y0 y1 y2 y3 y4 y5 y6 y7 y8 y9 = some (r1, r2)) : r2 = y7 := (dfa_collect.same_l k).1 _ _ _ _ _ _ _ _ _ _ _ h
theorem dfa_collect.calls (k : Nat) : ∀ (a0_0 : Int) (a0_1 : Int) (A0_2 : Option Addr) (c0_2 : Nat) (l0_2 : List Bool) (A0_3 : Option Addr) (c0_3 : Nat) (l0_3 : List (List Int)) (A1 : Option Addr) (c1 : Nat) (l1 : List (List Bool)) (a2 : Int) (P3_ : Nat → Prop) (u9000_ : Value) (l3 : List ByteArray) (P4_ : Nat → Prop) (u9001_ : Value) (l4 : List Int) (a5 : Int) (a6 : Int) (r1 : List ByteArray) (r2 : List Int) (w0 w : World) (hB : Below w0.heap.size w0 w) (hr0_2 : ∀ W_, Kept w W_ (fun k_ => P3_ k_ ∨ P4_ k_) → Kd.C Kd.bool W_ A0_2 l0_2.length l0_2) (hc0_2 : l0_2.length ≤ c0_2) (hr0_3 : ∀ W_, Kept w W_ (fun k_ => P3_ k_ ∨ P4_ k_) → Kd.C (Kd.slice 3 (Kd.int .i64)) W_ A0_3 l0_3.length l0_3) (hc0_3 : l0_3.length ≤ c0_3) (hr1 : ∀ W_, Kept w W_ (fun k_ => P3_ k_ ∨ P4_ k_) → Kd.C (Kd.slice 4 Kd.bool) W_ A1 l1.length l1) (hc1 : l1.length ≤ c1) (ho3 : Kd.R Kd.string 9 w w0.heap.size P3_ u9000_ l3) (ho4 : Kd.R (Kd.int .u8) 5 w w0.heap.size P4_ u9001_ l4) (h : dfa_collect.f k a0_0 a0_1 l0_2 l0_3 l1 a2 l3 l4 a5 a6 = some (r1, r2)),
 Calls Try.prog 43 #[.agg #[.int .i64 a0_0, .int .i64 a0_1, .slice A0_2 l0_2.length c0_2, .slice A0_3 l0_3.length c0_3], .slice A1 l1.length c1, .int .i64 a2, u9000_, u9001_, .int .i64 a5, .int .i64 a6] w fun e w' => ∃ v0_ : Value, e = .returned (v0_) ∧ Kd.R Kd.string 9 w' w0.heap.size (fun k_ => ((P3_ k_ ∨ P4_ k_) ∨ w.heap.size ≤ k_)) v0_ r1 ∧ Kd.R (Kd.int .u8) 5 w' w0.heap.size (fun k_ => ((P3_ k_ ∨ P4_ k_) ∨ w.heap.size ≤ k_)) u9001_ r2 ∧ Below w0.heap.size w0 w' ∧ Kept w w' (fun k_ => P3_ k_ ∨ P4_ k_) := by
 induction k using Nat.strongRecOn with
 | _ k ih =>
 intro a0_0 a0_1 A0_2 c0_2 l0_2 A0_3 c0_3 l0_3 A1 c1 l1 a2 P3_ u9000_ l3 P4_ u9001_ l4 a5 a6 r1 r2 w0 w hB hr0_2 hc0_2 hr0_3 hc0_3 hr1 hc1 ho3 ho4 h
 cases k with
 | zero => exact absurd h (by simp [dfa_collect.f])
 | succ k =>
 simp only [dfa_collect.f] at h
 have hu25 := Try.underlying25
 have HR0_2 := Aside0.mk hr0_2
 have HC0_2 := Aside0.mk hc0_2
 clear hr0_2 hc0_2
 have HR0_3 := Aside0.mk hr0_3
 have HC0_3 := Aside0.mk hc0_3
 clear hr0_3 hc0_3
 have HR1 := Aside0.mk hr1
 have HC1 := Aside0.mk hc1
 clear hr1 hc1
 have HO3 := aM (show Kd.R Kd.string 9 w w0.heap.size (fun k_ => ((P3_ k_ ∨ P4_ k_) ∨ w.heap.size ≤ k_)) u9000_ l3 from Kd.R_mono ho3 (fun k_ hk => (.inl (.inl hk))))
 have HO4 := aM (show Kd.R (Kd.int .u8) 5 w w0.heap.size (fun k_ => ((P3_ k_ ∨ P4_ k_) ∨ w.heap.size ≤ k_)) u9001_ l4 from Kd.R_mono ho4 (fun k_ hk => (.inl (.inr hk))))
 have HK := aM (Kept.refl w (fun k_ => P3_ k_ ∨ P4_ k_))
 have HW0 := Aside0.mk hB.size
 have HB := Aside0.mk hB
 clear hB
 have H : (if a6 = 0 then (if l3.length < 8796093022208 then (some ((l3 ++ [strOfNums l4]), l4)) else (none)) else (if 0 ≤ a5 then (if a5 < (l0_3.length : Int) then (dfa_collect.l0 k l1 a2 l3 l4 a6 (rd_L1 l0_3 a5) ((rd_L1 l0_3 a5).length : Int) 0 a0_0 a0_1 l0_2 l0_3) else (none)) else (none))) = some (r1, r2) := h
 clear h
 by_cases c8 : a6 = 0
 (focus
 rw [if_pos c8] at H
 have c8b0 : (a6 == 0) = true := beq_iff_eq.mpr c8
 have c8b1 : (a6 != 0) = false := bne_eq_false_iff_eq.mpr c8
 clear c8
 by_cases c9 : l3.length < 8796093022208
 (focus
 rw [if_pos c9] at H
 have LMc9 := Aside0.mk c9
 clear c9
 obtain ⟨y105, hy105⟩ : ∃ y_ : List ByteArray, y_ = (l3 ++ [strOfNums l4]) := ⟨_, rfl⟩
 replace H : (some (y105, l4)) = some (r1, r2) := by first | (rw [hy105]; with_reducible exact H) | (have H2_ := (Option.bind_some _ _).symm.trans H; rw [hy105]; with_reducible exact H2_) | (have H2_ := (Option.bind_some _ _).symm.trans H; with_reducible exact H2_) | with_reducible exact H | (rw [hy105]; exact H) | exact H
 have Ny105 := Aside0.mk hy105
 clear hy105
 simp only [Option.some.injEq, Prod.mk.injEq] at H
 obtain ⟨rfl, rfl⟩ := H
 go_enter Try.func43, Try.ntmps43
 go_wp2_with (first | ((with_reducible refine gate_dst (N := 7) rfl ?_); refine box_event ?hg (N := 7) ?hd (cs := #[.int .i64 a0_0, .int .i64 a0_1, .slice A0_2 l0_2.length c0_2, .slice A0_3 l0_3.length c0_3]) (t := 25) ?hr ?_; (case hd => rfl); (case hg => rfl); (case hr => first | (go_simp; done) | (go_simp; rfl)); intro gb104 hg w10 hbox hb; have n0_ := aM (Kd.R_below (uR HO3.out) hb); have n1_ := aM (Kd.R_below (uR HO4.out) hb); have n2_ := aM (Kept.below (S := (fun k_ => P3_ k_ ∨ P4_ k_)) (by repeat (first | (with_reducible first | exact HK.out | apply Kept.alloc | apply Kept.drewN | apply Kept.drew) | exact HK.out)) hb); have n3_ := aM (below_step (by repeat (first | (with_reducible first | exact HB.out | apply bA | apply bN | apply bD) | exact HB.out)) hb); have n4_ := aM (hbox); have n5_ := aM ((by rw [hg]; exact (by first | exact HK.out.1 | exact (show Kept w _ (fun k_ => P3_ k_ ∨ P4_ k_) from by repeat (first | (with_reducible first | exact HK.out | apply Kept.alloc | apply Kept.drewN | apply Kept.drew) | exact HK.out)).1) : w.heap.size ≤ gb104)); have n6_ := aM ((by rw [hg]; exact (below_size (by repeat (first | (with_reducible first | exact HB.out | apply bA | apply bN | apply bD) | exact HB.out))) : w0.heap.size ≤ gb104)); clear HO3; clear HO4; clear HK; clear HB; have HO3 := n0_; have HO4 := n1_; have HK := n2_; have HB := n3_; have BK104 := n4_; have GW104 := n5_; have GE104 := n6_; clear n0_ n1_ n2_ n3_ n4_ n5_ n6_; clear hb hbox hg; have hcv11 := own_string (P := Try.prog) Try.underlying56 Try.underlying5 Try.underlying9 (Kd.own_of_R HO4.out)) | ((with_reducible refine gate_builtin (b := .append) (xs := #[.tmp 19, .tmp 22]) rfl ?_); at_builtin; refine Kd.R_append Kd.string (w0 := w0) w0.heap.size rfl (.tmp 19) (.tmp 22) 30 9 (.string ⟨#[]⟩) 16 rfl Try.underlying30 info9 rfl (by decide) (by omega) u9000_ l3 (strOfNums l4) [.string (strOfNums l4)] (fun k_ => ((P3_ k_ ∨ P4_ k_) ∨ w.heap.size ≤ k_)) (fun _ => False) rfl rfl ?aP (fun _ hk => hk.elim) ?aF ?aO ?aB ?aS ?aL ?_; (case aP => exact rfl); (case aB => exact (by repeat (first | (with_reducible first | exact HB.out | apply bA | apply bN | apply bD | refine bS ?_ ‹_›) | exact HB.out))); (case aF => exact (fun k_ hk => (.inr (Nat.le_trans (by first | exact HK.out.1 | exact (show Kept w _ (fun k_ => P3_ k_ ∨ P4_ k_) from by repeat (first | (with_reducible first | exact HK.out | apply Kept.alloc | apply Kept.drewN | apply Kept.drew | refine Kept.setCell ?_ (.inr GW104.out) _) | exact HK.out)).1) hk)))); (case aO => exact (uR HO3.out)); (case aS => exact (below_size (by repeat (first | (with_reducible first | exact HB.out | apply bA | apply bN | apply bD | refine bS ?_ ‹_›) | exact HB.out)))); (case aL => have := LMc9.out; omega); intro v106 w12 ho hb hg hat; rw [← Ny105.out] at ho; have n0_ := aM (Kd.R_over' (uR HO4.out) (Kd.R_typed (uR HO3.out)) (by decide) hg); have n1_ := aM (blk_grown (uB BK104.out) hg (Kd.R_ne HO3.out BK104.out (by decide))); have n2_ := aM (hb); have n3_ := aM (Kept.of_grown (S := (fun k_ => P3_ k_ ∨ P4_ k_)) hg (by repeat (first | (with_reducible first | exact HK.out | apply Kept.alloc | apply Kept.drewN | apply Kept.drew | refine Kept.setCell ?_ (.inr GW104.out) _) | exact HK.out)) (fun k_ e_ => (HO3.out.1 k_ e_))); have n4_ := aM (ho); clear HO4; clear BK104; clear HB; clear HK; clear HO3; have HO4 := n0_; have BK104 := n1_; have HB := n2_; have HK := n3_; have HO107 := n4_; clear n0_ n1_ n2_ n3_ n4_; clear ho hb hg hat))
 go_ret
 exact ⟨_, by first | rfl | (simp [errW_none, errW_some] <;> rfl) | (simp [*, errW_none, errW_some] <;> rfl), by (with_reducible repeat (first | apply Kd.R_alloc | apply Kd.R_drewN | apply Kd.R_drew)); exact HO107.out, by (with_reducible repeat (first | apply Kd.R_alloc | apply Kd.R_drewN | apply Kd.R_drew)); exact HO4.out, by repeat (first | (with_reducible first | exact HB.out | apply bA | apply bN | apply bD | refine bS ?_ ‹_›) | exact HB.out), by repeat (first | (with_reducible first | exact HK.out | apply Kept.alloc | apply Kept.drewN | apply Kept.drew | refine Kept.setCell ?_ (.inr GW104.out) _) | exact HK.out)⟩
 )
 (focus
 rw [if_neg c9] at H
 exact absurd H (by simp)
 )
 )
 (focus
 rw [if_neg c8] at H
 have c8b0 : (a6 == 0) = false := beq_eq_false_iff_ne.mpr c8
 have c8b1 : (a6 != 0) = true := bne_iff_ne.mpr c8
 by_cases c13 : 0 ≤ a5
 (focus
 rw [if_pos c13] at H
 have c13b0 : decide (0 ≤ a5) = true := decide_eq_true c13
 clear c13
 by_cases c14 : a5 < (l0_3.length : Int)
 (focus
 rw [if_pos c14] at H
 have c14b0 : decide (a5 < (l0_3.length : Int)) = true := decide_eq_true c14
 clear c14
 have H' := Aside0.mk H
 clear H
 go_enter Try.func43, Try.ntmps43
 go_wp2_with (first | ((with_reducible refine gate_dst (N := 7) rfl ?_); refine box_event ?hg (N := 7) ?hd (cs := #[.int .i64 a0_0, .int .i64 a0_1, .slice A0_2 l0_2.length c0_2, .slice A0_3 l0_3.length c0_3]) (t := 25) ?hr ?_; (case hd => rfl); (case hg => rfl); (case hr => first | (go_simp; done) | (go_simp; rfl)); intro gb104 hg w15 hbox hb; have n0_ := aM (Kd.R_below (uR HO3.out) hb); have n1_ := aM (Kd.R_below (uR HO4.out) hb); have n2_ := aM (Kept.below (S := (fun k_ => P3_ k_ ∨ P4_ k_)) (by repeat (first | (with_reducible first | exact HK.out | apply Kept.alloc | apply Kept.drewN | apply Kept.drew) | exact HK.out)) hb); have n3_ := aM (below_step (by repeat (first | (with_reducible first | exact HB.out | apply bA | apply bN | apply bD) | exact HB.out)) hb); have n4_ := aM (hbox); have n5_ := aM ((by rw [hg]; exact (by first | exact HK.out.1 | exact (show Kept w _ (fun k_ => P3_ k_ ∨ P4_ k_) from by repeat (first | (with_reducible first | exact HK.out | apply Kept.alloc | apply Kept.drewN | apply Kept.drew) | exact HK.out)).1) : w.heap.size ≤ gb104)); have n6_ := aM ((by rw [hg]; exact (below_size (by repeat (first | (with_reducible first | exact HB.out | apply bA | apply bN | apply bD) | exact HB.out))) : w0.heap.size ≤ gb104)); clear HO3; clear HO4; clear HK; clear HB; have HO3 := n0_; have HO4 := n1_; have HK := n2_; have HB := n3_; have BK104 := n4_; have GW104 := n5_; have GE104 := n6_; clear n0_ n1_ n2_ n3_ n4_ n5_ n6_; clear hb hbox hg; have hcz16_0 : w15.cell? ⟨gb104, 0, none⟩ = some (.int .i64 a0_0) := (blk_cell BK104.out 0).trans rfl; have hcz16_1 : w15.cell? ⟨gb104, 1, none⟩ = some (.int .i64 a0_1) := (blk_cell BK104.out 1).trans rfl; have hcz16_2 : w15.cell? ⟨gb104, 2, none⟩ = some (.slice A0_2 l0_2.length c0_2) := (blk_cell BK104.out 2).trans rfl; have hcz16_3 : w15.cell? ⟨gb104, 3, none⟩ = some (.slice A0_3 l0_3.length c0_3) := (blk_cell BK104.out 3).trans rfl; have hfz16_0 := blk_frozen BK104.out 0; have hfz16_1 := blk_frozen BK104.out 1; have hfz16_2 := blk_frozen BK104.out 2; have hfz16_3 := blk_frozen BK104.out 3; have p108 : 0 ≤ (a5 : Int) := of_decide_eq_true (by assumption); have q108 : a5 < (l0_3.length : Int) := of_decide_eq_true (by assumption); obtain ⟨ad108, A108_0, c108_0, e108, hx108_0, hl108_0, hi108_0⟩ := at_L1 (Kd.C_kept_now HR0_3.out HK.out) a5 p108 q108; cases e108; have HR108_0 := aM (inner_kept (fun W_ hK_ => at_L1 (HR0_3.out W_ hK_) a5 p108 q108) hx108_0 rfl (HK.out)); have HC108_0 := Aside0.mk hl108_0; clear hi108_0 hl108_0; replace p108 := eq_true p108; replace q108 := eq_true q108))
 go_loopg [3, 30] k (fun kq v3 v30 w' => ∃ (x3_1 : List ByteArray) (x4_1 : List Int) (x30_1 : Int), v30 = .int .i64 x30_1 ∧ Aside0 (dfa_collect.l0 kq l1 a2 x3_1 x4_1 a6 (rd_L1 l0_3 a5) ((rd_L1 l0_3 a5).length : Int) x30_1 a0_0 a0_1 l0_2 l0_3 = some (r1, r2)) ∧ Aside0 (kq ≤ k) ∧ Aside0 (Kd.R Kd.string 9 w' w0.heap.size (fun k_ => ((P3_ k_ ∨ P4_ k_) ∨ w.heap.size ≤ k_)) v3 x3_1) ∧ Aside0 (Kd.R (Kd.int .u8) 5 w' w0.heap.size (fun k_ => ((P3_ k_ ∨ P4_ k_) ∨ w.heap.size ≤ k_)) u9001_ x4_1) ∧ Aside0 (w'.heap[gb104]? = some (.cells #[.int .i64 a0_0, .int .i64 a0_1, (.slice A0_2 l0_2.length c0_2), (.slice (some ad108) l0_3.length c0_3)] 25 (0, 0))) ∧ Aside0 (Kept w w' (fun k_ => P3_ k_ ∨ P4_ k_)) ∧ Aside0 (Below w0.heap.size w0 w'))
 case atStart => exact ⟨(l3), (l4), (0), (by first | rfl | (simp; done) | (simp [*]; done)), H', ⟨Nat.le_refl _⟩, ⟨by (with_reducible repeat (first | apply Kd.R_alloc | apply Kd.R_drewN | apply Kd.R_drew)); exact HO3.out⟩, ⟨by (with_reducible repeat (first | apply Kd.R_alloc | apply Kd.R_drewN | apply Kd.R_drew)); exact HO4.out⟩, ⟨by (with_reducible repeat (first | refine kN ?_ | refine kD ?_ | refine kA ?_)); exact BK104.out⟩, ⟨by repeat (first | (with_reducible first | exact HK.out | apply Kept.alloc | apply Kept.drewN | apply Kept.drew | refine Kept.setCell ?_ (.inr GW104.out) _) | exact HK.out)⟩, ⟨by repeat (first | (with_reducible first | exact HB.out | apply bA | apply bN | apply bD | refine bS ?_ ‹_›) | exact HB.out)⟩⟩
 case round =>
  clear H'
  try clear c1
  try clear p1
  try clear q1
  try clear hx1
  try clear hcv1
  try clear p2
  try clear c4
  try clear c8
  try clear c8b0
  try clear c8b1
  try clear c9
  try clear c10
  try clear p10
  try clear q10
  try clear hx10
  try clear hcv11
  try clear c13
  try clear c13b0
  try clear c14
  try clear c14b0
  try clear hcz16_0
  try clear hcz16_1
  try clear hcz16_2
  try clear hcz16_3
  try clear hfz16_0
  try clear hfz16_1
  try clear hfz16_2
  try clear hfz16_3
  try clear hx108_0
  try clear p108
  try clear q108
  obtain ⟨x3_1, x4_1, x30_1, rfl, HA, HK1, HO_3, HO_4, BK104, HK, HB⟩ := hrel
  cases gk with
  | zero => exact absurd HA.out (by simp [dfa_collect.l0])
  | succ k1 =>
   have H := HA.out
   clear HA
   simp only [dfa_collect.l0] at H
   by_cases c17 : x30_1 < ((rd_L1 l0_3 a5).length : Int)
   (focus
   rw [if_pos c17] at H
   have c17b0 : decide (x30_1 < ((rd_L1 l0_3 a5).length : Int)) = true := decide_eq_true c17
   clear c17
   by_cases c18 : 0 ≤ x30_1
   (focus
   rw [if_pos c18] at H
   have c18b0 : decide (0 ≤ x30_1) = true := decide_eq_true c18
   clear c18
   by_cases c19 : x30_1 < ((rd_L1 l0_3 a5).length : Int)
   (focus
   rw [if_pos c19] at H
   have c19b0 : decide (x30_1 < ((rd_L1 l0_3 a5).length : Int)) = true := decide_eq_true c19
   clear c19
   by_cases c20 : (x3_1.length : Int) < a2
   (focus
   rw [if_pos c20] at H
   have c20b0 : decide ((x3_1.length : Int) < a2) = true := decide_eq_true c20
   clear c20
   obtain ⟨ji21, hji21⟩ : ∃ j_ : Int, (wrap64 (a6 - 1)) = j_ := ⟨_, rfl⟩
   replace H : (if 0 ≤ (ji21) then (if (ji21) < (l1.length : Int) then (if 0 ≤ (rd (rd_L1 l0_3 a5) x30_1) then (if (rd (rd_L1 l0_3 a5) x30_1) < ((rd_L3 l1 (ji21)).length : Int) then (if rdOf false (rd_L3 l1 (ji21)) (rd (rd_L1 l0_3 a5) x30_1) = true then (if x4_1.length < 140737488355328 then ((dfa_collect.f k1 a0_0 a0_1 l0_2 l0_3 l1 a2 x3_1 (x4_1 ++ [(97 + ((x30_1) % 256)) % 256]) (rd (rd_L1 l0_3 a5) x30_1) (ji21)).bind fun bt115 => (dfa_collect.l0 k1 l1 a2 bt115.1 x4_1 a6 (rd_L1 l0_3 a5) ((rd_L1 l0_3 a5).length : Int) (wrap64 (x30_1 + 1)) a0_0 a0_1 l0_2 l0_3)) else (none)) else (dfa_collect.l0 k1 l1 a2 x3_1 x4_1 a6 (rd_L1 l0_3 a5) ((rd_L1 l0_3 a5).length : Int) (wrap64 (x30_1 + 1)) a0_0 a0_1 l0_2 l0_3)) else (none)) else (none)) else (none)) else (none)) = some (r1, r2) := by first | (rw [hji21] at H; exact H) | (simp only [hji21] at H ⊢; exact H)
   have hji21w : (IntKind.i64.wrap (a6 - 1)) = ji21 := (i64_w _).trans hji21
   by_cases c22 : 0 ≤ (ji21)
   (focus
   rw [if_pos c22] at H
   have c22b0 : decide (0 ≤ (ji21)) = true := decide_eq_true c22
   clear c22
   by_cases c23 : (ji21) < (l1.length : Int)
   (focus
   rw [if_pos c23] at H
   have c23b0 : decide ((ji21) < (l1.length : Int)) = true := decide_eq_true c23
   clear c23
   by_cases c24 : 0 ≤ (rd (rd_L1 l0_3 a5) x30_1)
   (focus
   rw [if_pos c24] at H
   have c24b0 : decide (0 ≤ (rd (rd_L1 l0_3 a5) x30_1)) = true := decide_eq_true c24
   clear c24
   by_cases c25 : (rd (rd_L1 l0_3 a5) x30_1) < ((rd_L3 l1 (ji21)).length : Int)
   (focus
   rw [if_pos c25] at H
   have c25b0 : decide ((rd (rd_L1 l0_3 a5) x30_1) < ((rd_L3 l1 (ji21)).length : Int)) = true := decide_eq_true c25
   clear c25
   obtain ⟨bq26, hbq26⟩ : ∃ b_ : Bool, b_ = (rdOf false (rd_L3 l1 (ji21)) (rd (rd_L1 l0_3 a5) x30_1)) := ⟨_, rfl⟩
   replace H : (if bq26 = true then (if x4_1.length < 140737488355328 then ((dfa_collect.f k1 a0_0 a0_1 l0_2 l0_3 l1 a2 x3_1 (x4_1 ++ [(97 + ((x30_1) % 256)) % 256]) (rd (rd_L1 l0_3 a5) x30_1) (ji21)).bind fun bt115 => (dfa_collect.l0 k1 l1 a2 bt115.1 x4_1 a6 (rd_L1 l0_3 a5) ((rd_L1 l0_3 a5).length : Int) (wrap64 (x30_1 + 1)) a0_0 a0_1 l0_2 l0_3)) else (none)) else (dfa_collect.l0 k1 l1 a2 x3_1 x4_1 a6 (rd_L1 l0_3 a5) ((rd_L1 l0_3 a5).length : Int) (wrap64 (x30_1 + 1)) a0_0 a0_1 l0_2 l0_3)) = some (r1, r2) := by rw [← hbq26] at H; exact H
   have Nbq26 := Aside0.mk hbq26
   clear hbq26
   by_cases c27 : bq26 = true
   (focus
   subst c27
   have H1 : (if x4_1.length < 140737488355328 then ((dfa_collect.f k1 a0_0 a0_1 l0_2 l0_3 l1 a2 x3_1 (x4_1 ++ [(97 + ((x30_1) % 256)) % 256]) (rd (rd_L1 l0_3 a5) x30_1) (ji21)).bind fun bt115 => (dfa_collect.l0 k1 l1 a2 bt115.1 x4_1 a6 (rd_L1 l0_3 a5) ((rd_L1 l0_3 a5).length : Int) (wrap64 (x30_1 + 1)) a0_0 a0_1 l0_2 l0_3)) else (none)) = some (r1, r2) := by rw [if_pos rfl] at H; exact H
   clear H
   have H := H1
   clear H1
   by_cases c28 : x4_1.length < 140737488355328
   (focus
   rw [if_pos c28] at H
   have LMc28 := Aside0.mk c28
   clear c28
   obtain ⟨y112, hy112⟩ : ∃ y_ : List Int, y_ = (x4_1 ++ [(97 + ((x30_1) % 256)) % 256]) := ⟨_, rfl⟩
   replace H : ((dfa_collect.f k1 a0_0 a0_1 l0_2 l0_3 l1 a2 x3_1 y112 (rd (rd_L1 l0_3 a5) x30_1) (ji21)).bind fun bt115 => (dfa_collect.l0 k1 l1 a2 bt115.1 x4_1 a6 (rd_L1 l0_3 a5) ((rd_L1 l0_3 a5).length : Int) (wrap64 (x30_1 + 1)) a0_0 a0_1 l0_2 l0_3)) = some (r1, r2) := by first | (rw [hy112]; with_reducible exact H) | (have H2_ := (Option.bind_some _ _).symm.trans H; rw [hy112]; with_reducible exact H2_) | (have H2_ := (Option.bind_some _ _).symm.trans H; with_reducible exact H2_) | with_reducible exact H | (rw [hy112]; exact H) | exact H
   have Ny112 := Aside0.mk hy112
   clear hy112
   replace H := Option.bind_eq_some_iff.mp H
   obtain ⟨⟨t115, t118⟩, A290, H⟩ := H
   replace H : (dfa_collect.l0 k1 l1 a2 t115 x4_1 a6 (rd_L1 l0_3 a5) ((rd_L1 l0_3 a5).length : Int) (wrap64 (x30_1 + 1)) a0_0 a0_1 l0_2 l0_3) = some (r1, r2) := H
   have A29 := Aside0.mk A290
   clear A290
   have H' := Aside0.mk H
   clear H
   have p109 : 0 ≤ (x30_1 : Int) := of_decide_eq_true (by assumption)
   have q109 : x30_1 < ((rd_L1 l0_3 a5).length : Int) := of_decide_eq_true (by assumption)
   obtain ⟨ad109, e109, hx109_0⟩ := Kd.at_int (Kd.C_kept_now HR108_0.out HK.out) x30_1 p109 q109
   cases e109
   replace p109 := eq_true p109
   replace q109 := eq_true q109
   obtain ⟨Ao30, co30, eo30⟩ := Kd.R_slice HO_3.out
   subst eo30
   have p110 : 0 ≤ ((ji21) : Int) := of_decide_eq_true (by assumption)
   have q110 : (ji21) < (l1.length : Int) := of_decide_eq_true (by assumption)
   obtain ⟨ad110, A110_0, c110_0, e110, hx110_0, hl110_0, hi110_0⟩ := at_L3 (Kd.C_kept_now HR1.out HK.out) (ji21) p110 q110
   cases e110
   have HR110_0 := aM (inner_kept (fun W_ hK_ => at_L3 (HR1.out W_ hK_) (ji21) p110 q110) hx110_0 rfl (HK.out))
   have HC110_0 := Aside0.mk hl110_0
   clear hi110_0 hl110_0
   replace p110 := eq_true p110
   replace q110 := eq_true q110
   have p111 : 0 ≤ ((rd (rd_L1 l0_3 a5) x30_1) : Int) := of_decide_eq_true (by assumption)
   have q111 : (rd (rd_L1 l0_3 a5) x30_1) < ((rd_L3 l1 (ji21)).length : Int) := of_decide_eq_true (by assumption)
   obtain ⟨ad111, e111, hx111_0⟩ := Kd.at_bool (Kd.C_kept_now HR110_0.out HK.out) (rd (rd_L1 l0_3 a5) x30_1) p111 q111
   (try rw [← Nbq26.out] at hx111_0)
   cases e111
   replace p111 := eq_true p111
   replace q111 := eq_true q111
   try go_wp2
   have n0_ := aM (Kd.R_drew HO_3.out)
   have n1_ := aM (Kd.R_drew HO_4.out)
   have n2_ := aM (blk_drew BK104.out)
   have n3_ := aM (Kept.drew HK.out)
   have n4_ := aM (below_drew1 HB.out)
   clear HO_3
   clear HO_4
   clear BK104
   clear HK
   clear HB
   have HO_3 := n0_
   have HO_4 := n1_
   have BK104 := n2_
   have HK := n3_
   have HB := n4_
   clear n0_ n1_ n2_ n3_ n4_
   refine start_ (n := 15) (S := fun w' => w'.cell? ⟨gb104, 0, none⟩ = some (.int .i64 a0_0) ∧ w'.cell? ⟨gb104, 1, none⟩ = some (.int .i64 a0_1) ∧ w'.cell? ⟨gb104, 2, none⟩ = some (.slice A0_2 l0_2.length c0_2) ∧ w'.cell? ⟨gb104, 3, none⟩ = some (.slice (some ad108) l0_3.length c0_3)) (ds := []) #[false, false, false, false, false, false, false, false, false, false, false, false, false, false, false] (by kernel_rfl) rfl rfl ⟨(blk_cell BK104.out 0).trans rfl, (blk_cell BK104.out 1).trans rfl, (blk_cell BK104.out 2).trans rfl, (blk_cell BK104.out 3).trans rfl⟩ (fun hHeld => ?_); refine with_tabW dfa_collect.tab7 dfa_collect.bits7 (fun HT_ HW_ => ?_)
   generalize wr.drew = w31 at HO_3 HO_4 BK104 HK HB hHeld ⊢
   refine pure_ (i := 1) (N := some 50) (v := ?_) (a' := ?_) #[false, true, false, false, false, false, false, false, false, false, false, false, false, false, false] rfl rfl (any_of HT_.out (by kernel_rfl)) (fun _ _ _ h => h) (Or.inl ⟨by rfl, ?_⟩) ?_ ?_
   rotate_left
   (focus
   intro w'
   go_simp
   with_reducible rfl
   )
   rotate_left
   (focus
   simp only [Act.put, sA, sB, sC, i64_w, i32_w]
   rfl
   )
   refine pure_ (i := 2) (N := some 51) (v := ?_) (a' := ?_) #[false, true, true, false, false, false, false, false, false, false, false, false, false, false, false] rfl rfl (any_of HT_.out (by kernel_rfl)) (fun _ _ _ h => h) (Or.inl ⟨by rfl, ?_⟩) ?_ ?_
   rotate_left
   (focus
   intro w'
   go_simp
   with_reducible rfl
   )
   rotate_left
   (focus
   simp only [Act.put, sA, sB, sC, i64_w, i32_w]
   rfl
   )
   refine pure_ (i := 3) (N := some 52) (v := ?_) (a' := ?_) #[false, true, true, true, false, false, false, false, false, false, false, false, false, false, false] rfl rfl (any_of HT_.out (by kernel_rfl)) (fun _ _ _ h => h) (Or.inl ⟨by rfl, ?_⟩) ?_ ?_
   rotate_left
   (focus
   intro w'
   go_simp
   with_reducible rfl
   )
   rotate_left
   (focus
   simp only [Act.put, sA, sB, sC, i64_w, i32_w]
   rfl
   )
   refine pure_ (i := 4) (N := some 53) (v := ?_) (a' := ?_) #[false, true, true, true, true, false, false, false, false, false, false, false, false, false, false] rfl rfl (any_of HT_.out (by kernel_rfl)) (fun _ _ _ h => h) (Or.inl ⟨by rfl, ?_⟩) ?_ ?_
   rotate_left
   (focus
   intro w'
   go_simp
   with_reducible rfl
   )
   rotate_left
   (focus
   simp only [Act.put, sA, sB, sC, i64_w, i32_w]
   rfl
   )
   refine pure_ (i := 5) (N := some 54) (v := ?_) (a' := ?_) #[false, true, true, true, true, true, false, false, false, false, false, false, false, false, false] rfl rfl (any_of HT_.out (by kernel_rfl)) (fun _ _ _ h => h) (Or.inl ⟨by rfl, ?_⟩) ?_ ?_
   rotate_left
   (focus
   intro w'
   go_simp
   with_reducible rfl
   )
   rotate_left
   (focus
   simp only [Act.put, sA, sB, sC, i64_w, i32_w]
   rfl
   )
   refine pure_ (i := 6) (N := some 55) (v := ?_) (a' := ?_) #[false, true, true, true, true, true, true, false, false, false, false, false, false, false, false] rfl rfl (any_of HT_.out (by kernel_rfl)) (fun _ _ _ h => h) (Or.inl ⟨by rfl, ?_⟩) ?_ ?_
   rotate_left
   (focus
   intro w'
   go_simp
   with_reducible rfl
   )
   rotate_left
   (focus
   simp only [Act.put, sA, sB, sC, i64_w, i32_w]
   rfl
   )
   refine pure_ (i := 7) (N := some 56) (v := ?_) (a' := ?_) #[false, true, true, true, true, true, true, true, false, false, false, false, false, false, false] rfl rfl (any_of HT_.out (by kernel_rfl)) (fun _ _ _ h => h) (Or.inl ⟨by rfl, ?_⟩) ?_ ?_
   rotate_left
   (focus
   intro w'
   go_simp
   with_reducible rfl
   )
   rotate_left
   (focus
   simp only [Act.put, sA, sB, sC, i64_w, i32_w]
   rfl
   )
   refine pure_ (i := 10) (N := some 59) (v := ?_) (a' := ?_) #[false, true, true, true, true, true, true, true, false, false, true, false, false, false, false] rfl rfl (any_of HT_.out (by kernel_rfl)) (fun _ _ _ h => h) (Or.inl ⟨by rfl, ?_⟩) ?_ ?_
   rotate_left
   (focus
   intro w'
   go_simp
   with_reducible rfl
   )
   rotate_left
   (focus
   simp only [Act.put, sA, sB, sC, i64_w, i32_w]
   rfl
   )
   refine pure_ (i := 11) (N := some 60) (v := ?_) (a' := ?_) #[false, true, true, true, true, true, true, true, false, false, true, true, false, false, false] rfl rfl (any_of HT_.out (by kernel_rfl)) (fun _ _ _ h => h) (Or.inl ⟨by rfl, ?_⟩) ?_ ?_
   rotate_left
   (focus
   intro w'
   go_simp
   with_reducible rfl
   )
   rotate_left
   (focus
   simp only [Act.put, sA, sB, sC, i64_w, i32_w]
   rfl
   )
   refine pure_ (i := 12) (N := some 61) (v := ?_) (a' := ?_) #[false, true, true, true, true, true, true, true, false, false, true, true, true, false, false] rfl rfl (any_of HT_.out (by kernel_rfl)) (fun _ _ _ h => h) (Or.inl ⟨by rfl, ?_⟩) ?_ ?_
   rotate_left
   (focus
   intro w'
   go_simp
   with_reducible rfl
   )
   rotate_left
   (focus
   simp only [Act.put, sA, sB, sC, i64_w, i32_w]
   rfl
   )
   refine take_ (i := 0) (N := some 49) (v := ?_) (a' := ?_) #[true, true, true, true, true, true, true, true, false, false, true, true, true, false, false] rfl rfl (take_ofW HT_.out HW_.out (by kernel_rfl)) (fun _ _ _ h => h) (Or.inl ⟨by rfl, ?_⟩) hHeld ?_ ?_
   rotate_left
   (focus
   rintro w' ⟨s0, s1, s2, s3⟩
   go_simp
   with_reducible rfl
   )
   rotate_left
   (focus
   simp only [Act.put, sA, sB, sC, i64_w, i32_w]
   rfl
   )
   refine one_ (i := 8) (N := some 57) #[true, true, true, true, true, true, true, true, true, false, true, true, true, false, false] rfl rfl (one_of HT_.out (by kernel_rfl)) (by decide) (fun K hK => ?_)
   refine value_ (w1 := ?_) (v := ?_) (by rfl) rfl ?_ ?_
   rotate_left 2
   (focus
   go_simp
   constructor
   (focus
   rfl
   )
   (focus
   rfl
   )
   )
   refine hK.out _ _ ⟨(blk_cell (blk_alloc BK104.out _) 0).trans rfl, (blk_cell (blk_alloc BK104.out _) 1).trans rfl, (blk_cell (blk_alloc BK104.out _) 2).trans rfl, (blk_cell (blk_alloc BK104.out _) 3).trans rfl⟩ (fun hHeld => ?_)
   clear hK K
   refine norm_ (a' := ?_) ?_ ?_
   rotate_left
   (focus
   show Act.put _ (some 57) _ = _
   simp only [Act.put, sA, sB, sC, i64_w, i32_w]
   rfl
   )
   refine one_ (i := 9) (N := some 58) #[true, true, true, true, true, true, true, true, true, true, true, true, true, false, false] rfl rfl (one_of HT_.out (by kernel_rfl)) (by decide) (fun K hK => ?_)
   refine R_fork_step (Value.int .u8) (h1 := fun _ => rfl) (w0 := w0) w0.heap.size (by rfl) (.tmp 53) (.tmp 57) 56 5 (.int .u8 0) 1 rfl Try.underlying56 info5 rfl (by decide) (by omega) u9001_ x4_1 ((97 + ((x30_1) % 256)) % 256) [.int .u8 ((97 + ((x30_1) % 256)) % 256)] (fun k_ => ((P3_ k_ ∨ P4_ k_) ∨ w.heap.size ≤ k_)) (fun _ => False) rfl rfl ?aP (fun _ hk => hk.elim) ?aF ?aO ?aB ?aS ?aL ?_
   (case aP => exact rfl)
   (case aB => exact (by repeat (first | (with_reducible first | exact HB.out | apply bA | apply bN | apply bD | refine bS ?_ ‹_›) | exact HB.out)))
   (case aF => exact (fun k_ hk => (.inr (Nat.le_trans (by first | exact HK.out.1 | exact (show Kept w _ (fun k_ => P3_ k_ ∨ P4_ k_) from by repeat (first | (with_reducible first | exact HK.out | apply Kept.alloc | apply Kept.drewN | apply Kept.drew | refine Kept.setCell ?_ (.inr GW104.out) _) | exact HK.out)).1) hk))))
   (case aO => exact (uR HO_4.out))
   (case aS => exact (below_size (by repeat (first | (with_reducible first | exact HB.out | apply bA | apply bN | apply bD | refine bS ?_ ‹_›) | exact HB.out))))
   (case aL => have := LMc28.out; omega)
   intro v113 w32 ho hfk hb hg hat
   rw [← Ny112.out] at ho hfk
   have n0_ := aM (Kd.R_over' (uR HO_3.out) (Kd.R_typed (uR HO_4.out)) (by decide) hg)
   have n1_ := aM (blk_grown (uB BK104.out) hg (Kd.R_ne HO_4.out BK104.out (by decide)))
   have n2_ := aM (hb)
   have n3_ := aM (Kept.of_grown (S := (fun k_ => P3_ k_ ∨ P4_ k_)) hg (by repeat (first | (with_reducible first | exact HK.out | apply Kept.alloc | apply Kept.drewN | apply Kept.drew | refine Kept.setCell ?_ (.inr GW104.out) _) | exact HK.out)) (fun k_ e_ => (HO_4.out.1 k_ e_)))
   have n4_ := aM (hfk)
   have n5_ := aM (ho)
   clear HO_3
   clear BK104
   clear HB
   clear HK
   clear HO_4
   have HO_3 := n0_
   have BK104 := n1_
   have HB := n2_
   have HK := n3_
   have HO_4 := n4_
   have HO114 := n5_
   clear n0_ n1_ n2_ n3_ n4_ n5_
   clear ho hb hg hat hfk
   obtain ⟨Ao33, co33, eo33⟩ := Kd.R_slice HO114.out
   (first | subst eo33 | (injection eo33 with f1_ f2_ f3_; have f4_ := f1_.symm; have f5_ := f3_.symm; clear f1_ f2_ f3_; subst f4_; subst f5_))
   refine hK.out _ _ ⟨(blk_cell BK104.out 0).trans rfl, (blk_cell BK104.out 1).trans rfl, (blk_cell BK104.out 2).trans rfl, (blk_cell BK104.out 3).trans rfl⟩ (fun hHeld => ?_)
   clear hK K
   refine norm_ (a' := ?_) ?_ ?_
   rotate_left
   (focus
   show Act.put _ (some 58) _ = _
   simp only [Act.put, sA, sB, sC, i64_w, i32_w]
   rfl
   )
   refine one_ (i := 13) (N := some 62) #[true, true, true, true, true, true, true, true, true, true, true, true, true, true, false] rfl rfl (one_of HT_.out (by kernel_rfl)) (by decide) (fun K hK => ?_)
   refine goes_ Try.func43 (by kernel_rfl) rfl #[.agg #[.int .i64 a0_0, .int .i64 a0_1, .slice A0_2 l0_2.length c0_2, .slice (some ad108) l0_3.length c0_3], .slice (some ad110) l1.length c1, .int .i64 a2, .slice Ao30 x3_1.length co30, .slice Ao33 y112.length co33, .int .i64 (rd (rd_L1 l0_3 a5) x30_1), .int .i64 ji21] (by rfl) rfl rfl (by (try simp only [List.map_toArray, List.map_cons, List.map_nil]); first | done | (simp only [hji21]; rfl) | rfl | (simp only [List.length_drop, List.length_take]; rfl)) ?_
   with_reducible refine (ih k1 (by have := HK1.out; omega) a0_0 a0_1 _ _ l0_2 _ _ l0_3 _ _ l1 a2 (fun k_ => some k_ = (.slice Ao30 x3_1.length co30 : Value).ownBlock) (.slice Ao30 x3_1.length co30) x3_1 (fun k_ => some k_ = (.slice Ao33 y112.length co33 : Value).ownBlock) (.slice Ao33 y112.length co33) y112 (rd (rd_L1 l0_3 a5) x30_1) ji21 t115 t118 w0 _ ?side1 ?side2 ?side3 ?side4 ?side5 ?side6 ?side7 ?side8 ?side9 A29.out).mono ?_
   (case side1 => repeat (first | (with_reducible first | exact HB.out | apply bA | apply bN | apply bD | refine bS ?_ ‹_›) | exact HB.out))
   (case side2 => exact Kd.C_kept_call HR0_2.out (by repeat (first | (with_reducible first | exact HK.out | apply Kept.alloc | apply Kept.drewN | apply Kept.drew | refine Kept.setCell ?_ (.inr GW104.out) _) | exact HK.out)) (fun k_ hs_ => Or.elim hs_ (fun e_ => (fun e_ => (HO_3.out.1 k_ e_.symm)) e_) (fun e_ => (fun e_ => (HO114.out.1 k_ e_.symm)) e_)))
   (case side3 => exact HC0_2.out)
   (case side4 => exact Kd.C_kept_call HR0_3.out (by repeat (first | (with_reducible first | exact HK.out | apply Kept.alloc | apply Kept.drewN | apply Kept.drew | refine Kept.setCell ?_ (.inr GW104.out) _) | exact HK.out)) (fun k_ hs_ => Or.elim hs_ (fun e_ => (fun e_ => (HO_3.out.1 k_ e_.symm)) e_) (fun e_ => (fun e_ => (HO114.out.1 k_ e_.symm)) e_)))
   (case side5 => exact HC0_3.out)
   (case side6 => exact Kd.C_kept_call HR1.out (by repeat (first | (with_reducible first | exact HK.out | apply Kept.alloc | apply Kept.drewN | apply Kept.drew | refine Kept.setCell ?_ (.inr GW104.out) _) | exact HK.out)) (fun k_ hs_ => Or.elim hs_ (fun e_ => (fun e_ => (HO_3.out.1 k_ e_.symm)) e_) (fun e_ => (fun e_ => (HO114.out.1 k_ e_.symm)) e_)))
   (case side7 => exact HC1.out)
   (case side8 => exact Kd.R_tight rfl HO_3.out)
   (case side9 => exact Kd.R_tight rfl HO114.out)
   rintro e w34 ⟨v116, rfl, ho0, hy0, hb, hkp⟩
   refine ⟨_, rfl, ?_⟩
   have n0_ := aM (blk_kept (uB BK104.out) hkp (fun hs_ => Or.elim hs_ (fun e_ => (fun e_ => (Kd.R_ne HO_3.out BK104.out (by decide)) e_) e_) (fun e_ => (fun e_ => (Kd.R_ne HO114.out BK104.out (by decide)) e_) e_)))
   have n1_ := aM ((HO_4.out.back _ _ (by have e_ : t118 = y112 := dfa_collect.same A29.out; rw [e_] at hy0; exact hy0) (fun k_ hk_ hne_ => hkp.2 k_ (HO_4.out.lt k_ hk_) (fun hs_ => Or.elim hs_ (fun e_ => (fun e_ => ne_typed HO_4.out.typed (Kd.R_typed HO_3.out) (by decide) k_ hk_ e_) e_) (fun e_ => (fun e_ => hne_ e_) e_)))))
   have n2_ := aM (Kd.R_reok rfl hy0 (fun k_ e_ => HO114.out.1 k_ e_))
   have n3_ := aM (Kd.R_mono (ok' := fun k_ => ((P3_ k_ ∨ P4_ k_) ∨ w.heap.size ≤ k_)) ho0 (fun k_ hk_ => Or.elim hk_ (fun hs_ => Or.elim hs_ (fun hs_ => (HO_3.out.1 k_ (hs_).symm)) (fun hs_ => (HO114.out.1 k_ (hs_).symm))) (fun hn_ => (.inr (Nat.le_trans (by first | exact HK.out.1 | exact (show Kept w _ (fun k_ => P3_ k_ ∨ P4_ k_) from by repeat (first | (with_reducible first | exact HK.out | apply Kept.alloc | apply Kept.drewN | apply Kept.drew | refine Kept.setCell ?_ (.inr GW104.out) _) | exact HK.out)).1) hn_)))))
   have n4_ := aM (Kept.then_ (S := (fun k_ => P3_ k_ ∨ P4_ k_)) (by repeat (first | (with_reducible first | exact HK.out | apply Kept.alloc | apply Kept.drewN | apply Kept.drew | refine Kept.setCell ?_ (.inr GW104.out) _) | exact HK.out)) hkp (fun k_ hs_ => Or.elim hs_ (fun e_ => (fun e_ => (HO_3.out.1 k_ e_.symm)) e_) (fun e_ => (fun e_ => (HO114.out.1 k_ e_.symm)) e_)))
   have n5_ := aM (hb)
   clear BK104
   clear HO_4
   clear HO114
   clear HK
   clear HB
   clear HO_3
   have BK104 := n0_
   have HO_4 := n1_
   have HO114 := n2_
   have HO117 := n3_
   have HK := n4_
   have HB := n5_
   clear n0_ n1_ n2_ n3_ n4_ n5_
   (try clear hb)
   (try clear hkp)
   (try clear ho0)
   (try clear hy0)
   refine hK.out _ _ ⟨(blk_cell BK104.out 0).trans rfl, (blk_cell BK104.out 1).trans rfl, (blk_cell BK104.out 2).trans rfl, (blk_cell BK104.out 3).trans rfl⟩ (fun hHeld => ?_)
   clear hK K
   refine norm_ (a' := ?_) ?_ ?_
   rotate_left
   (focus
   show Act.put _ (some 62) _ = _
   simp only [Act.put, sA, sB, sC, i64_w, i32_w]
   rfl
   )
   refine pure_ (i := 14) (N := some 3) (v := ?_) (a' := ?_) #[true, true, true, true, true, true, true, true, true, true, true, true, true, true, true] rfl rfl (any_of HT_.out (by kernel_rfl)) (fun _ _ _ h => h) (Or.inl ⟨by rfl, ?_⟩) ?_ ?_
   rotate_left
   (focus
   intro w'
   go_simp
   with_reducible rfl
   )
   rotate_left
   (focus
   simp only [Act.put, sA, sB, sC, i64_w, i32_w]
   rfl
   )
   refine done_ (done_of HT_.out (by kernel_rfl)) ?_
   try go_wp2
   go_roundg k1
   case measure => have := HK1.out; omega
   case rel => exact ⟨(t115), (x4_1), (wrap64 (x30_1 + 1)), (by first | rfl | (simp; done) | (simp [*]; done)), H', ⟨by have := HK1.out; omega⟩, ⟨by (with_reducible repeat (first | apply Kd.R_alloc | apply Kd.R_drewN | apply Kd.R_drew)); exact HO117.out⟩, ⟨by (with_reducible repeat (first | apply Kd.R_alloc | apply Kd.R_drewN | apply Kd.R_drew)); exact HO_4.out⟩, ⟨by (with_reducible repeat (first | refine kN ?_ | refine kD ?_ | refine kA ?_)); exact BK104.out⟩, ⟨by repeat (first | (with_reducible first | exact HK.out | apply Kept.alloc | apply Kept.drewN | apply Kept.drew | refine Kept.setCell ?_ (.inr GW104.out) _) | exact HK.out)⟩, ⟨by repeat (first | (with_reducible first | exact HB.out | apply bA | apply bN | apply bD | refine bS ?_ ‹_›) | exact HB.out)⟩⟩
   )
   (focus
   rw [if_neg c28] at H
   exact absurd H (by simp)
   )
   )
   (focus
   replace c27 := Bool.eq_false_iff.mpr c27
   subst c27
   have H1 : (dfa_collect.l0 k1 l1 a2 x3_1 x4_1 a6 (rd_L1 l0_3 a5) ((rd_L1 l0_3 a5).length : Int) (wrap64 (x30_1 + 1)) a0_0 a0_1 l0_2 l0_3) = some (r1, r2) := by rw [if_neg (show ¬ (false = true) by decide)] at H; exact H
   clear H
   have H := H1
   clear H1
   have H' := Aside0.mk H
   clear H
   have p109 : 0 ≤ (x30_1 : Int) := of_decide_eq_true (by assumption)
   have q109 : x30_1 < ((rd_L1 l0_3 a5).length : Int) := of_decide_eq_true (by assumption)
   obtain ⟨ad109, e109, hx109_0⟩ := Kd.at_int (Kd.C_kept_now HR108_0.out HK.out) x30_1 p109 q109
   cases e109
   replace p109 := eq_true p109
   replace q109 := eq_true q109
   obtain ⟨Ao35, co35, eo35⟩ := Kd.R_slice HO_3.out
   subst eo35
   have p110 : 0 ≤ ((ji21) : Int) := of_decide_eq_true (by assumption)
   have q110 : (ji21) < (l1.length : Int) := of_decide_eq_true (by assumption)
   obtain ⟨ad110, A110_0, c110_0, e110, hx110_0, hl110_0, hi110_0⟩ := at_L3 (Kd.C_kept_now HR1.out HK.out) (ji21) p110 q110
   cases e110
   have HR110_0 := aM (inner_kept (fun W_ hK_ => at_L3 (HR1.out W_ hK_) (ji21) p110 q110) hx110_0 rfl (HK.out))
   have HC110_0 := Aside0.mk hl110_0
   clear hi110_0 hl110_0
   replace p110 := eq_true p110
   replace q110 := eq_true q110
   have p111 : 0 ≤ ((rd (rd_L1 l0_3 a5) x30_1) : Int) := of_decide_eq_true (by assumption)
   have q111 : (rd (rd_L1 l0_3 a5) x30_1) < ((rd_L3 l1 (ji21)).length : Int) := of_decide_eq_true (by assumption)
   obtain ⟨ad111, e111, hx111_0⟩ := Kd.at_bool (Kd.C_kept_now HR110_0.out HK.out) (rd (rd_L1 l0_3 a5) x30_1) p111 q111
   (try rw [← Nbq26.out] at hx111_0)
   cases e111
   replace p111 := eq_true p111
   replace q111 := eq_true q111
   go_wp2
   go_roundg k1
   case measure => have := HK1.out; omega
   case rel => exact ⟨(x3_1), (x4_1), (wrap64 (x30_1 + 1)), (by first | rfl | (simp; done) | (simp [*]; done)), H', ⟨by have := HK1.out; omega⟩, ⟨by (with_reducible repeat (first | apply Kd.R_alloc | apply Kd.R_drewN | apply Kd.R_drew)); exact HO_3.out⟩, ⟨by (with_reducible repeat (first | apply Kd.R_alloc | apply Kd.R_drewN | apply Kd.R_drew)); exact HO_4.out⟩, ⟨by (with_reducible repeat (first | refine kN ?_ | refine kD ?_ | refine kA ?_)); exact BK104.out⟩, ⟨by repeat (first | (with_reducible first | exact HK.out | apply Kept.alloc | apply Kept.drewN | apply Kept.drew | refine Kept.setCell ?_ (.inr GW104.out) _) | exact HK.out)⟩, ⟨by repeat (first | (with_reducible first | exact HB.out | apply bA | apply bN | apply bD | refine bS ?_ ‹_›) | exact HB.out)⟩⟩
   )
   )
   (focus
   rw [if_neg c25] at H
   exact absurd H (by simp)
   )
   )
   (focus
   rw [if_neg c24] at H
   exact absurd H (by simp)
   )
   )
   (focus
   rw [if_neg c23] at H
   exact absurd H (by simp)
   )
   )
   (focus
   rw [if_neg c22] at H
   exact absurd H (by simp)
   )
   )
   (focus
   rw [if_neg c20] at H
   have c20b0 : decide ((x3_1.length : Int) < a2) = false := decide_eq_false c20
   clear c20
   have H' := Aside0.mk H
   clear H
   have p109 : 0 ≤ (x30_1 : Int) := of_decide_eq_true (by assumption)
   have q109 : x30_1 < ((rd_L1 l0_3 a5).length : Int) := of_decide_eq_true (by assumption)
   obtain ⟨ad109, e109, hx109_0⟩ := Kd.at_int (Kd.C_kept_now HR108_0.out HK.out) x30_1 p109 q109
   cases e109
   replace p109 := eq_true p109
   replace q109 := eq_true q109
   obtain ⟨Ao36, co36, eo36⟩ := Kd.R_slice HO_3.out
   subst eo36
   go_wp2
   go_roundg k1
   case measure => have := HK1.out; omega
   case rel => exact ⟨(x3_1), (x4_1), (wrap64 (x30_1 + 1)), (by first | rfl | (simp; done) | (simp [*]; done)), H', ⟨by have := HK1.out; omega⟩, ⟨by (with_reducible repeat (first | apply Kd.R_alloc | apply Kd.R_drewN | apply Kd.R_drew)); exact HO_3.out⟩, ⟨by (with_reducible repeat (first | apply Kd.R_alloc | apply Kd.R_drewN | apply Kd.R_drew)); exact HO_4.out⟩, ⟨by (with_reducible repeat (first | refine kN ?_ | refine kD ?_ | refine kA ?_)); exact BK104.out⟩, ⟨by repeat (first | (with_reducible first | exact HK.out | apply Kept.alloc | apply Kept.drewN | apply Kept.drew | refine Kept.setCell ?_ (.inr GW104.out) _) | exact HK.out)⟩, ⟨by repeat (first | (with_reducible first | exact HB.out | apply bA | apply bN | apply bD | refine bS ?_ ‹_›) | exact HB.out)⟩⟩
   )
   )
   (focus
   rw [if_neg c19] at H
   exact absurd H (by simp)
   )
   )
   (focus
   rw [if_neg c18] at H
   exact absurd H (by simp)
   )
   )
   (focus
   rw [if_neg c17] at H
   have c17b0 : decide (x30_1 < ((rd_L1 l0_3 a5).length : Int)) = false := decide_eq_false c17
   clear c17
   simp only [Option.some.injEq, Prod.mk.injEq] at H
   obtain ⟨rfl, rfl⟩ := H
   go_wp2
   go_ret
   exact ⟨_, by first | rfl | (simp [errW_none, errW_some] <;> rfl) | (simp [*, errW_none, errW_some] <;> rfl), by (with_reducible repeat (first | apply Kd.R_alloc | apply Kd.R_drewN | apply Kd.R_drew)); exact HO_3.out, by (with_reducible repeat (first | apply Kd.R_alloc | apply Kd.R_drewN | apply Kd.R_drew)); exact HO_4.out, by repeat (first | (with_reducible first | exact HB.out | apply bA | apply bN | apply bD | refine bS ?_ ‹_›) | exact HB.out), by repeat (first | (with_reducible first | exact HK.out | apply Kept.alloc | apply Kept.drewN | apply Kept.drew | refine Kept.setCell ?_ (.inr GW104.out) _) | exact HK.out)⟩
   )
 )
 (focus
 rw [if_neg c14] at H
 exact absurd H (by simp)
 )
 )
 (focus
 rw [if_neg c13] at H
 exact absurd H (by simp)
 )
 )
end Go.Proofs.Ytpjbmgoagehjkaa.PDfaProducts
