import Derived.Test.YtpjbmgoagehjkaaZDfaReachesx0
import Derived.Test.YtpjbmgoagehjkaaZDfaReachesx4
import Derived.Test.YtpjbmgoagehjkaaZDfaReachesx5
import Derived.Test.YtpjbmgoagehjkaaZDfaReachesx6
import Derived.Test.YtpjbmgoagehjkaaZDfaReachesx8
import Derived.Test.YtpjbmgoagehjkaaZDfaReachesx9
namespace Go.Proofs.Ytpjbmgoagehjkaa.PDfaReaches
open Go.RowKit Go.Proofs.YtpjbmgoagehjkaaH Go.Proofs.YtpjbmgoagehjkaaW.PrintWords Go.Proofs.YtpjbmgoagehjkaaW.PrintLast Go.Proofs.YtpjbmgoagehjkaaW.PrintMore
attribute [local go_sem] max2_int min2_int max_two min_two max_three min_three max_four min_four   -- for this text's walks alone
set_option linter.unusedVariables false
set_option linter.unusedSimpArgs false
/-! ### semigrouplaw07_DfaReaches: function 11 -/
mutual
def semigrouplaw07_DfaReaches.j0 : Nat → ByteArray → List ByteArray → Bool → Int → Int → List Bool → List (List Int) → Option (Bool)
 | 0, _, _, _, _, _, _, _ => none
 | k + 1, x1, x5, x37, x297000, x297001, x297002, x297003 => if x37 = true then (some false) else (semigrouplaw07_DfaReaches.l0 k x1 x5 x5 (x5.length : Int) 0 x297000 x297001 x297002 x297003)
def semigrouplaw07_DfaReaches.l0 : Nat → ByteArray → List ByteArray → List ByteArray → Int → Int → Int → Int → List Bool → List (List Int) → Option (Bool)
 | 0, _, _, _, _, _, _, _, _, _ => none
 | k + 1, x1, x5, x38, x39, x40, x297000, x297001, x297002, x297003 => if x40 < x39 then (if 0 ≤ x40 then (if x40 < (x38.length : Int) then ((dfa_Run.f k x297000 x297001 x297002 x297003 0 (rdOf ByteArray.empty x38 x40)).bind fun t298 => (if t298 = x40 then (if x40 > 0 then (if 0 ≤ (wrap64 (x40 - 1)) then (if (wrap64 (x40 - 1)) < (x5.length : Int) then ((semigroupref01_Compare.f k (rdOf ByteArray.empty x5 (wrap64 (x40 - 1))) (rdOf ByteArray.empty x38 x40)).bind fun t300 => (if t300 ≥ 0 then (some false) else (semigrouplaw07_DfaReaches.l0 k x1 x5 x38 x39 (wrap64 (x40 + 1)) x297000 x297001 x297002 x297003))) else (none)) else (none)) else (semigrouplaw07_DfaReaches.l0 k x1 x5 x38 x39 (wrap64 (x40 + 1)) x297000 x297001 x297002 x297003)) else (some false))) else (none)) else (none)) else ((dfa_Run.f k x297000 x297001 x297002 x297003 0 x1).bind fun t301 => (if t301 ≥ 0 then (if t301 ≥ (x5.length : Int) then (semigrouplaw07_DfaReaches.j2 k true) else (if 0 ≤ t301 then (if t301 < (x5.length : Int) then ((semigroupref01_Compare.f k (rdOf ByteArray.empty x5 t301) x1).bind fun t303 => (semigrouplaw07_DfaReaches.j2 k (decide (t303 > 0)))) else (none)) else (none))) else (semigrouplaw07_DfaReaches.j2 k false)))
def semigrouplaw07_DfaReaches.j2 : Nat → Bool → Option (Bool)
 | 0, _ => none
 | k + 1, x84 => if x84 = true then (some false) else ((semigrouplaw07_awake.f k).bind fun t304 => (some t304))
end
def semigrouplaw07_DfaReaches.f (k : Nat) (a0_0 : Int) (a0_1 : Int) (l0_2 : List Bool) (l0_3 : List (List Int)) (a1 : ByteArray) : Option (Bool) := (dfa_Access.f k a0_0 a0_1 l0_2 l0_3).bind fun t280 => ((semigrouplaw07_valid.f k a0_0 a0_1 l0_2 l0_3).bind fun t283 => (if t283 = true then ((dfa_Trim.f k a0_0 a0_1 l0_2 l0_3).bind fun bt285 => (if (t280.length : Int) = (bt285.2.2.1.length : Int) then (semigrouplaw07_DfaReaches.j0 k a1 t280 (bt285.2.1 != 0) bt285.1 bt285.2.1 bt285.2.2.1 bt285.2.2.2.1) else (semigrouplaw07_DfaReaches.j0 k a1 t280 true bt285.1 bt285.2.1 bt285.2.2.1 bt285.2.2.2.1))) else (if (t280.length : Int) = 0 then ((semigrouplaw07_awake.f k).bind fun t284 => (some t284)) else (some false))))
theorem semigrouplaw07_DfaReaches.mono_l : ∀ k, (∀ y0 y1 y2 y3 y4 y5 y6, LeO (semigrouplaw07_DfaReaches.j0 k y0 y1 y2 y3 y4 y5 y6) (semigrouplaw07_DfaReaches.j0 (k + 1) y0 y1 y2 y3 y4 y5 y6)) ∧ (∀ y0 y1 y2 y3 y4 y5 y6 y7 y8, LeO (semigrouplaw07_DfaReaches.l0 k y0 y1 y2 y3 y4 y5 y6 y7 y8) (semigrouplaw07_DfaReaches.l0 (k + 1) y0 y1 y2 y3 y4 y5 y6 y7 y8)) ∧ (∀ y0, LeO (semigrouplaw07_DfaReaches.j2 k y0) (semigrouplaw07_DfaReaches.j2 (k + 1) y0))
 | 0 => ⟨fun _ _ _ _ _ _ _ r h => by simp [semigrouplaw07_DfaReaches.j0] at h, fun _ _ _ _ _ _ _ _ _ r h => by simp [semigrouplaw07_DfaReaches.l0] at h, fun _ r h => by simp [semigrouplaw07_DfaReaches.j2] at h⟩
 | k + 1 => by
  obtain ⟨ih0, ih1, ih2⟩ := semigrouplaw07_DfaReaches.mono_l k
  refine ⟨?_, ?_, ?_⟩
  (focus
  intro y0 y1 y2 y3 y4 y5 y6
  unfold semigrouplaw07_DfaReaches.j0
  repeat' first
  | (with_reducible exact ih0 _ _ _ _ _ _ _)
  | (with_reducible exact ih1 _ _ _ _ _ _ _ _ _)
  | (with_reducible exact ih2 _)
  | (with_reducible exact dfa_Access.mono _ _ _ _ _)
  | (with_reducible exact dfa_Run.mono _ _ _ _ _ _ _)
  | (with_reducible exact dfa_Trim.mono _ _ _ _ _)
  | (with_reducible exact semigrouplaw07_awake.mono _)
  | (with_reducible exact semigrouplaw07_valid.mono _ _ _ _ _)
  | (with_reducible exact semigroupref01_Compare.mono _ _ _)
  | (with_reducible exact LeO.refl _)
  | (with_reducible exact LeO.none _)
  | (with_reducible refine LeO.ite ?_ ?_)
  | (with_reducible refine LeO.bind ?_ (fun _ => ?_))
  | exact ih0 _ _ _ _ _ _ _
  | exact ih1 _ _ _ _ _ _ _ _ _
  | exact ih2 _
  | exact dfa_Access.mono _ _ _ _ _
  | exact dfa_Run.mono _ _ _ _ _ _ _
  | exact dfa_Trim.mono _ _ _ _ _
  | exact semigrouplaw07_awake.mono _
  | exact semigrouplaw07_valid.mono _ _ _ _ _
  | exact semigroupref01_Compare.mono _ _ _
  | exact LeO.none _
  | refine LeO.ite ?_ ?_
  | refine LeO.bind ?_ (fun _ => ?_)
  )
  (focus
  intro y0 y1 y2 y3 y4 y5 y6 y7 y8
  unfold semigrouplaw07_DfaReaches.l0
  repeat' first
  | (with_reducible exact ih0 _ _ _ _ _ _ _)
  | (with_reducible exact ih1 _ _ _ _ _ _ _ _ _)
  | (with_reducible exact ih2 _)
  | (with_reducible exact dfa_Access.mono _ _ _ _ _)
  | (with_reducible exact dfa_Run.mono _ _ _ _ _ _ _)
  | (with_reducible exact dfa_Trim.mono _ _ _ _ _)
  | (with_reducible exact semigrouplaw07_awake.mono _)
  | (with_reducible exact semigrouplaw07_valid.mono _ _ _ _ _)
  | (with_reducible exact semigroupref01_Compare.mono _ _ _)
  | (with_reducible exact LeO.refl _)
  | (with_reducible exact LeO.none _)
  | (with_reducible refine LeO.ite ?_ ?_)
  | (with_reducible refine LeO.bind ?_ (fun _ => ?_))
  | exact ih0 _ _ _ _ _ _ _
  | exact ih1 _ _ _ _ _ _ _ _ _
  | exact ih2 _
  | exact dfa_Access.mono _ _ _ _ _
  | exact dfa_Run.mono _ _ _ _ _ _ _
  | exact dfa_Trim.mono _ _ _ _ _
  | exact semigrouplaw07_awake.mono _
  | exact semigrouplaw07_valid.mono _ _ _ _ _
  | exact semigroupref01_Compare.mono _ _ _
  | exact LeO.none _
  | refine LeO.ite ?_ ?_
  | refine LeO.bind ?_ (fun _ => ?_)
  )
  (focus
  intro y0
  unfold semigrouplaw07_DfaReaches.j2
  repeat' first
  | (with_reducible exact ih0 _ _ _ _ _ _ _)
  | (with_reducible exact ih1 _ _ _ _ _ _ _ _ _)
  | (with_reducible exact ih2 _)
  | (with_reducible exact dfa_Access.mono _ _ _ _ _)
  | (with_reducible exact dfa_Run.mono _ _ _ _ _ _ _)
  | (with_reducible exact dfa_Trim.mono _ _ _ _ _)
  | (with_reducible exact semigrouplaw07_awake.mono _)
  | (with_reducible exact semigrouplaw07_valid.mono _ _ _ _ _)
  | (with_reducible exact semigroupref01_Compare.mono _ _ _)
  | (with_reducible exact LeO.refl _)
  | (with_reducible exact LeO.none _)
  | (with_reducible refine LeO.ite ?_ ?_)
  | (with_reducible refine LeO.bind ?_ (fun _ => ?_))
  | exact ih0 _ _ _ _ _ _ _
  | exact ih1 _ _ _ _ _ _ _ _ _
  | exact ih2 _
  | exact dfa_Access.mono _ _ _ _ _
  | exact dfa_Run.mono _ _ _ _ _ _ _
  | exact dfa_Trim.mono _ _ _ _ _
  | exact semigrouplaw07_awake.mono _
  | exact semigrouplaw07_valid.mono _ _ _ _ _
  | exact semigroupref01_Compare.mono _ _ _
  | exact LeO.none _
  | refine LeO.ite ?_ ?_
  | refine LeO.bind ?_ (fun _ => ?_)
  )
theorem semigrouplaw07_DfaReaches.mono : ∀ a0 a1 a2 a3 a4 k, LeO (semigrouplaw07_DfaReaches.f k a0 a1 a2 a3 a4) (semigrouplaw07_DfaReaches.f (k + 1) a0 a1 a2 a3 a4) := by
 intro a0 a1 a2 a3 a4 k
 obtain ⟨ih0, ih1, ih2⟩ := semigrouplaw07_DfaReaches.mono_l k
 unfold semigrouplaw07_DfaReaches.f
 repeat' first
  | (with_reducible exact ih0 _ _ _ _ _ _ _)
  | (with_reducible exact ih1 _ _ _ _ _ _ _ _ _)
  | (with_reducible exact ih2 _)
  | (with_reducible exact dfa_Access.mono _ _ _ _ _)
  | (with_reducible exact dfa_Run.mono _ _ _ _ _ _ _)
  | (with_reducible exact dfa_Trim.mono _ _ _ _ _)
  | (with_reducible exact semigrouplaw07_awake.mono _)
  | (with_reducible exact semigrouplaw07_valid.mono _ _ _ _ _)
  | (with_reducible exact semigroupref01_Compare.mono _ _ _)
  | (with_reducible exact LeO.refl _)
  | (with_reducible exact LeO.none _)
  | (with_reducible refine LeO.ite ?_ ?_)
  | (with_reducible refine LeO.bind ?_ (fun _ => ?_))
  | exact ih0 _ _ _ _ _ _ _
  | exact ih1 _ _ _ _ _ _ _ _ _
  | exact ih2 _
  | exact dfa_Access.mono _ _ _ _ _
  | exact dfa_Run.mono _ _ _ _ _ _ _
  | exact dfa_Trim.mono _ _ _ _ _
  | exact semigrouplaw07_awake.mono _
  | exact semigrouplaw07_valid.mono _ _ _ _ _
  | exact semigroupref01_Compare.mono _ _ _
  | exact LeO.none _
  | refine LeO.ite ?_ ?_
  | refine LeO.bind ?_ (fun _ => ?_)
set_option maxHeartbeats 8000000 in
set_option maxRecDepth 100000 in
theorem semigrouplaw07_DfaReaches.calls (k : Nat) (a0_0 : Int) (a0_1 : Int) (A0_2 : Option Addr) (c0_2 : Nat) (l0_2 : List Bool) (A0_3 : Option Addr) (c0_3 : Nat) (l0_3 : List (List Int)) (a1 : ByteArray) (r : Bool) (w : World) (hr0_2 : Kd.C Kd.bool w A0_2 l0_2.length l0_2) (hc0_2 : l0_2.length ≤ c0_2) (hr0_3 : Kd.C (Kd.slice 3 (Kd.int .i64)) w A0_3 l0_3.length l0_3) (hc0_3 : l0_3.length ≤ c0_3) (h : semigrouplaw07_DfaReaches.f k a0_0 a0_1 l0_2 l0_3 a1 = some r) :
 Calls Try.prog 11 #[.agg #[.int .i64 a0_0, .int .i64 a0_1, .slice A0_2 l0_2.length c0_2, .slice A0_3 l0_3.length c0_3], .string a1] w fun e w' => e = .returned (.bool r) ∧ Below w.heap.size w w' := by
 have hu25 := Try.underlying25
 have HR0_2 := Aside0.mk hr0_2
 have HC0_2 := Aside0.mk hc0_2
 clear hr0_2 hc0_2
 have HR0_3 := Aside0.mk hr0_3
 have HC0_3 := Aside0.mk hc0_3
 clear hr0_3 hc0_3
 have HB := Aside0.mk (Below.refl w.heap.size w)
 have H : ((dfa_Access.f k a0_0 a0_1 l0_2 l0_3).bind fun t280 => ((semigrouplaw07_valid.f k a0_0 a0_1 l0_2 l0_3).bind fun t283 => (if t283 = true then ((dfa_Trim.f k a0_0 a0_1 l0_2 l0_3).bind fun bt285 => (if (t280.length : Int) = (bt285.2.2.1.length : Int) then (semigrouplaw07_DfaReaches.j0 k a1 t280 (bt285.2.1 != 0) bt285.1 bt285.2.1 bt285.2.2.1 bt285.2.2.2.1) else (semigrouplaw07_DfaReaches.j0 k a1 t280 true bt285.1 bt285.2.1 bt285.2.2.1 bt285.2.2.2.1))) else (if (t280.length : Int) = 0 then ((semigrouplaw07_awake.f k).bind fun t284 => (some t284)) else (some false))))) = some r := h
 clear h
 replace H := Option.bind_eq_some_iff.mp H
 obtain ⟨t280, A30, H⟩ := H
 replace H : ((semigrouplaw07_valid.f k a0_0 a0_1 l0_2 l0_3).bind fun t283 => (if t283 = true then ((dfa_Trim.f k a0_0 a0_1 l0_2 l0_3).bind fun bt285 => (if (t280.length : Int) = (bt285.2.2.1.length : Int) then (semigrouplaw07_DfaReaches.j0 k a1 t280 (bt285.2.1 != 0) bt285.1 bt285.2.1 bt285.2.2.1 bt285.2.2.2.1) else (semigrouplaw07_DfaReaches.j0 k a1 t280 true bt285.1 bt285.2.1 bt285.2.2.1 bt285.2.2.2.1))) else (if (t280.length : Int) = 0 then ((semigrouplaw07_awake.f k).bind fun t284 => (some t284)) else (some false)))) = some r := H
 have A3 := Aside0.mk A30
 clear A30
 replace H := Option.bind_eq_some_iff.mp H
 obtain ⟨t283, A40, H⟩ := H
 replace H : (if t283 = true then ((dfa_Trim.f k a0_0 a0_1 l0_2 l0_3).bind fun bt285 => (if (t280.length : Int) = (bt285.2.2.1.length : Int) then (semigrouplaw07_DfaReaches.j0 k a1 t280 (bt285.2.1 != 0) bt285.1 bt285.2.1 bt285.2.2.1 bt285.2.2.2.1) else (semigrouplaw07_DfaReaches.j0 k a1 t280 true bt285.1 bt285.2.1 bt285.2.2.1 bt285.2.2.2.1))) else (if (t280.length : Int) = 0 then ((semigrouplaw07_awake.f k).bind fun t284 => (some t284)) else (some false))) = some r := H
 have A4 := Aside0.mk A40
 clear A40
 by_cases c5 : t283 = true
 (focus
 subst c5
 have H1 : ((dfa_Trim.f k a0_0 a0_1 l0_2 l0_3).bind fun bt285 => (if (t280.length : Int) = (bt285.2.2.1.length : Int) then (semigrouplaw07_DfaReaches.j0 k a1 t280 (bt285.2.1 != 0) bt285.1 bt285.2.1 bt285.2.2.1 bt285.2.2.2.1) else (semigrouplaw07_DfaReaches.j0 k a1 t280 true bt285.1 bt285.2.1 bt285.2.2.1 bt285.2.2.2.1))) = some r := by rw [if_pos rfl] at H; exact H
 clear H
 have H := H1
 clear H1
 replace H := Option.bind_eq_some_iff.mp H
 obtain ⟨⟨t285, t286, t287, t290, t293⟩, A60, H⟩ := H
 replace H : (if (t280.length : Int) = (t287.length : Int) then (semigrouplaw07_DfaReaches.j0 k a1 t280 (t286 != 0) t285 t286 t287 t290) else (semigrouplaw07_DfaReaches.j0 k a1 t280 true t285 t286 t287 t290)) = some r := H
 have A6 := Aside0.mk A60
 clear A60
 have HC7 := Aside0.mk H
 clear H
 go_enter Try.func11, Try.ntmps11
 go_upto_region 5 with (first | ((with_reducible refine gate_dst (N := 2) rfl ?_); (try (refine gate_guard (by rfl) ?_; dsimp only)); refine box_event ?hg (N := 2) ?hd (cs := #[.int .i64 a0_0, .int .i64 a0_1, .slice A0_2 l0_2.length c0_2, .slice A0_3 l0_3.length c0_3]) (t := 25) ?hr ?_; (case hd => rfl); (case hg => rfl); (case hr => first | (go_simp; done) | (go_simp; rfl)); intro gb279 hg w8 hbox hb; have n0_ := Aside0.mk (below_step (by repeat (first | (with_reducible first | exact HB.out | apply below_alloc | apply pw_below_drewN | apply below_drew1) | exact HB.out)) hb); have n1_ := Aside0.mk (hbox); have n2_ := Aside0.mk ((by rw [hg]; exact (below_size (by repeat (first | (with_reducible first | exact HB.out | apply below_alloc | apply pw_below_drewN | apply below_drew1) | exact HB.out))) : w.heap.size ≤ gb279)); have n3_ := Aside0.mk ((by rw [hg]; exact (below_size (by repeat (first | (with_reducible first | exact HB.out | apply below_alloc | apply pw_below_drewN | apply below_drew1) | exact HB.out))) : w.heap.size ≤ gb279)); clear HB; have HB := n0_; have BK279 := n1_; have GW279 := n2_; have GE279 := n3_; clear n0_ n1_ n2_ n3_; clear hb hbox hg; have hcz9_0 : w8.cell? ⟨gb279, 0, none⟩ = some (.int .i64 a0_0) := (blk_cell BK279.out 0).trans rfl; have hcz9_1 : w8.cell? ⟨gb279, 1, none⟩ = some (.int .i64 a0_1) := (blk_cell BK279.out 1).trans rfl; have hcz9_2 : w8.cell? ⟨gb279, 2, none⟩ = some (.slice A0_2 l0_2.length c0_2) := (blk_cell BK279.out 2).trans rfl; have hcz9_3 : w8.cell? ⟨gb279, 3, none⟩ = some (.slice A0_3 l0_3.length c0_3) := (blk_cell BK279.out 3).trans rfl; have hfz9_0 := blk_frozen BK279.out 0; have hfz9_1 := blk_frozen BK279.out 1; have hfz9_2 := blk_frozen BK279.out 2; have hfz9_3 := blk_frozen BK279.out 3) | ((with_reducible refine gate_callee (f := 37) rfl ?_); refine goesL_ (some 12) rfl rfl Try.func37 (by kernel_rfl) rfl #[.agg #[.int .i64 a0_0, .int .i64 a0_1, .slice A0_2 l0_2.length c0_2, .slice A0_3 l0_3.length c0_3]] rfl (by (try simp only [List.map_toArray, List.map_cons, List.map_nil]); first | done | rfl | (simp only [List.length_drop, List.length_take]; rfl)) ?_; (with_reducible refine (dfa_Access.calls k a0_0 a0_1 _ _ l0_2 _ _ l0_3 t280 _ ?side1 ?side2 ?side3 ?side4 A3.out).mono ?_); (case side1 => repeat (first | exact (Kd.C_below HR0_2.out HB.out) | (with_reducible refine Kd.C_alloc ?_ _) | (with_reducible refine Kd.C_drewN ?_ _) | (with_reducible refine Kd.C_drew ?_))); (case side2 => exact HC0_2.out); (case side3 => repeat (first | exact (Kd.C_below HR0_3.out HB.out) | (with_reducible refine Kd.C_alloc ?_ _) | (with_reducible refine Kd.C_drewN ?_ _) | (with_reducible refine Kd.C_drew ?_))); (case side4 => exact HC0_3.out); rintro e w10 ⟨v281, rfl, ho0, hb⟩; refine ⟨_, rfl, ?_⟩; have n0_ := Aside0.mk (Kd.R_lower ho0 (below_size (by repeat (first | (with_reducible first | exact HB.out | apply below_alloc | apply pw_below_drewN | apply below_drew1 | refine below_set ?_ GE279.out) | exact HB.out)))); have n1_ := Aside0.mk (blk_below (g := gb279) (o := .cells #[.int .i64 a0_0, .int .i64 a0_1, .slice A0_2 l0_2.length c0_2, .slice A0_3 l0_3.length c0_3] 25 (0, 0)) (uB BK279.out) hb); have n2_ := Aside0.mk (below_step (by repeat (first | (with_reducible first | exact HB.out | apply below_alloc | apply pw_below_drewN | apply below_drew1 | refine below_set ?_ GE279.out) | exact HB.out)) hb); clear BK279; clear HB; have HO282 := n0_; have BK279 := n1_; have HB := n2_; clear n0_ n1_ n2_; (try clear hb); (try clear hb2); (try clear hk); (try clear hi); (try clear ho0); have hcz11_0 : w10.cell? ⟨gb279, 0, none⟩ = some (.int .i64 a0_0) := (blk_cell BK279.out 0).trans rfl; have hcz11_1 : w10.cell? ⟨gb279, 1, none⟩ = some (.int .i64 a0_1) := (blk_cell BK279.out 1).trans rfl; have hcz11_2 : w10.cell? ⟨gb279, 2, none⟩ = some (.slice A0_2 l0_2.length c0_2) := (blk_cell BK279.out 2).trans rfl; have hcz11_3 : w10.cell? ⟨gb279, 3, none⟩ = some (.slice A0_3 l0_3.length c0_3) := (blk_cell BK279.out 3).trans rfl; have hfz11_0 := blk_frozen BK279.out 0; have hfz11_1 := blk_frozen BK279.out 1; have hfz11_2 := blk_frozen BK279.out 2; have hfz11_3 := blk_frozen BK279.out 3) | ((with_reducible refine gate_callee (f := 17) rfl ?_); refine goesL_ (some 14) rfl rfl Try.func17 (by kernel_rfl) rfl #[.agg #[.int .i64 a0_0, .int .i64 a0_1, .slice A0_2 l0_2.length c0_2, .slice A0_3 l0_3.length c0_3]] rfl (by (try simp only [List.map_toArray, List.map_cons, List.map_nil]); first | done | rfl | (simp only [List.length_drop, List.length_take]; rfl)) ?_; (with_reducible refine (semigrouplaw07_valid.calls k a0_0 a0_1 _ _ l0_2 _ _ l0_3 true _ ?side1 ?side2 ?side3 ?side4 A4.out).mono ?_); (case side1 => repeat (first | exact (Kd.C_below HR0_2.out HB.out) | (with_reducible refine Kd.C_alloc ?_ _) | (with_reducible refine Kd.C_drewN ?_ _) | (with_reducible refine Kd.C_drew ?_))); (case side2 => exact HC0_2.out); (case side3 => repeat (first | exact (Kd.C_below HR0_3.out HB.out) | (with_reducible refine Kd.C_alloc ?_ _) | (with_reducible refine Kd.C_drewN ?_ _) | (with_reducible refine Kd.C_drew ?_))); (case side4 => exact HC0_3.out); rintro e w12 ⟨rfl, hb⟩; refine ⟨_, rfl, ?_⟩; have n0_ := Aside0.mk (Kd.R_below (uR HO282.out) hb); have n1_ := Aside0.mk (blk_below (g := gb279) (o := .cells #[.int .i64 a0_0, .int .i64 a0_1, .slice A0_2 l0_2.length c0_2, .slice A0_3 l0_3.length c0_3] 25 (0, 0)) (uB BK279.out) hb); have n2_ := Aside0.mk (below_step (by repeat (first | (with_reducible first | exact HB.out | apply below_alloc | apply pw_below_drewN | apply below_drew1 | refine below_set ?_ GE279.out) | exact HB.out)) hb); clear HO282; clear BK279; clear HB; have HO282 := n0_; have BK279 := n1_; have HB := n2_; clear n0_ n1_ n2_; (try clear hb); (try clear hb2); (try clear hk); (try clear hi); have hcz13_0 : w12.cell? ⟨gb279, 0, none⟩ = some (.int .i64 a0_0) := (blk_cell BK279.out 0).trans rfl; have hcz13_1 : w12.cell? ⟨gb279, 1, none⟩ = some (.int .i64 a0_1) := (blk_cell BK279.out 1).trans rfl; have hcz13_2 : w12.cell? ⟨gb279, 2, none⟩ = some (.slice A0_2 l0_2.length c0_2) := (blk_cell BK279.out 2).trans rfl; have hcz13_3 : w12.cell? ⟨gb279, 3, none⟩ = some (.slice A0_3 l0_3.length c0_3) := (blk_cell BK279.out 3).trans rfl; have hfz13_0 := blk_frozen BK279.out 0; have hfz13_1 := blk_frozen BK279.out 1; have hfz13_2 := blk_frozen BK279.out 2; have hfz13_3 := blk_frozen BK279.out 3) | ((with_reducible refine gate_callee (f := 27) rfl ?_); refine goesL_ (some 24) rfl rfl Try.func27 (by kernel_rfl) rfl #[.agg #[.int .i64 a0_0, .int .i64 a0_1, .slice A0_2 l0_2.length c0_2, .slice A0_3 l0_3.length c0_3]] rfl (by (try simp only [List.map_toArray, List.map_cons, List.map_nil]); first | done | rfl | (simp only [List.length_drop, List.length_take]; rfl)) ?_; (with_reducible refine (dfa_Trim.calls k a0_0 a0_1 _ _ l0_2 _ _ l0_3 t285 t286 t287 t290 t293 _ ?side1 ?side2 ?side3 ?side4 A6.out).mono ?_); (case side1 => repeat (first | exact (Kd.C_below HR0_2.out HB.out) | (with_reducible refine Kd.C_alloc ?_ _) | (with_reducible refine Kd.C_drewN ?_ _) | (with_reducible refine Kd.C_drew ?_))); (case side2 => exact HC0_2.out); (case side3 => repeat (first | exact (Kd.C_below HR0_3.out HB.out) | (with_reducible refine Kd.C_alloc ?_ _) | (with_reducible refine Kd.C_drewN ?_ _) | (with_reducible refine Kd.C_drew ?_))); (case side4 => exact HC0_3.out); rintro e w14 ⟨v288, v291, v294, rfl, ho0, ho1, ho2, hb⟩; refine ⟨_, rfl, ?_⟩; have n0_ := Aside0.mk (Kd.R_below (uR HO282.out) hb); have n1_ := Aside0.mk (Kd.R_lower ho0 (below_size (by repeat (first | (with_reducible first | exact HB.out | apply below_alloc | apply pw_below_drewN | apply below_drew1 | refine below_set ?_ GE279.out) | exact HB.out)))); have n2_ := Aside0.mk (Kd.S_lower ho1 (below_size (by repeat (first | (with_reducible first | exact HB.out | apply below_alloc | apply pw_below_drewN | apply below_drew1 | refine below_set ?_ GE279.out) | exact HB.out)))); have n3_ := Aside0.mk (Kd.R_lower ho2 (below_size (by repeat (first | (with_reducible first | exact HB.out | apply below_alloc | apply pw_below_drewN | apply below_drew1 | refine below_set ?_ GE279.out) | exact HB.out)))); have n4_ := Aside0.mk (blk_below (g := gb279) (o := .cells #[.int .i64 a0_0, .int .i64 a0_1, .slice A0_2 l0_2.length c0_2, .slice A0_3 l0_3.length c0_3] 25 (0, 0)) (uB BK279.out) hb); have n5_ := Aside0.mk (below_step (by repeat (first | (with_reducible first | exact HB.out | apply below_alloc | apply pw_below_drewN | apply below_drew1 | refine below_set ?_ GE279.out) | exact HB.out)) hb); clear HO282; clear BK279; clear HB; have HO282 := n0_; have HO289 := n1_; have HO292 := n2_; have HO295 := n3_; have BK279 := n4_; have HB := n5_; clear n0_ n1_ n2_ n3_ n4_ n5_; (try clear hb); (try clear hb2); (try clear hk); (try clear hi); (try clear ho0); (try clear ho1); (try clear ho2)) | ((with_reducible refine gate_dst (N := 6) rfl ?_); (try (refine gate_guard (by rfl) ?_; dsimp only)); refine box_event ?hg (N := 6) ?hd (cs := #[.int .i64 0, .int .i64 0, .slice none 0 0, .slice none 0 0]) (t := 25) ?hr ?_; (case hd => rfl); (case hg => rfl); (case hr => first | (go_simp; done) | (go_simp; rfl)); intro gb296 hg w15 hbox hb; have n0_ := Aside0.mk (Kd.R_below (uR HO282.out) hb); have n1_ := Aside0.mk (Kd.R_below (uR HO289.out) hb); have n2_ := Aside0.mk (Kd.S_below (by (with_reducible repeat (first | apply Kd.S_alloc | apply Kd.S_drewN | apply Kd.S_drew)); exact HO292.out) hb); have n3_ := Aside0.mk (Kd.R_below (uR HO295.out) hb); have n4_ := Aside0.mk (blk_below (g := gb279) (o := .cells #[.int .i64 a0_0, .int .i64 a0_1, .slice A0_2 l0_2.length c0_2, .slice A0_3 l0_3.length c0_3] 25 (0, 0)) (uB BK279.out) hb); have n5_ := Aside0.mk (below_step (by repeat (first | (with_reducible first | exact HB.out | apply below_alloc | apply pw_below_drewN | apply below_drew1 | refine below_set ?_ GE279.out) | exact HB.out)) hb); have n6_ := Aside0.mk (hbox); have n7_ := Aside0.mk ((by rw [hg]; exact (below_size (by repeat (first | (with_reducible first | exact HB.out | apply below_alloc | apply pw_below_drewN | apply below_drew1 | refine below_set ?_ GE279.out) | exact HB.out))) : w.heap.size ≤ gb296)); have n8_ := Aside0.mk ((by rw [hg]; exact (below_size (by repeat (first | (with_reducible first | exact HB.out | apply below_alloc | apply pw_below_drewN | apply below_drew1 | refine below_set ?_ GE279.out) | exact HB.out))) : w.heap.size ≤ gb296)); have n9_ := Aside0.mk ((by rw [hg]; exact Nat.ne_of_lt (blk_lt (g := gb279) (o := .cells #[.int .i64 a0_0, .int .i64 a0_1, .slice A0_2 l0_2.length c0_2, .slice A0_3 l0_3.length c0_3] 25 (0, 0)) (uB BK279.out)) : gb279 ≠ gb296)); have n10_ := Aside0.mk ((by rw [hg]; exact Nat.ne_of_gt (blk_lt (g := gb279) (o := .cells #[.int .i64 a0_0, .int .i64 a0_1, .slice A0_2 l0_2.length c0_2, .slice A0_3 l0_3.length c0_3] 25 (0, 0)) (uB BK279.out)) : gb296 ≠ gb279)); clear HO282; clear HO289; clear HO292; clear HO295; clear BK279; clear HB; have HO282 := n0_; have HO289 := n1_; have HO292 := n2_; have HO295 := n3_; have BK279 := n4_; have HB := n5_; have BK296 := n6_; have GW296 := n7_; have GE296 := n8_; have NB279_296 := n9_; have NB296_279 := n10_; clear n0_ n1_ n2_ n3_ n4_ n5_ n6_ n7_ n8_ n9_ n10_; clear hb hbox hg; have hnb16 := NB296_279.out; have hnc16 := NB279_296.out; have hcz17_0 : w15.cell? ⟨gb296, 0, none⟩ = some (.int .i64 0) := (blk_cell BK296.out 0).trans rfl; have hcz17_1 : w15.cell? ⟨gb296, 1, none⟩ = some (.int .i64 0) := (blk_cell BK296.out 1).trans rfl; have hcz17_2 : w15.cell? ⟨gb296, 2, none⟩ = some (.slice none 0 0) := (blk_cell BK296.out 2).trans rfl; have hcz17_3 : w15.cell? ⟨gb296, 3, none⟩ = some (.slice none 0 0) := (blk_cell BK296.out 3).trans rfl; have hfz17_0 := blk_frozen BK296.out 0; have hfz17_1 := blk_frozen BK296.out 1; have hfz17_2 := blk_frozen BK296.out 2; have hfz17_3 := blk_frozen BK296.out 3; obtain ⟨Ao18, co18, eo18⟩ := Kd.R_slice HO289.out; subst eo18; obtain ⟨Ao19, co19, eo19⟩ := Kd.S_slice HO292.out; subst eo19))
 (try simp only [Act.put, List.setIfInBounds_toArray, List.set_cons_zero, List.set_cons_succ])
 go_cut [37] (fun v37 wc => ∃ (kq : Nat) (x37_6 : Bool), v37 = .bool x37_6 ∧ Aside0 (semigrouplaw07_DfaReaches.j0 kq a1 t280 x37_6 t285 t286 t287 t290 = some r) ∧ Aside0 (kq ≤ k) ∧ Aside0 (Kd.R Kd.string 9 wc w.heap.size (fun _ => True) v281 t280) ∧ Aside0 (Kd.R Kd.bool 4 wc w.heap.size (fun _ => True) (.slice Ao18 t287.length co18) t287) ∧ Aside0 (Kd.S (Kd.slice 3 (Kd.int .i64)) 38 wc w.heap.size (fun _ => True) (.slice Ao19 t290.length co19) t290) ∧ Aside0 (wc.heap[gb279]? = some (.cells #[.int .i64 a0_0, .int .i64 a0_1, (.slice A0_2 l0_2.length c0_2), (.slice A0_3 l0_3.length c0_3)] 25 (0, 0))) ∧ Aside0 (wc.heap[gb296]? = some (.cells #[.int .i64 t285, .int .i64 t286, (.slice Ao18 t287.length co18), (.slice Ao19 t290.length co19)] 25 (0, 0))) ∧ Aside0 (Below w.heap.size w wc))
 case first =>
  have H := HC7.out
  clear HC7
  by_cases c20 : (t280.length : Int) = (t287.length : Int)
  (focus
  rw [if_pos c20] at H
  have c20b0 : ((t280.length : Int) == (t287.length : Int)) = true := beq_iff_eq.mpr c20
  have c20b1 : ((t280.length : Int) != (t287.length : Int)) = false := bne_eq_false_iff_eq.mpr c20
  have c20b2 : (t280.length == t287.length) = true := by first | simpa using c20 | (simp at c20 ⊢; omega)
  clear c20
  (first | rw [c20b0] | (simp only [i64_w, i32_w]; rw [c20b0]) | skip)
  have H' := Aside0.mk H
  clear H
  obtain ⟨Ao21, co21, eo21⟩ := Kd.R_slice HO282.out
  subst eo21
  have hnb22 := NB296_279.out
  have hnc22 := NB279_296.out
  have hcz23_0 : w15.cell? ⟨gb296, 0, none⟩ = some (.int .i64 0) := (blk_cell BK296.out 0).trans rfl
  have hcz23_1 : w15.cell? ⟨gb296, 1, none⟩ = some (.int .i64 0) := (blk_cell BK296.out 1).trans rfl
  have hcz23_2 : w15.cell? ⟨gb296, 2, none⟩ = some (.slice none 0 0) := (blk_cell BK296.out 2).trans rfl
  have hcz23_3 : w15.cell? ⟨gb296, 3, none⟩ = some (.slice none 0 0) := (blk_cell BK296.out 3).trans rfl
  have hfz23_0 := blk_frozen BK296.out 0
  have hfz23_1 := blk_frozen BK296.out 1
  have hfz23_2 := blk_frozen BK296.out 2
  have hfz23_3 := blk_frozen BK296.out 3
  go_wp2
  go_meet
  case rel => exact ⟨_, ((t286 != 0)), (by first | rfl | (simp; done) | (simp [*]; done)), H', ⟨by first | omega | exact Nat.le_refl _⟩, ⟨by (with_reducible repeat (first | apply Kd.R_alloc | apply Kd.R_drewN | apply Kd.R_drew)); exact Kd.R_mono (Kd.R_far (p := ⟨gb296, 3, none⟩) (Kd.R_far (p := ⟨gb296, 2, none⟩) (Kd.R_far (p := ⟨gb296, 1, none⟩) (Kd.R_far (p := ⟨gb296, 0, none⟩) (Kd.R_types HO282.out BK296.out (by decide)) (fun _ hk => hk.2) (.int .i64 t285)) (fun _ hk => hk.2) (.int .i64 t286)) (fun _ hk => hk.2) (.slice Ao18 t287.length co18)) (fun _ hk => hk.2) (.slice Ao19 t290.length co19)) (fun _ hk => trivial)⟩, ⟨by (with_reducible repeat (first | apply Kd.R_alloc | apply Kd.R_drewN | apply Kd.R_drew)); exact Kd.R_mono (Kd.R_far (p := ⟨gb296, 3, none⟩) (Kd.R_far (p := ⟨gb296, 2, none⟩) (Kd.R_far (p := ⟨gb296, 1, none⟩) (Kd.R_far (p := ⟨gb296, 0, none⟩) (Kd.R_types HO289.out BK296.out (by decide)) (fun _ hk => hk.2) (.int .i64 t285)) (fun _ hk => hk.2) (.int .i64 t286)) (fun _ hk => hk.2) (.slice Ao18 t287.length co18)) (fun _ hk => hk.2) (.slice Ao19 t290.length co19)) (fun _ hk => trivial)⟩, ⟨by (with_reducible repeat (first | apply Kd.S_alloc | apply Kd.S_drewN | apply Kd.S_drew)); exact Kd.S_mono (Kd.S_far (p := ⟨gb296, 3, none⟩) (Kd.S_far (p := ⟨gb296, 2, none⟩) (Kd.S_far (p := ⟨gb296, 1, none⟩) (Kd.S_far (p := ⟨gb296, 0, none⟩) (Kd.S_types HO292.out BK296.out (by decide)) (fun _ hk => hk.2) (.int .i64 t285)) (fun _ hk => hk.2) (.int .i64 t286)) (fun _ hk => hk.2) (.slice Ao18 t287.length co18)) (fun _ hk => hk.2) (.slice Ao19 t290.length co19)) (fun _ hk => trivial)⟩, ⟨by (with_reducible repeat (first | refine blk_drewN ?_ _ | refine blk_drew ?_ | refine blk_alloc ?_ _)); refine blk_far ?_ NB279_296.out _; (with_reducible repeat (first | refine blk_drewN ?_ _ | refine blk_drew ?_ | refine blk_alloc ?_ _)); refine blk_far ?_ NB279_296.out _; (with_reducible repeat (first | refine blk_drewN ?_ _ | refine blk_drew ?_ | refine blk_alloc ?_ _)); refine blk_far ?_ NB279_296.out _; (with_reducible repeat (first | refine blk_drewN ?_ _ | refine blk_drew ?_ | refine blk_alloc ?_ _)); refine blk_far ?_ NB279_296.out _; (with_reducible repeat (first | refine blk_drewN ?_ _ | refine blk_drew ?_ | refine blk_alloc ?_ _)); exact BK279.out⟩, ⟨by (with_reducible repeat (first | refine blk_drewN ?_ _ | refine blk_drew ?_ | refine blk_alloc ?_ _)); refine blk_put (cs := #[.int .i64 t285, .int .i64 t286, .slice Ao18 t287.length co18, .slice none 0 0]) ?_ 3 _ rfl; (with_reducible repeat (first | refine blk_drewN ?_ _ | refine blk_drew ?_ | refine blk_alloc ?_ _)); refine blk_put (cs := #[.int .i64 t285, .int .i64 t286, .slice none 0 0, .slice none 0 0]) ?_ 2 _ rfl; (with_reducible repeat (first | refine blk_drewN ?_ _ | refine blk_drew ?_ | refine blk_alloc ?_ _)); refine blk_put (cs := #[.int .i64 t285, .int .i64 0, .slice none 0 0, .slice none 0 0]) ?_ 1 _ rfl; (with_reducible repeat (first | refine blk_drewN ?_ _ | refine blk_drew ?_ | refine blk_alloc ?_ _)); refine blk_put (cs := #[.int .i64 0, .int .i64 0, .slice none 0 0, .slice none 0 0]) ?_ 0 _ rfl; (with_reducible repeat (first | refine blk_drewN ?_ _ | refine blk_drew ?_ | refine blk_alloc ?_ _)); exact BK296.out⟩, ⟨by repeat (first | (with_reducible first | exact HB.out | apply below_alloc | apply pw_below_drewN | apply below_drew1 | refine below_set ?_ GE279.out | refine below_set ?_ GE296.out) | exact HB.out)⟩⟩
  )
  (focus
  rw [if_neg c20] at H
  have c20b0 : ((t280.length : Int) == (t287.length : Int)) = false := beq_eq_false_iff_ne.mpr c20
  have c20b1 : ((t280.length : Int) != (t287.length : Int)) = true := bne_iff_ne.mpr c20
  have c20b2 : (t280.length == t287.length) = false := by first | simpa using c20 | (simp at c20 ⊢; omega)
  (first | rw [c20b0] | (simp only [i64_w, i32_w]; rw [c20b0]) | skip)
  have H' := Aside0.mk H
  clear H
  obtain ⟨Ao24, co24, eo24⟩ := Kd.R_slice HO282.out
  subst eo24
  have hnb25 := NB296_279.out
  have hnc25 := NB279_296.out
  have hcz26_0 : w15.cell? ⟨gb296, 0, none⟩ = some (.int .i64 0) := (blk_cell BK296.out 0).trans rfl
  have hcz26_1 : w15.cell? ⟨gb296, 1, none⟩ = some (.int .i64 0) := (blk_cell BK296.out 1).trans rfl
  have hcz26_2 : w15.cell? ⟨gb296, 2, none⟩ = some (.slice none 0 0) := (blk_cell BK296.out 2).trans rfl
  have hcz26_3 : w15.cell? ⟨gb296, 3, none⟩ = some (.slice none 0 0) := (blk_cell BK296.out 3).trans rfl
  have hfz26_0 := blk_frozen BK296.out 0
  have hfz26_1 := blk_frozen BK296.out 1
  have hfz26_2 := blk_frozen BK296.out 2
  have hfz26_3 := blk_frozen BK296.out 3
  go_wp2
  go_meet
  case rel => exact ⟨_, (true), (by first | rfl | (simp; done) | (simp [*]; done)), H', ⟨by first | omega | exact Nat.le_refl _⟩, ⟨by (with_reducible repeat (first | apply Kd.R_alloc | apply Kd.R_drewN | apply Kd.R_drew)); exact Kd.R_mono (Kd.R_far (p := ⟨gb296, 3, none⟩) (Kd.R_far (p := ⟨gb296, 2, none⟩) (Kd.R_far (p := ⟨gb296, 1, none⟩) (Kd.R_far (p := ⟨gb296, 0, none⟩) (Kd.R_types HO282.out BK296.out (by decide)) (fun _ hk => hk.2) (.int .i64 t285)) (fun _ hk => hk.2) (.int .i64 t286)) (fun _ hk => hk.2) (.slice Ao18 t287.length co18)) (fun _ hk => hk.2) (.slice Ao19 t290.length co19)) (fun _ hk => trivial)⟩, ⟨by (with_reducible repeat (first | apply Kd.R_alloc | apply Kd.R_drewN | apply Kd.R_drew)); exact Kd.R_mono (Kd.R_far (p := ⟨gb296, 3, none⟩) (Kd.R_far (p := ⟨gb296, 2, none⟩) (Kd.R_far (p := ⟨gb296, 1, none⟩) (Kd.R_far (p := ⟨gb296, 0, none⟩) (Kd.R_types HO289.out BK296.out (by decide)) (fun _ hk => hk.2) (.int .i64 t285)) (fun _ hk => hk.2) (.int .i64 t286)) (fun _ hk => hk.2) (.slice Ao18 t287.length co18)) (fun _ hk => hk.2) (.slice Ao19 t290.length co19)) (fun _ hk => trivial)⟩, ⟨by (with_reducible repeat (first | apply Kd.S_alloc | apply Kd.S_drewN | apply Kd.S_drew)); exact Kd.S_mono (Kd.S_far (p := ⟨gb296, 3, none⟩) (Kd.S_far (p := ⟨gb296, 2, none⟩) (Kd.S_far (p := ⟨gb296, 1, none⟩) (Kd.S_far (p := ⟨gb296, 0, none⟩) (Kd.S_types HO292.out BK296.out (by decide)) (fun _ hk => hk.2) (.int .i64 t285)) (fun _ hk => hk.2) (.int .i64 t286)) (fun _ hk => hk.2) (.slice Ao18 t287.length co18)) (fun _ hk => hk.2) (.slice Ao19 t290.length co19)) (fun _ hk => trivial)⟩, ⟨by (with_reducible repeat (first | refine blk_drewN ?_ _ | refine blk_drew ?_ | refine blk_alloc ?_ _)); refine blk_far ?_ NB279_296.out _; (with_reducible repeat (first | refine blk_drewN ?_ _ | refine blk_drew ?_ | refine blk_alloc ?_ _)); refine blk_far ?_ NB279_296.out _; (with_reducible repeat (first | refine blk_drewN ?_ _ | refine blk_drew ?_ | refine blk_alloc ?_ _)); refine blk_far ?_ NB279_296.out _; (with_reducible repeat (first | refine blk_drewN ?_ _ | refine blk_drew ?_ | refine blk_alloc ?_ _)); refine blk_far ?_ NB279_296.out _; (with_reducible repeat (first | refine blk_drewN ?_ _ | refine blk_drew ?_ | refine blk_alloc ?_ _)); exact BK279.out⟩, ⟨by (with_reducible repeat (first | refine blk_drewN ?_ _ | refine blk_drew ?_ | refine blk_alloc ?_ _)); refine blk_put (cs := #[.int .i64 t285, .int .i64 t286, .slice Ao18 t287.length co18, .slice none 0 0]) ?_ 3 _ rfl; (with_reducible repeat (first | refine blk_drewN ?_ _ | refine blk_drew ?_ | refine blk_alloc ?_ _)); refine blk_put (cs := #[.int .i64 t285, .int .i64 t286, .slice none 0 0, .slice none 0 0]) ?_ 2 _ rfl; (with_reducible repeat (first | refine blk_drewN ?_ _ | refine blk_drew ?_ | refine blk_alloc ?_ _)); refine blk_put (cs := #[.int .i64 t285, .int .i64 0, .slice none 0 0, .slice none 0 0]) ?_ 1 _ rfl; (with_reducible repeat (first | refine blk_drewN ?_ _ | refine blk_drew ?_ | refine blk_alloc ?_ _)); refine blk_put (cs := #[.int .i64 0, .int .i64 0, .slice none 0 0, .slice none 0 0]) ?_ 0 _ rfl; (with_reducible repeat (first | refine blk_drewN ?_ _ | refine blk_drew ?_ | refine blk_alloc ?_ _)); exact BK296.out⟩, ⟨by repeat (first | (with_reducible first | exact HB.out | apply below_alloc | apply pw_below_drewN | apply below_drew1 | refine below_set ?_ GE279.out | refine below_set ?_ GE296.out) | exact HB.out)⟩⟩
  )
 case rest =>
  clear HC7
  try clear c1
  try clear c2
  try clear p2
  try clear c3
  try clear c5
  try clear c11
  try clear c16
  try clear c17
  try clear c20
  try clear c20b0
  try clear c20b1
  try clear c20b2
  try clear c22
  try clear c25
  try clear hcz11_0
  try clear hcz11_1
  try clear hcz11_2
  try clear hcz11_3
  try clear hcz13_0
  try clear hcz13_1
  try clear hcz13_2
  try clear hcz13_3
  try clear hcz17_0
  try clear hcz17_1
  try clear hcz17_2
  try clear hcz17_3
  try clear hcz23_0
  try clear hcz23_1
  try clear hcz23_2
  try clear hcz23_3
  try clear hcz26_0
  try clear hcz26_1
  try clear hcz26_2
  try clear hcz26_3
  try clear hcz9_0
  try clear hcz9_1
  try clear hcz9_2
  try clear hcz9_3
  try clear hfz11_0
  try clear hfz11_1
  try clear hfz11_2
  try clear hfz11_3
  try clear hfz13_0
  try clear hfz13_1
  try clear hfz13_2
  try clear hfz13_3
  try clear hfz17_0
  try clear hfz17_1
  try clear hfz17_2
  try clear hfz17_3
  try clear hfz23_0
  try clear hfz23_1
  try clear hfz23_2
  try clear hfz23_3
  try clear hfz26_0
  try clear hfz26_1
  try clear hfz26_2
  try clear hfz26_3
  try clear hfz9_0
  try clear hfz9_1
  try clear hfz9_2
  try clear hfz9_3
  obtain ⟨kq, x37_6, rfl, HA, HJ6, HO_5, HO_297002, HO_297003, BK279, BK296, HB⟩ := hcut
  cases kq with
  | zero => exact absurd HA.out (by simp [semigrouplaw07_DfaReaches.j0])
  | succ kj6 =>
   have H := HA.out
   clear HA
   simp only [semigrouplaw07_DfaReaches.j0] at H
   by_cases c27 : x37_6 = true
   (focus
   subst c27
   have H1 : (some false) = some r := by rw [if_pos rfl] at H; exact H
   clear H
   have H := H1
   clear H1
   obtain rfl := Option.some.inj H
   go_wp2
   go_ret
   exact ⟨by first | rfl | (simp [errW_none, errW_some] <;> rfl) | (simp [*, errW_none, errW_some] <;> rfl), by repeat (first | (with_reducible first | exact HB.out | apply below_alloc | apply pw_below_drewN | apply below_drew1 | refine below_set ?_ GE279.out | refine below_set ?_ GE296.out) | exact HB.out)⟩
   )
   (focus
   replace c27 := Bool.eq_false_iff.mpr c27
   subst c27
   have H1 : (semigrouplaw07_DfaReaches.l0 kj6 a1 t280 t280 (t280.length : Int) 0 t285 t286 t287 t290) = some r := by rw [if_neg (show ¬ (false = true) by decide)] at H; exact H
   clear H
   have H := H1
   clear H1
   have H' := Aside0.mk H
   clear H
   obtain ⟨Ao28, co28, eo28⟩ := Kd.R_slice HO_5.out
   subst eo28
   go_wp2
   go_loopg [40] kj6 (fun kq v40 w' => ∃ (x40_2 : Int), v40 = .int .i64 x40_2 ∧ Aside0 (semigrouplaw07_DfaReaches.l0 kq a1 t280 t280 (t280.length : Int) x40_2 t285 t286 t287 t290 = some r) ∧ Aside0 (kq ≤ kj6) ∧ Aside0 (Kd.R Kd.string 9 w' w.heap.size (fun _ => True) (.slice Ao28 t280.length co28) t280) ∧ Aside0 (Kd.R Kd.string 9 w' w.heap.size (fun _ => True) (.slice Ao28 t280.length co28) t280) ∧ Aside0 (Kd.R Kd.bool 4 w' w.heap.size (fun _ => True) (.slice Ao18 t287.length co18) t287) ∧ Aside0 (Kd.S (Kd.slice 3 (Kd.int .i64)) 38 w' w.heap.size (fun _ => True) (.slice Ao19 t290.length co19) t290) ∧ Aside0 (w'.heap[gb279]? = some (.cells #[.int .i64 a0_0, .int .i64 a0_1, (.slice A0_2 l0_2.length c0_2), (.slice A0_3 l0_3.length c0_3)] 25 (0, 0))) ∧ Aside0 (w'.heap[gb296]? = some (.cells #[.int .i64 t285, .int .i64 t286, (.slice Ao18 t287.length co18), (.slice Ao19 t290.length co19)] 25 (0, 0))) ∧ Aside0 (Below w.heap.size w w'))
   case atStart => exact ⟨(0), (by first | rfl | (simp; done) | (simp [*]; done)), H', ⟨Nat.le_refl _⟩, ⟨by (with_reducible repeat (first | apply Kd.R_alloc | apply Kd.R_drewN | apply Kd.R_drew)); exact HO_5.out⟩, ⟨by (with_reducible repeat (first | apply Kd.R_alloc | apply Kd.R_drewN | apply Kd.R_drew)); exact HO_5.out⟩, ⟨by (with_reducible repeat (first | apply Kd.R_alloc | apply Kd.R_drewN | apply Kd.R_drew)); exact HO_297002.out⟩, ⟨by (with_reducible repeat (first | apply Kd.S_alloc | apply Kd.S_drewN | apply Kd.S_drew)); exact HO_297003.out⟩, ⟨by (with_reducible repeat (first | refine blk_drewN ?_ _ | refine blk_drew ?_ | refine blk_alloc ?_ _)); exact BK279.out⟩, ⟨by (with_reducible repeat (first | refine blk_drewN ?_ _ | refine blk_drew ?_ | refine blk_alloc ?_ _)); exact BK296.out⟩, ⟨by repeat (first | (with_reducible first | exact HB.out | apply below_alloc | apply pw_below_drewN | apply below_drew1 | refine below_set ?_ GE279.out | refine below_set ?_ GE296.out) | exact HB.out)⟩⟩
   case round =>
    clear H'
    try clear c1
    try clear c2
    try clear p2
    try clear c3
    try clear c5
    try clear c11
    try clear c16
    try clear c17
    try clear c20
    try clear c20b0
    try clear c20b1
    try clear c20b2
    try clear c22
    try clear c25
    try clear c27
    try clear hcz11_0
    try clear hcz11_1
    try clear hcz11_2
    try clear hcz11_3
    try clear hcz13_0
    try clear hcz13_1
    try clear hcz13_2
    try clear hcz13_3
    try clear hcz17_0
    try clear hcz17_1
    try clear hcz17_2
    try clear hcz17_3
    try clear hcz23_0
    try clear hcz23_1
    try clear hcz23_2
    try clear hcz23_3
    try clear hcz26_0
    try clear hcz26_1
    try clear hcz26_2
    try clear hcz26_3
    try clear hcz9_0
    try clear hcz9_1
    try clear hcz9_2
    try clear hcz9_3
    try clear hfz11_0
    try clear hfz11_1
    try clear hfz11_2
    try clear hfz11_3
    try clear hfz13_0
    try clear hfz13_1
    try clear hfz13_2
    try clear hfz13_3
    try clear hfz17_0
    try clear hfz17_1
    try clear hfz17_2
    try clear hfz17_3
    try clear hfz23_0
    try clear hfz23_1
    try clear hfz23_2
    try clear hfz23_3
    try clear hfz26_0
    try clear hfz26_1
    try clear hfz26_2
    try clear hfz26_3
    try clear hfz9_0
    try clear hfz9_1
    try clear hfz9_2
    try clear hfz9_3
    try clear p2
    obtain ⟨x40_2, rfl, HA, HK2, HO_5, HO_38, HO_297002, HO_297003, BK279, BK296, HB⟩ := hrel
    cases gk with
    | zero => exact absurd HA.out (by simp [semigrouplaw07_DfaReaches.l0])
    | succ k2 =>
     have H := HA.out
     clear HA
     simp only [semigrouplaw07_DfaReaches.l0] at H
     by_cases c29 : x40_2 < (t280.length : Int)
     (focus
     rw [if_pos c29] at H
     have c29b0 : decide (x40_2 < (t280.length : Int)) = true := decide_eq_true c29
     clear c29
     by_cases c30 : 0 ≤ x40_2
     (focus
     rw [if_pos c30] at H
     have c30b0 : decide (0 ≤ x40_2) = true := decide_eq_true c30
     clear c30
     by_cases c31 : x40_2 < (t280.length : Int)
     (focus
     rw [if_pos c31] at H
     have c31b0 : decide (x40_2 < (t280.length : Int)) = true := decide_eq_true c31
     clear c31
     replace H := Option.bind_eq_some_iff.mp H
     obtain ⟨t298, A320, H⟩ := H
     replace H : (if t298 = x40_2 then (if x40_2 > 0 then (if 0 ≤ (wrap64 (x40_2 - 1)) then (if (wrap64 (x40_2 - 1)) < (t280.length : Int) then ((semigroupref01_Compare.f k2 (rdOf ByteArray.empty t280 (wrap64 (x40_2 - 1))) (rdOf ByteArray.empty t280 x40_2)).bind fun t300 => (if t300 ≥ 0 then (some false) else (semigrouplaw07_DfaReaches.l0 k2 a1 t280 t280 (t280.length : Int) (wrap64 (x40_2 + 1)) t285 t286 t287 t290))) else (none)) else (none)) else (semigrouplaw07_DfaReaches.l0 k2 a1 t280 t280 (t280.length : Int) (wrap64 (x40_2 + 1)) t285 t286 t287 t290)) else (some false)) = some r := H
     have A32 := Aside0.mk A320
     clear A320
     by_cases c33 : t298 = x40_2
     (focus
     rw [if_pos c33] at H
     have c33b0 : (t298 == x40_2) = true := beq_iff_eq.mpr c33
     have c33b1 : (t298 != x40_2) = false := bne_eq_false_iff_eq.mpr c33
     clear c33
     by_cases c34 : x40_2 > 0
     (focus
     rw [if_pos c34] at H
     have c34b0 : decide (0 < x40_2) = true := decide_eq_true c34
     clear c34
     obtain ⟨ji35, hji35⟩ : ∃ j_ : Int, (wrap64 (x40_2 - 1)) = j_ := ⟨_, rfl⟩
     replace H : (if 0 ≤ (ji35) then (if (ji35) < (t280.length : Int) then ((semigroupref01_Compare.f k2 (rdOf ByteArray.empty t280 (ji35)) (rdOf ByteArray.empty t280 x40_2)).bind fun t300 => (if t300 ≥ 0 then (some false) else (semigrouplaw07_DfaReaches.l0 k2 a1 t280 t280 (t280.length : Int) (wrap64 (x40_2 + 1)) t285 t286 t287 t290))) else (none)) else (none)) = some r := by first | (rw [hji35] at H; exact H) | (simp only [hji35] at H ⊢; exact H)
     (try rw [hji35] at A32)
     have hji35w : (IntKind.i64.wrap (x40_2 - 1)) = ji35 := (i64_w _).trans hji35
     by_cases c36 : 0 ≤ (ji35)
     (focus
     rw [if_pos c36] at H
     have c36b0 : decide (0 ≤ (ji35)) = true := decide_eq_true c36
     clear c36
     by_cases c37 : (ji35) < (t280.length : Int)
     (focus
     rw [if_pos c37] at H
     have c37b0 : decide ((ji35) < (t280.length : Int)) = true := decide_eq_true c37
     clear c37
     replace H := Option.bind_eq_some_iff.mp H
     obtain ⟨t300, A380, H⟩ := H
     replace H : (if t300 ≥ 0 then (some false) else (semigrouplaw07_DfaReaches.l0 k2 a1 t280 t280 (t280.length : Int) (wrap64 (x40_2 + 1)) t285 t286 t287 t290)) = some r := H
     have A38 := Aside0.mk A380
     clear A380
     by_cases c39 : t300 ≥ 0
     (focus
     rw [if_pos c39] at H
     have c39b0 : decide (0 ≤ t300) = true := decide_eq_true c39
     clear c39
     obtain rfl := Option.some.inj H
     have p297 : 0 ≤ (x40_2 : Int) := of_decide_eq_true (by first | (with_reducible assumption) | assumption)
     have q297 : x40_2 < (t280.length : Int) := of_decide_eq_true (by first | (with_reducible assumption) | assumption)
     obtain ⟨ad297, e297, hx297_0⟩ := Kd.at_string (Kd.R_reads' HO_38.out).2.2 x40_2 p297 q297
     cases e297
     replace p297 := eq_true p297
     replace q297 := eq_true q297
     have hnb40 := NB296_279.out
     have hnc40 := NB279_296.out
     have hcz41_0 : wr.cell? ⟨gb296, 0, none⟩ = some (.int .i64 t285) := (blk_cell BK296.out 0).trans rfl
     have hcz41_1 : wr.cell? ⟨gb296, 1, none⟩ = some (.int .i64 t286) := (blk_cell BK296.out 1).trans rfl
     have hcz41_2 : wr.cell? ⟨gb296, 2, none⟩ = some (.slice Ao18 t287.length co18) := (blk_cell BK296.out 2).trans rfl
     have hcz41_3 : wr.cell? ⟨gb296, 3, none⟩ = some (.slice Ao19 t290.length co19) := (blk_cell BK296.out 3).trans rfl
     have hfz41_0 := blk_frozen BK296.out 0
     have hfz41_1 := blk_frozen BK296.out 1
     have hfz41_2 := blk_frozen BK296.out 2
     have hfz41_3 := blk_frozen BK296.out 3
     go_wp2_with (first | ((with_reducible refine gate_callee (f := 23) rfl ?_); refine goesL_ (some 47) rfl rfl Try.func23 (by kernel_rfl) rfl #[.agg #[.int .i64 t285, .int .i64 t286, .slice Ao18 t287.length co18, .slice Ao19 t290.length co19], .int .i64 0, .string (rdOf ByteArray.empty t280 x40_2)] rfl (by (try simp only [List.map_toArray, List.map_cons, List.map_nil]); first | done | rfl | (simp only [List.length_drop, List.length_take]; rfl)) ?_; (with_reducible refine (dfa_Run.calls k2 t285 t286 _ _ t287 _ _ t290 0 (rdOf ByteArray.empty t280 x40_2) t298 _ ?side1 ?side2 ?side3 ?side4 A32.out).mono ?_); (case side1 => repeat (first | exact (Kd.R_reads' HO_297002.out).2.2 | (with_reducible refine Kd.C_alloc ?_ _) | (with_reducible refine Kd.C_drewN ?_ _) | (with_reducible refine Kd.C_drew ?_))); (case side2 => exact (Kd.R_reads' HO_297002.out).2.1); (case side3 => repeat (first | exact (Kd.S_reads' HO_297003.out).2.2 | (with_reducible refine Kd.C_alloc ?_ _) | (with_reducible refine Kd.C_drewN ?_ _) | (with_reducible refine Kd.C_drew ?_))); (case side4 => exact (Kd.S_reads' HO_297003.out).2.1); rintro e w42 ⟨rfl, hb⟩; refine ⟨_, rfl, ?_⟩; have n0_ := Aside0.mk (Kd.R_below (uR HO_5.out) hb); have n1_ := Aside0.mk (Kd.R_below (uR HO_38.out) hb); have n2_ := Aside0.mk (Kd.R_below (uR HO_297002.out) hb); have n3_ := Aside0.mk (Kd.S_below (by (with_reducible repeat (first | apply Kd.S_alloc | apply Kd.S_drewN | apply Kd.S_drew)); exact HO_297003.out) hb); have n4_ := Aside0.mk (blk_below (g := gb279) (o := .cells #[.int .i64 a0_0, .int .i64 a0_1, .slice A0_2 l0_2.length c0_2, .slice A0_3 l0_3.length c0_3] 25 (0, 0)) (uB BK279.out) hb); have n5_ := Aside0.mk (blk_below (g := gb296) (o := .cells #[.int .i64 t285, .int .i64 t286, .slice Ao18 t287.length co18, .slice Ao19 t290.length co19] 25 (0, 0)) (uB BK296.out) hb); have n6_ := Aside0.mk (below_step (by repeat (first | (with_reducible first | exact HB.out | apply below_alloc | apply pw_below_drewN | apply below_drew1 | refine below_set ?_ GE279.out | refine below_set ?_ GE296.out) | exact HB.out)) hb); clear HO_5; clear HO_38; clear HO_297002; clear HO_297003; clear BK279; clear BK296; clear HB; have HO_5 := n0_; have HO_38 := n1_; have HO_297002 := n2_; have HO_297003 := n3_; have BK279 := n4_; have BK296 := n5_; have HB := n6_; clear n0_ n1_ n2_ n3_ n4_ n5_ n6_; (try clear hb); (try clear hb2); (try clear hk); (try clear hi); have p299 : 0 ≤ ((ji35) : Int) := of_decide_eq_true (by first | (with_reducible assumption) | assumption); have q299 : (ji35) < (t280.length : Int) := of_decide_eq_true (by first | (with_reducible assumption) | assumption); obtain ⟨ad299, e299, hx299_0⟩ := Kd.at_string (Kd.R_reads' HO_5.out).2.2 (ji35) p299 q299; obtain rfl : ad297 = ad299 := (by injection e299); replace p299 := eq_true p299; replace q299 := eq_true q299) | (go_at_call 34; (with_reducible refine (semigroupref01_Compare.calls k2 (rdOf ByteArray.empty t280 (ji35)) (rdOf ByteArray.empty t280 x40_2) t300 _ A38.out).mono ?_); rintro e w' ⟨rfl, ⟨nd, rfl⟩⟩))
     go_ret
     exact ⟨by first | rfl | (simp [errW_none, errW_some] <;> rfl) | (simp only [← hji35]; first | rfl | (simp [errW_none, errW_some] <;> rfl)) | (simp [*, errW_none, errW_some] <;> rfl), by repeat (first | (with_reducible first | exact HB.out | apply below_alloc | apply pw_below_drewN | apply below_drew1 | refine below_set ?_ GE279.out | refine below_set ?_ GE296.out) | exact HB.out)⟩
     )
     (focus
     rw [if_neg c39] at H
     have c39b0 : decide (0 ≤ t300) = false := decide_eq_false c39
     clear c39
     have H' := Aside0.mk H
     clear H
     have p297 : 0 ≤ (x40_2 : Int) := of_decide_eq_true (by first | (with_reducible assumption) | assumption)
     have q297 : x40_2 < (t280.length : Int) := of_decide_eq_true (by first | (with_reducible assumption) | assumption)
     obtain ⟨ad297, e297, hx297_0⟩ := Kd.at_string (Kd.R_reads' HO_38.out).2.2 x40_2 p297 q297
     cases e297
     replace p297 := eq_true p297
     replace q297 := eq_true q297
     have hnb43 := NB296_279.out
     have hnc43 := NB279_296.out
     have hcz44_0 : wr.cell? ⟨gb296, 0, none⟩ = some (.int .i64 t285) := (blk_cell BK296.out 0).trans rfl
     have hcz44_1 : wr.cell? ⟨gb296, 1, none⟩ = some (.int .i64 t286) := (blk_cell BK296.out 1).trans rfl
     have hcz44_2 : wr.cell? ⟨gb296, 2, none⟩ = some (.slice Ao18 t287.length co18) := (blk_cell BK296.out 2).trans rfl
     have hcz44_3 : wr.cell? ⟨gb296, 3, none⟩ = some (.slice Ao19 t290.length co19) := (blk_cell BK296.out 3).trans rfl
     have hfz44_0 := blk_frozen BK296.out 0
     have hfz44_1 := blk_frozen BK296.out 1
     have hfz44_2 := blk_frozen BK296.out 2
     have hfz44_3 := blk_frozen BK296.out 3
     go_wp2_with (first | ((with_reducible refine gate_callee (f := 23) rfl ?_); refine goesL_ (some 47) rfl rfl Try.func23 (by kernel_rfl) rfl #[.agg #[.int .i64 t285, .int .i64 t286, .slice Ao18 t287.length co18, .slice Ao19 t290.length co19], .int .i64 0, .string (rdOf ByteArray.empty t280 x40_2)] rfl (by (try simp only [List.map_toArray, List.map_cons, List.map_nil]); first | done | rfl | (simp only [List.length_drop, List.length_take]; rfl)) ?_; (with_reducible refine (dfa_Run.calls k2 t285 t286 _ _ t287 _ _ t290 0 (rdOf ByteArray.empty t280 x40_2) t298 _ ?side1 ?side2 ?side3 ?side4 A32.out).mono ?_); (case side1 => repeat (first | exact (Kd.R_reads' HO_297002.out).2.2 | (with_reducible refine Kd.C_alloc ?_ _) | (with_reducible refine Kd.C_drewN ?_ _) | (with_reducible refine Kd.C_drew ?_))); (case side2 => exact (Kd.R_reads' HO_297002.out).2.1); (case side3 => repeat (first | exact (Kd.S_reads' HO_297003.out).2.2 | (with_reducible refine Kd.C_alloc ?_ _) | (with_reducible refine Kd.C_drewN ?_ _) | (with_reducible refine Kd.C_drew ?_))); (case side4 => exact (Kd.S_reads' HO_297003.out).2.1); rintro e w45 ⟨rfl, hb⟩; refine ⟨_, rfl, ?_⟩; have n0_ := Aside0.mk (Kd.R_below (uR HO_5.out) hb); have n1_ := Aside0.mk (Kd.R_below (uR HO_38.out) hb); have n2_ := Aside0.mk (Kd.R_below (uR HO_297002.out) hb); have n3_ := Aside0.mk (Kd.S_below (by (with_reducible repeat (first | apply Kd.S_alloc | apply Kd.S_drewN | apply Kd.S_drew)); exact HO_297003.out) hb); have n4_ := Aside0.mk (blk_below (g := gb279) (o := .cells #[.int .i64 a0_0, .int .i64 a0_1, .slice A0_2 l0_2.length c0_2, .slice A0_3 l0_3.length c0_3] 25 (0, 0)) (uB BK279.out) hb); have n5_ := Aside0.mk (blk_below (g := gb296) (o := .cells #[.int .i64 t285, .int .i64 t286, .slice Ao18 t287.length co18, .slice Ao19 t290.length co19] 25 (0, 0)) (uB BK296.out) hb); have n6_ := Aside0.mk (below_step (by repeat (first | (with_reducible first | exact HB.out | apply below_alloc | apply pw_below_drewN | apply below_drew1 | refine below_set ?_ GE279.out | refine below_set ?_ GE296.out) | exact HB.out)) hb); clear HO_5; clear HO_38; clear HO_297002; clear HO_297003; clear BK279; clear BK296; clear HB; have HO_5 := n0_; have HO_38 := n1_; have HO_297002 := n2_; have HO_297003 := n3_; have BK279 := n4_; have BK296 := n5_; have HB := n6_; clear n0_ n1_ n2_ n3_ n4_ n5_ n6_; (try clear hb); (try clear hb2); (try clear hk); (try clear hi); have p299 : 0 ≤ ((ji35) : Int) := of_decide_eq_true (by first | (with_reducible assumption) | assumption); have q299 : (ji35) < (t280.length : Int) := of_decide_eq_true (by first | (with_reducible assumption) | assumption); obtain ⟨ad299, e299, hx299_0⟩ := Kd.at_string (Kd.R_reads' HO_5.out).2.2 (ji35) p299 q299; obtain rfl : ad297 = ad299 := (by injection e299); replace p299 := eq_true p299; replace q299 := eq_true q299) | (go_at_call 34; (with_reducible refine (semigroupref01_Compare.calls k2 (rdOf ByteArray.empty t280 (ji35)) (rdOf ByteArray.empty t280 x40_2) t300 _ A38.out).mono ?_); rintro e w' ⟨rfl, ⟨nd, rfl⟩⟩))
     go_roundg k2
     case measure => have := HJ6.out; have := HK2.out; omega
     case rel => exact ⟨(wrap64 (x40_2 + 1)), (by first | rfl | (simp; done) | (simp [*]; done)), H', ⟨by have := HJ6.out; have := HK2.out; omega⟩, ⟨by (with_reducible repeat (first | apply Kd.R_alloc | apply Kd.R_drewN | apply Kd.R_drew)); exact HO_5.out⟩, ⟨by (with_reducible repeat (first | apply Kd.R_alloc | apply Kd.R_drewN | apply Kd.R_drew)); exact HO_38.out⟩, ⟨by (with_reducible repeat (first | apply Kd.R_alloc | apply Kd.R_drewN | apply Kd.R_drew)); exact HO_297002.out⟩, ⟨by (with_reducible repeat (first | apply Kd.S_alloc | apply Kd.S_drewN | apply Kd.S_drew)); exact HO_297003.out⟩, ⟨by (with_reducible repeat (first | refine blk_drewN ?_ _ | refine blk_drew ?_ | refine blk_alloc ?_ _)); exact BK279.out⟩, ⟨by (with_reducible repeat (first | refine blk_drewN ?_ _ | refine blk_drew ?_ | refine blk_alloc ?_ _)); exact BK296.out⟩, ⟨by repeat (first | (with_reducible first | exact HB.out | apply below_alloc | apply pw_below_drewN | apply below_drew1 | refine below_set ?_ GE279.out | refine below_set ?_ GE296.out) | exact HB.out)⟩⟩
     )
     )
     (focus
     rw [if_neg c37] at H
     exact absurd H (by simp)
     )
     )
     (focus
     rw [if_neg c36] at H
     exact absurd H (by simp)
     )
     )
     (focus
     rw [if_neg c34] at H
     have c34b0 : decide (0 < x40_2) = false := decide_eq_false c34
     clear c34
     have H' := Aside0.mk H
     clear H
     have p297 : 0 ≤ (x40_2 : Int) := of_decide_eq_true (by first | (with_reducible assumption) | assumption)
     have q297 : x40_2 < (t280.length : Int) := of_decide_eq_true (by first | (with_reducible assumption) | assumption)
     obtain ⟨ad297, e297, hx297_0⟩ := Kd.at_string (Kd.R_reads' HO_38.out).2.2 x40_2 p297 q297
     cases e297
     replace p297 := eq_true p297
     replace q297 := eq_true q297
     have hnb46 := NB296_279.out
     have hnc46 := NB279_296.out
     have hcz47_0 : wr.cell? ⟨gb296, 0, none⟩ = some (.int .i64 t285) := (blk_cell BK296.out 0).trans rfl
     have hcz47_1 : wr.cell? ⟨gb296, 1, none⟩ = some (.int .i64 t286) := (blk_cell BK296.out 1).trans rfl
     have hcz47_2 : wr.cell? ⟨gb296, 2, none⟩ = some (.slice Ao18 t287.length co18) := (blk_cell BK296.out 2).trans rfl
     have hcz47_3 : wr.cell? ⟨gb296, 3, none⟩ = some (.slice Ao19 t290.length co19) := (blk_cell BK296.out 3).trans rfl
     have hfz47_0 := blk_frozen BK296.out 0
     have hfz47_1 := blk_frozen BK296.out 1
     have hfz47_2 := blk_frozen BK296.out 2
     have hfz47_3 := blk_frozen BK296.out 3
     go_wp2_with (first | ((with_reducible refine gate_callee (f := 23) rfl ?_); refine goesL_ (some 47) rfl rfl Try.func23 (by kernel_rfl) rfl #[.agg #[.int .i64 t285, .int .i64 t286, .slice Ao18 t287.length co18, .slice Ao19 t290.length co19], .int .i64 0, .string (rdOf ByteArray.empty t280 x40_2)] rfl (by (try simp only [List.map_toArray, List.map_cons, List.map_nil]); first | done | rfl | (simp only [List.length_drop, List.length_take]; rfl)) ?_; (with_reducible refine (dfa_Run.calls k2 t285 t286 _ _ t287 _ _ t290 0 (rdOf ByteArray.empty t280 x40_2) t298 _ ?side1 ?side2 ?side3 ?side4 A32.out).mono ?_); (case side1 => repeat (first | exact (Kd.R_reads' HO_297002.out).2.2 | (with_reducible refine Kd.C_alloc ?_ _) | (with_reducible refine Kd.C_drewN ?_ _) | (with_reducible refine Kd.C_drew ?_))); (case side2 => exact (Kd.R_reads' HO_297002.out).2.1); (case side3 => repeat (first | exact (Kd.S_reads' HO_297003.out).2.2 | (with_reducible refine Kd.C_alloc ?_ _) | (with_reducible refine Kd.C_drewN ?_ _) | (with_reducible refine Kd.C_drew ?_))); (case side4 => exact (Kd.S_reads' HO_297003.out).2.1); rintro e w48 ⟨rfl, hb⟩; refine ⟨_, rfl, ?_⟩; have n0_ := Aside0.mk (Kd.R_below (uR HO_5.out) hb); have n1_ := Aside0.mk (Kd.R_below (uR HO_38.out) hb); have n2_ := Aside0.mk (Kd.R_below (uR HO_297002.out) hb); have n3_ := Aside0.mk (Kd.S_below (by (with_reducible repeat (first | apply Kd.S_alloc | apply Kd.S_drewN | apply Kd.S_drew)); exact HO_297003.out) hb); have n4_ := Aside0.mk (blk_below (g := gb279) (o := .cells #[.int .i64 a0_0, .int .i64 a0_1, .slice A0_2 l0_2.length c0_2, .slice A0_3 l0_3.length c0_3] 25 (0, 0)) (uB BK279.out) hb); have n5_ := Aside0.mk (blk_below (g := gb296) (o := .cells #[.int .i64 t285, .int .i64 t286, .slice Ao18 t287.length co18, .slice Ao19 t290.length co19] 25 (0, 0)) (uB BK296.out) hb); have n6_ := Aside0.mk (below_step (by repeat (first | (with_reducible first | exact HB.out | apply below_alloc | apply pw_below_drewN | apply below_drew1 | refine below_set ?_ GE279.out | refine below_set ?_ GE296.out) | exact HB.out)) hb); clear HO_5; clear HO_38; clear HO_297002; clear HO_297003; clear BK279; clear BK296; clear HB; have HO_5 := n0_; have HO_38 := n1_; have HO_297002 := n2_; have HO_297003 := n3_; have BK279 := n4_; have BK296 := n5_; have HB := n6_; clear n0_ n1_ n2_ n3_ n4_ n5_ n6_; (try clear hb); (try clear hb2); (try clear hk); (try clear hi)))
     go_roundg k2
     case measure => have := HJ6.out; have := HK2.out; omega
     case rel => exact ⟨(wrap64 (x40_2 + 1)), (by first | rfl | (simp; done) | (simp [*]; done)), H', ⟨by have := HJ6.out; have := HK2.out; omega⟩, ⟨by (with_reducible repeat (first | apply Kd.R_alloc | apply Kd.R_drewN | apply Kd.R_drew)); exact HO_5.out⟩, ⟨by (with_reducible repeat (first | apply Kd.R_alloc | apply Kd.R_drewN | apply Kd.R_drew)); exact HO_38.out⟩, ⟨by (with_reducible repeat (first | apply Kd.R_alloc | apply Kd.R_drewN | apply Kd.R_drew)); exact HO_297002.out⟩, ⟨by (with_reducible repeat (first | apply Kd.S_alloc | apply Kd.S_drewN | apply Kd.S_drew)); exact HO_297003.out⟩, ⟨by (with_reducible repeat (first | refine blk_drewN ?_ _ | refine blk_drew ?_ | refine blk_alloc ?_ _)); exact BK279.out⟩, ⟨by (with_reducible repeat (first | refine blk_drewN ?_ _ | refine blk_drew ?_ | refine blk_alloc ?_ _)); exact BK296.out⟩, ⟨by repeat (first | (with_reducible first | exact HB.out | apply below_alloc | apply pw_below_drewN | apply below_drew1 | refine below_set ?_ GE279.out | refine below_set ?_ GE296.out) | exact HB.out)⟩⟩
     )
     )
     (focus
     rw [if_neg c33] at H
     have c33b0 : (t298 == x40_2) = false := beq_eq_false_iff_ne.mpr c33
     have c33b1 : (t298 != x40_2) = true := bne_iff_ne.mpr c33
     obtain rfl := Option.some.inj H
     have p297 : 0 ≤ (x40_2 : Int) := of_decide_eq_true (by first | (with_reducible assumption) | assumption)
     have q297 : x40_2 < (t280.length : Int) := of_decide_eq_true (by first | (with_reducible assumption) | assumption)
     obtain ⟨ad297, e297, hx297_0⟩ := Kd.at_string (Kd.R_reads' HO_38.out).2.2 x40_2 p297 q297
     cases e297
     replace p297 := eq_true p297
     replace q297 := eq_true q297
     have hnb49 := NB296_279.out
     have hnc49 := NB279_296.out
     have hcz50_0 : wr.cell? ⟨gb296, 0, none⟩ = some (.int .i64 t285) := (blk_cell BK296.out 0).trans rfl
     have hcz50_1 : wr.cell? ⟨gb296, 1, none⟩ = some (.int .i64 t286) := (blk_cell BK296.out 1).trans rfl
     have hcz50_2 : wr.cell? ⟨gb296, 2, none⟩ = some (.slice Ao18 t287.length co18) := (blk_cell BK296.out 2).trans rfl
     have hcz50_3 : wr.cell? ⟨gb296, 3, none⟩ = some (.slice Ao19 t290.length co19) := (blk_cell BK296.out 3).trans rfl
     have hfz50_0 := blk_frozen BK296.out 0
     have hfz50_1 := blk_frozen BK296.out 1
     have hfz50_2 := blk_frozen BK296.out 2
     have hfz50_3 := blk_frozen BK296.out 3
     go_wp2_with (first | ((with_reducible refine gate_callee (f := 23) rfl ?_); refine goesL_ (some 47) rfl rfl Try.func23 (by kernel_rfl) rfl #[.agg #[.int .i64 t285, .int .i64 t286, .slice Ao18 t287.length co18, .slice Ao19 t290.length co19], .int .i64 0, .string (rdOf ByteArray.empty t280 x40_2)] rfl (by (try simp only [List.map_toArray, List.map_cons, List.map_nil]); first | done | rfl | (simp only [List.length_drop, List.length_take]; rfl)) ?_; (with_reducible refine (dfa_Run.calls k2 t285 t286 _ _ t287 _ _ t290 0 (rdOf ByteArray.empty t280 x40_2) t298 _ ?side1 ?side2 ?side3 ?side4 A32.out).mono ?_); (case side1 => repeat (first | exact (Kd.R_reads' HO_297002.out).2.2 | (with_reducible refine Kd.C_alloc ?_ _) | (with_reducible refine Kd.C_drewN ?_ _) | (with_reducible refine Kd.C_drew ?_))); (case side2 => exact (Kd.R_reads' HO_297002.out).2.1); (case side3 => repeat (first | exact (Kd.S_reads' HO_297003.out).2.2 | (with_reducible refine Kd.C_alloc ?_ _) | (with_reducible refine Kd.C_drewN ?_ _) | (with_reducible refine Kd.C_drew ?_))); (case side4 => exact (Kd.S_reads' HO_297003.out).2.1); rintro e w51 ⟨rfl, hb⟩; refine ⟨_, rfl, ?_⟩; have n0_ := Aside0.mk (Kd.R_below (uR HO_5.out) hb); have n1_ := Aside0.mk (Kd.R_below (uR HO_38.out) hb); have n2_ := Aside0.mk (Kd.R_below (uR HO_297002.out) hb); have n3_ := Aside0.mk (Kd.S_below (by (with_reducible repeat (first | apply Kd.S_alloc | apply Kd.S_drewN | apply Kd.S_drew)); exact HO_297003.out) hb); have n4_ := Aside0.mk (blk_below (g := gb279) (o := .cells #[.int .i64 a0_0, .int .i64 a0_1, .slice A0_2 l0_2.length c0_2, .slice A0_3 l0_3.length c0_3] 25 (0, 0)) (uB BK279.out) hb); have n5_ := Aside0.mk (blk_below (g := gb296) (o := .cells #[.int .i64 t285, .int .i64 t286, .slice Ao18 t287.length co18, .slice Ao19 t290.length co19] 25 (0, 0)) (uB BK296.out) hb); have n6_ := Aside0.mk (below_step (by repeat (first | (with_reducible first | exact HB.out | apply below_alloc | apply pw_below_drewN | apply below_drew1 | refine below_set ?_ GE279.out | refine below_set ?_ GE296.out) | exact HB.out)) hb); clear HO_5; clear HO_38; clear HO_297002; clear HO_297003; clear BK279; clear BK296; clear HB; have HO_5 := n0_; have HO_38 := n1_; have HO_297002 := n2_; have HO_297003 := n3_; have BK279 := n4_; have BK296 := n5_; have HB := n6_; clear n0_ n1_ n2_ n3_ n4_ n5_ n6_; (try clear hb); (try clear hb2); (try clear hk); (try clear hi)))
     go_ret
     exact ⟨by first | rfl | (simp [errW_none, errW_some] <;> rfl) | (simp [*, errW_none, errW_some] <;> rfl), by repeat (first | (with_reducible first | exact HB.out | apply below_alloc | apply pw_below_drewN | apply below_drew1 | refine below_set ?_ GE279.out | refine below_set ?_ GE296.out) | exact HB.out)⟩
     )
     )
     (focus
     rw [if_neg c31] at H
     exact absurd H (by simp)
     )
     )
     (focus
     rw [if_neg c30] at H
     exact absurd H (by simp)
     )
     )
     (focus
     rw [if_neg c29] at H
     have c29b0 : decide (x40_2 < (t280.length : Int)) = false := decide_eq_false c29
     clear c29
     replace H := Option.bind_eq_some_iff.mp H
     obtain ⟨t301, A520, H⟩ := H
     replace H : (if t301 ≥ 0 then (if t301 ≥ (t280.length : Int) then (semigrouplaw07_DfaReaches.j2 k2 true) else (if 0 ≤ t301 then (if t301 < (t280.length : Int) then ((semigroupref01_Compare.f k2 (rdOf ByteArray.empty t280 t301) a1).bind fun t303 => (semigrouplaw07_DfaReaches.j2 k2 (decide (t303 > 0)))) else (none)) else (none))) else (semigrouplaw07_DfaReaches.j2 k2 false)) = some r := H
     have A52 := Aside0.mk A520
     clear A520
     have HC53 := Aside0.mk H
     clear H
     have hnb54 := NB296_279.out
     have hnc54 := NB279_296.out
     have hcz55_0 : wr.cell? ⟨gb296, 0, none⟩ = some (.int .i64 t285) := (blk_cell BK296.out 0).trans rfl
     have hcz55_1 : wr.cell? ⟨gb296, 1, none⟩ = some (.int .i64 t286) := (blk_cell BK296.out 1).trans rfl
     have hcz55_2 : wr.cell? ⟨gb296, 2, none⟩ = some (.slice Ao18 t287.length co18) := (blk_cell BK296.out 2).trans rfl
     have hcz55_3 : wr.cell? ⟨gb296, 3, none⟩ = some (.slice Ao19 t290.length co19) := (blk_cell BK296.out 3).trans rfl
     have hfz55_0 := blk_frozen BK296.out 0
     have hfz55_1 := blk_frozen BK296.out 1
     have hfz55_2 := blk_frozen BK296.out 2
     have hfz55_3 := blk_frozen BK296.out 3
     go_upto_region 14 with (first | ((with_reducible refine gate_callee (f := 23) rfl ?_); refine goesL_ (some 67) rfl rfl Try.func23 (by kernel_rfl) rfl #[.agg #[.int .i64 t285, .int .i64 t286, .slice Ao18 t287.length co18, .slice Ao19 t290.length co19], .int .i64 0, .string a1] rfl (by (try simp only [List.map_toArray, List.map_cons, List.map_nil]); first | done | rfl | (simp only [List.length_drop, List.length_take]; rfl)) ?_; (with_reducible refine (dfa_Run.calls k2 t285 t286 _ _ t287 _ _ t290 0 a1 t301 _ ?side1 ?side2 ?side3 ?side4 A52.out).mono ?_); (case side1 => repeat (first | exact (Kd.R_reads' HO_297002.out).2.2 | (with_reducible refine Kd.C_alloc ?_ _) | (with_reducible refine Kd.C_drewN ?_ _) | (with_reducible refine Kd.C_drew ?_))); (case side2 => exact (Kd.R_reads' HO_297002.out).2.1); (case side3 => repeat (first | exact (Kd.S_reads' HO_297003.out).2.2 | (with_reducible refine Kd.C_alloc ?_ _) | (with_reducible refine Kd.C_drewN ?_ _) | (with_reducible refine Kd.C_drew ?_))); (case side4 => exact (Kd.S_reads' HO_297003.out).2.1); rintro e w56 ⟨rfl, hb⟩; refine ⟨_, rfl, ?_⟩; have n0_ := Aside0.mk (Kd.R_below (uR HO_5.out) hb); have n1_ := Aside0.mk (Kd.R_below (uR HO_38.out) hb); have n2_ := Aside0.mk (Kd.R_below (uR HO_297002.out) hb); have n3_ := Aside0.mk (Kd.S_below (by (with_reducible repeat (first | apply Kd.S_alloc | apply Kd.S_drewN | apply Kd.S_drew)); exact HO_297003.out) hb); have n4_ := Aside0.mk (blk_below (g := gb279) (o := .cells #[.int .i64 a0_0, .int .i64 a0_1, .slice A0_2 l0_2.length c0_2, .slice A0_3 l0_3.length c0_3] 25 (0, 0)) (uB BK279.out) hb); have n5_ := Aside0.mk (blk_below (g := gb296) (o := .cells #[.int .i64 t285, .int .i64 t286, .slice Ao18 t287.length co18, .slice Ao19 t290.length co19] 25 (0, 0)) (uB BK296.out) hb); have n6_ := Aside0.mk (below_step (by repeat (first | (with_reducible first | exact HB.out | apply below_alloc | apply pw_below_drewN | apply below_drew1 | refine below_set ?_ GE279.out | refine below_set ?_ GE296.out) | exact HB.out)) hb); clear HO_5; clear HO_38; clear HO_297002; clear HO_297003; clear BK279; clear BK296; clear HB; have HO_5 := n0_; have HO_38 := n1_; have HO_297002 := n2_; have HO_297003 := n3_; have BK279 := n4_; have BK296 := n5_; have HB := n6_; clear n0_ n1_ n2_ n3_ n4_ n5_ n6_; (try clear hb); (try clear hb2); (try clear hk); (try clear hi)))
     (try simp only [Act.put, List.setIfInBounds_toArray, List.set_cons_zero, List.set_cons_succ])
     go_cut [84] (fun v84 wc => ∃ (kq : Nat) (x84_52 : Bool), v84 = .bool x84_52 ∧ Aside0 (semigrouplaw07_DfaReaches.j2 kq x84_52 = some r) ∧ Aside0 (kq ≤ k2) ∧ Aside0 (Kd.R Kd.bool 4 wc w.heap.size (fun _ => True) (.slice Ao18 t287.length co18) t287) ∧ Aside0 (Kd.S (Kd.slice 3 (Kd.int .i64)) 38 wc w.heap.size (fun _ => True) (.slice Ao19 t290.length co19) t290) ∧ Aside0 (wc.heap[gb279]? = some (.cells #[.int .i64 a0_0, .int .i64 a0_1, (.slice A0_2 l0_2.length c0_2), (.slice A0_3 l0_3.length c0_3)] 25 (0, 0))) ∧ Aside0 (wc.heap[gb296]? = some (.cells #[.int .i64 t285, .int .i64 t286, (.slice Ao18 t287.length co18), (.slice Ao19 t290.length co19)] 25 (0, 0))) ∧ Aside0 (Below w.heap.size w wc))
     case first =>
      have H := HC53.out
      clear HC53
      by_cases c57 : t301 ≥ 0
      (focus
      rw [if_pos c57] at H
      have c57b0 : decide (0 ≤ t301) = true := decide_eq_true c57
      clear c57
      (first | rw [c57b0] | (simp only [i64_w, i32_w]; rw [c57b0]) | skip)
      by_cases c58 : t301 ≥ (t280.length : Int)
      (focus
      rw [if_pos c58] at H
      have c58b0 : decide ((t280.length : Int) ≤ t301) = true := decide_eq_true c58
      clear c58
      have H' := Aside0.mk H
      clear H
      go_wp2
      go_meet
      case rel => exact ⟨_, (true), (by first | rfl | (simp; done) | (simp [*]; done)), H', ⟨by have := HJ6.out; have := HK2.out; first | omega | exact Nat.le_refl _⟩, ⟨by (with_reducible repeat (first | apply Kd.R_alloc | apply Kd.R_drewN | apply Kd.R_drew)); exact HO_297002.out⟩, ⟨by (with_reducible repeat (first | apply Kd.S_alloc | apply Kd.S_drewN | apply Kd.S_drew)); exact HO_297003.out⟩, ⟨by (with_reducible repeat (first | refine blk_drewN ?_ _ | refine blk_drew ?_ | refine blk_alloc ?_ _)); exact BK279.out⟩, ⟨by (with_reducible repeat (first | refine blk_drewN ?_ _ | refine blk_drew ?_ | refine blk_alloc ?_ _)); exact BK296.out⟩, ⟨by repeat (first | (with_reducible first | exact HB.out | apply below_alloc | apply pw_below_drewN | apply below_drew1 | refine below_set ?_ GE279.out | refine below_set ?_ GE296.out) | exact HB.out)⟩⟩
      )
      (focus
      rw [if_neg c58] at H
      have c58b0 : decide ((t280.length : Int) ≤ t301) = false := decide_eq_false c58
      clear c58
      by_cases c59 : 0 ≤ t301
      (focus
      rw [if_pos c59] at H
      have c59b0 : decide (0 ≤ t301) = true := decide_eq_true c59
      clear c59
      by_cases c60 : t301 < (t280.length : Int)
      (focus
      rw [if_pos c60] at H
      have c60b0 : decide (t301 < (t280.length : Int)) = true := decide_eq_true c60
      clear c60
      replace H := Option.bind_eq_some_iff.mp H
      obtain ⟨t303, A610, H⟩ := H
      replace H : (semigrouplaw07_DfaReaches.j2 k2 (decide (t303 > 0))) = some r := H
      have A61 := Aside0.mk A610
      clear A610
      have H' := Aside0.mk H
      clear H
      have p302 : 0 ≤ (t301 : Int) := of_decide_eq_true (by first | (with_reducible assumption) | assumption)
      have q302 : t301 < (t280.length : Int) := of_decide_eq_true (by first | (with_reducible assumption) | assumption)
      obtain ⟨ad302, e302, hx302_0⟩ := Kd.at_string (Kd.R_reads' HO_5.out).2.2 t301 p302 q302
      cases e302
      replace p302 := eq_true p302
      replace q302 := eq_true q302
      go_wp2_with (first | (go_at_call 34; (with_reducible refine (semigroupref01_Compare.calls k2 (rdOf ByteArray.empty t280 t301) a1 t303 _ A61.out).mono ?_); rintro e w' ⟨rfl, ⟨nd, rfl⟩⟩))
      go_meet
      case rel => exact ⟨_, (decide (t303 > 0)), (by first | rfl | (simp; done) | (simp [*]; done)), H', ⟨by have := HJ6.out; have := HK2.out; first | omega | exact Nat.le_refl _⟩, ⟨by (with_reducible repeat (first | apply Kd.R_alloc | apply Kd.R_drewN | apply Kd.R_drew)); exact HO_297002.out⟩, ⟨by (with_reducible repeat (first | apply Kd.S_alloc | apply Kd.S_drewN | apply Kd.S_drew)); exact HO_297003.out⟩, ⟨by (with_reducible repeat (first | refine blk_drewN ?_ _ | refine blk_drew ?_ | refine blk_alloc ?_ _)); exact BK279.out⟩, ⟨by (with_reducible repeat (first | refine blk_drewN ?_ _ | refine blk_drew ?_ | refine blk_alloc ?_ _)); exact BK296.out⟩, ⟨by repeat (first | (with_reducible first | exact HB.out | apply below_alloc | apply pw_below_drewN | apply below_drew1 | refine below_set ?_ GE279.out | refine below_set ?_ GE296.out) | exact HB.out)⟩⟩
      )
      (focus
      rw [if_neg c60] at H
      exact absurd H (by simp)
      )
      )
      (focus
      rw [if_neg c59] at H
      exact absurd H (by simp)
      )
      )
      )
      (focus
      rw [if_neg c57] at H
      have c57b0 : decide (0 ≤ t301) = false := decide_eq_false c57
      clear c57
      (first | rw [c57b0] | (simp only [i64_w, i32_w]; rw [c57b0]) | skip)
      have H' := Aside0.mk H
      clear H
      go_wp2
      go_meet
      case rel => exact ⟨_, (false), (by first | rfl | (simp; done) | (simp [*]; done)), H', ⟨by have := HJ6.out; have := HK2.out; first | omega | exact Nat.le_refl _⟩, ⟨by (with_reducible repeat (first | apply Kd.R_alloc | apply Kd.R_drewN | apply Kd.R_drew)); exact HO_297002.out⟩, ⟨by (with_reducible repeat (first | apply Kd.S_alloc | apply Kd.S_drewN | apply Kd.S_drew)); exact HO_297003.out⟩, ⟨by (with_reducible repeat (first | refine blk_drewN ?_ _ | refine blk_drew ?_ | refine blk_alloc ?_ _)); exact BK279.out⟩, ⟨by (with_reducible repeat (first | refine blk_drewN ?_ _ | refine blk_drew ?_ | refine blk_alloc ?_ _)); exact BK296.out⟩, ⟨by repeat (first | (with_reducible first | exact HB.out | apply below_alloc | apply pw_below_drewN | apply below_drew1 | refine below_set ?_ GE279.out | refine below_set ?_ GE296.out) | exact HB.out)⟩⟩
      )
     case rest =>
      clear HC53
      try clear c1
      try clear c2
      try clear p2
      try clear q2
      try clear hx2
      try clear c3
      try clear p3
      try clear q3
      try clear hx3
      try clear c4
      try clear c5
      try clear c6
      try clear p6
      try clear c11
      try clear c16
      try clear c17
      try clear c20
      try clear c20b0
      try clear c20b1
      try clear c20b2
      try clear c22
      try clear c23
      try clear c25
      try clear c27
      try clear c29
      try clear c29b0
      try clear p29
      try clear q29
      try clear hx29
      try clear c30
      try clear c30b0
      try clear p30
      try clear q30
      try clear hx30
      try clear c31
      try clear c31b0
      try clear c33
      try clear c33b0
      try clear c33b1
      try clear c34
      try clear c34b0
      try clear c36
      try clear c36b0
      try clear c37
      try clear c37b0
      try clear c39
      try clear c39b0
      try clear c40
      try clear c43
      try clear c46
      try clear c49
      try clear c54
      try clear c57
      try clear c57b0
      try clear c58
      try clear c58b0
      try clear c59
      try clear c59b0
      try clear c60
      try clear c60b0
      try clear hcz11_0
      try clear hcz11_1
      try clear hcz11_2
      try clear hcz11_3
      try clear hcz13_0
      try clear hcz13_1
      try clear hcz13_2
      try clear hcz13_3
      try clear hcz17_0
      try clear hcz17_1
      try clear hcz17_2
      try clear hcz17_3
      try clear hcz23_0
      try clear hcz23_1
      try clear hcz23_2
      try clear hcz23_3
      try clear hcz26_0
      try clear hcz26_1
      try clear hcz26_2
      try clear hcz26_3
      try clear hcz41_0
      try clear hcz41_1
      try clear hcz41_2
      try clear hcz41_3
      try clear hcz44_0
      try clear hcz44_1
      try clear hcz44_2
      try clear hcz44_3
      try clear hcz47_0
      try clear hcz47_1
      try clear hcz47_2
      try clear hcz47_3
      try clear hcz50_0
      try clear hcz50_1
      try clear hcz50_2
      try clear hcz50_3
      try clear hcz55_0
      try clear hcz55_1
      try clear hcz55_2
      try clear hcz55_3
      try clear hcz9_0
      try clear hcz9_1
      try clear hcz9_2
      try clear hcz9_3
      try clear hfz11_0
      try clear hfz11_1
      try clear hfz11_2
      try clear hfz11_3
      try clear hfz13_0
      try clear hfz13_1
      try clear hfz13_2
      try clear hfz13_3
      try clear hfz17_0
      try clear hfz17_1
      try clear hfz17_2
      try clear hfz17_3
      try clear hfz23_0
      try clear hfz23_1
      try clear hfz23_2
      try clear hfz23_3
      try clear hfz26_0
      try clear hfz26_1
      try clear hfz26_2
      try clear hfz26_3
      try clear hfz41_0
      try clear hfz41_1
      try clear hfz41_2
      try clear hfz41_3
      try clear hfz44_0
      try clear hfz44_1
      try clear hfz44_2
      try clear hfz44_3
      try clear hfz47_0
      try clear hfz47_1
      try clear hfz47_2
      try clear hfz47_3
      try clear hfz50_0
      try clear hfz50_1
      try clear hfz50_2
      try clear hfz50_3
      try clear hfz55_0
      try clear hfz55_1
      try clear hfz55_2
      try clear hfz55_3
      try clear hfz9_0
      try clear hfz9_1
      try clear hfz9_2
      try clear hfz9_3
      try clear hx297_0
      try clear hx299_0
      try clear hx302_0
      try clear p2
      try clear p297
      try clear p299
      try clear p302
      try clear q297
      try clear q299
      try clear q302
      obtain ⟨kq, x84_52, rfl, HA, HJ52, HO_297002, HO_297003, BK279, BK296, HB⟩ := hcut
      cases kq with
      | zero => exact absurd HA.out (by simp [semigrouplaw07_DfaReaches.j2])
      | succ kj52 =>
       have H := HA.out
       clear HA
       simp only [semigrouplaw07_DfaReaches.j2] at H
       by_cases c62 : x84_52 = true
       (focus
       subst c62
       have H1 : (some false) = some r := by rw [if_pos rfl] at H; exact H
       clear H
       have H := H1
       clear H1
       obtain rfl := Option.some.inj H
       go_wp2
       go_ret
       exact ⟨by first | rfl | (simp [errW_none, errW_some] <;> rfl) | (simp [*, errW_none, errW_some] <;> rfl), by repeat (first | (with_reducible first | exact HB.out | apply below_alloc | apply pw_below_drewN | apply below_drew1 | refine below_set ?_ GE279.out | refine below_set ?_ GE296.out) | exact HB.out)⟩
       )
       (focus
       replace c62 := Bool.eq_false_iff.mpr c62
       subst c62
       have H1 : ((semigrouplaw07_awake.f kj52).bind fun t304 => (some t304)) = some r := by rw [if_neg (show ¬ (false = true) by decide)] at H; exact H
       clear H
       have H := H1
       clear H1
       replace H := Option.bind_eq_some_iff.mp H
       obtain ⟨t304, A630, H⟩ := H
       replace H : (some t304) = some r := H
       have A63 := Aside0.mk A630
       clear A630
       obtain rfl := Option.some.inj H
       go_wp2_with (first | ((with_reducible refine gate_callee (f := 16) rfl ?_); refine goesL_ (some 85) rfl rfl Try.func16 (by kernel_rfl) rfl #[] rfl (by (try simp only [List.map_toArray, List.map_cons, List.map_nil]); first | done | rfl | (simp only [List.length_drop, List.length_take]; rfl)) ?_; (with_reducible refine (semigrouplaw07_awake.calls kj52  t304 _ A63.out).mono ?_); rintro e w64 ⟨rfl, hb⟩; refine ⟨_, rfl, ?_⟩; have n0_ := Aside0.mk (Kd.R_below (uR HO_297002.out) hb); have n1_ := Aside0.mk (Kd.S_below (by (with_reducible repeat (first | apply Kd.S_alloc | apply Kd.S_drewN | apply Kd.S_drew)); exact HO_297003.out) hb); have n2_ := Aside0.mk (blk_below (g := gb279) (o := .cells #[.int .i64 a0_0, .int .i64 a0_1, .slice A0_2 l0_2.length c0_2, .slice A0_3 l0_3.length c0_3] 25 (0, 0)) (uB BK279.out) hb); have n3_ := Aside0.mk (blk_below (g := gb296) (o := .cells #[.int .i64 t285, .int .i64 t286, .slice Ao18 t287.length co18, .slice Ao19 t290.length co19] 25 (0, 0)) (uB BK296.out) hb); have n4_ := Aside0.mk (below_step (by repeat (first | (with_reducible first | exact HB.out | apply below_alloc | apply pw_below_drewN | apply below_drew1 | refine below_set ?_ GE279.out | refine below_set ?_ GE296.out) | exact HB.out)) hb); clear HO_297002; clear HO_297003; clear BK279; clear BK296; clear HB; have HO_297002 := n0_; have HO_297003 := n1_; have BK279 := n2_; have BK296 := n3_; have HB := n4_; clear n0_ n1_ n2_ n3_ n4_; (try clear hb); (try clear hb2); (try clear hk); (try clear hi)))
       go_ret
       exact ⟨by first | rfl | (simp [errW_none, errW_some] <;> rfl) | (simp [*, errW_none, errW_some] <;> rfl), by repeat (first | (with_reducible first | exact HB.out | apply below_alloc | apply pw_below_drewN | apply below_drew1 | refine below_set ?_ GE279.out | refine below_set ?_ GE296.out) | exact HB.out)⟩
       )
     )
   )
 )
 (focus
 replace c5 := Bool.eq_false_iff.mpr c5
 subst c5
 have H1 : (if (t280.length : Int) = 0 then ((semigrouplaw07_awake.f k).bind fun t284 => (some t284)) else (some false)) = some r := by rw [if_neg (show ¬ (false = true) by decide)] at H; exact H
 clear H
 have H := H1
 clear H1
 by_cases c65 : (t280.length : Int) = 0
 (focus
 rw [if_pos c65] at H
 have c65b0 : ((t280.length : Int) == 0) = true := beq_iff_eq.mpr c65
 have c65b1 : ((t280.length : Int) != 0) = false := bne_eq_false_iff_eq.mpr c65
 clear c65
 replace H := Option.bind_eq_some_iff.mp H
 obtain ⟨t284, A660, H⟩ := H
 replace H : (some t284) = some r := H
 have A66 := Aside0.mk A660
 clear A660
 obtain rfl := Option.some.inj H
 go_enter Try.func11, Try.ntmps11
 go_wp2_with (first | ((with_reducible refine gate_dst (N := 2) rfl ?_); (try (refine gate_guard (by rfl) ?_; dsimp only)); refine box_event ?hg (N := 2) ?hd (cs := #[.int .i64 a0_0, .int .i64 a0_1, .slice A0_2 l0_2.length c0_2, .slice A0_3 l0_3.length c0_3]) (t := 25) ?hr ?_; (case hd => rfl); (case hg => rfl); (case hr => first | (go_simp; done) | (go_simp; rfl)); intro gb279 hg w67 hbox hb; have n0_ := Aside0.mk (below_step (by repeat (first | (with_reducible first | exact HB.out | apply below_alloc | apply pw_below_drewN | apply below_drew1) | exact HB.out)) hb); have n1_ := Aside0.mk (hbox); have n2_ := Aside0.mk ((by rw [hg]; exact (below_size (by repeat (first | (with_reducible first | exact HB.out | apply below_alloc | apply pw_below_drewN | apply below_drew1) | exact HB.out))) : w.heap.size ≤ gb279)); have n3_ := Aside0.mk ((by rw [hg]; exact (below_size (by repeat (first | (with_reducible first | exact HB.out | apply below_alloc | apply pw_below_drewN | apply below_drew1) | exact HB.out))) : w.heap.size ≤ gb279)); clear HB; have HB := n0_; have BK279 := n1_; have GW279 := n2_; have GE279 := n3_; clear n0_ n1_ n2_ n3_; clear hb hbox hg; have hcz68_0 : w67.cell? ⟨gb279, 0, none⟩ = some (.int .i64 a0_0) := (blk_cell BK279.out 0).trans rfl; have hcz68_1 : w67.cell? ⟨gb279, 1, none⟩ = some (.int .i64 a0_1) := (blk_cell BK279.out 1).trans rfl; have hcz68_2 : w67.cell? ⟨gb279, 2, none⟩ = some (.slice A0_2 l0_2.length c0_2) := (blk_cell BK279.out 2).trans rfl; have hcz68_3 : w67.cell? ⟨gb279, 3, none⟩ = some (.slice A0_3 l0_3.length c0_3) := (blk_cell BK279.out 3).trans rfl; have hfz68_0 := blk_frozen BK279.out 0; have hfz68_1 := blk_frozen BK279.out 1; have hfz68_2 := blk_frozen BK279.out 2; have hfz68_3 := blk_frozen BK279.out 3) | ((with_reducible refine gate_callee (f := 37) rfl ?_); refine goesL_ (some 12) rfl rfl Try.func37 (by kernel_rfl) rfl #[.agg #[.int .i64 a0_0, .int .i64 a0_1, .slice A0_2 l0_2.length c0_2, .slice A0_3 l0_3.length c0_3]] rfl (by (try simp only [List.map_toArray, List.map_cons, List.map_nil]); first | done | rfl | (simp only [List.length_drop, List.length_take]; rfl)) ?_; (with_reducible refine (dfa_Access.calls k a0_0 a0_1 _ _ l0_2 _ _ l0_3 t280 _ ?side1 ?side2 ?side3 ?side4 A3.out).mono ?_); (case side1 => repeat (first | exact (Kd.C_below HR0_2.out HB.out) | (with_reducible refine Kd.C_alloc ?_ _) | (with_reducible refine Kd.C_drewN ?_ _) | (with_reducible refine Kd.C_drew ?_))); (case side2 => exact HC0_2.out); (case side3 => repeat (first | exact (Kd.C_below HR0_3.out HB.out) | (with_reducible refine Kd.C_alloc ?_ _) | (with_reducible refine Kd.C_drewN ?_ _) | (with_reducible refine Kd.C_drew ?_))); (case side4 => exact HC0_3.out); rintro e w69 ⟨v281, rfl, ho0, hb⟩; refine ⟨_, rfl, ?_⟩; have n0_ := Aside0.mk (Kd.R_lower ho0 (below_size (by repeat (first | (with_reducible first | exact HB.out | apply below_alloc | apply pw_below_drewN | apply below_drew1 | refine below_set ?_ GE279.out) | exact HB.out)))); have n1_ := Aside0.mk (blk_below (g := gb279) (o := .cells #[.int .i64 a0_0, .int .i64 a0_1, .slice A0_2 l0_2.length c0_2, .slice A0_3 l0_3.length c0_3] 25 (0, 0)) (uB BK279.out) hb); have n2_ := Aside0.mk (below_step (by repeat (first | (with_reducible first | exact HB.out | apply below_alloc | apply pw_below_drewN | apply below_drew1 | refine below_set ?_ GE279.out) | exact HB.out)) hb); clear BK279; clear HB; have HO282 := n0_; have BK279 := n1_; have HB := n2_; clear n0_ n1_ n2_; (try clear hb); (try clear hb2); (try clear hk); (try clear hi); (try clear ho0); have hcz70_0 : w69.cell? ⟨gb279, 0, none⟩ = some (.int .i64 a0_0) := (blk_cell BK279.out 0).trans rfl; have hcz70_1 : w69.cell? ⟨gb279, 1, none⟩ = some (.int .i64 a0_1) := (blk_cell BK279.out 1).trans rfl; have hcz70_2 : w69.cell? ⟨gb279, 2, none⟩ = some (.slice A0_2 l0_2.length c0_2) := (blk_cell BK279.out 2).trans rfl; have hcz70_3 : w69.cell? ⟨gb279, 3, none⟩ = some (.slice A0_3 l0_3.length c0_3) := (blk_cell BK279.out 3).trans rfl; have hfz70_0 := blk_frozen BK279.out 0; have hfz70_1 := blk_frozen BK279.out 1; have hfz70_2 := blk_frozen BK279.out 2; have hfz70_3 := blk_frozen BK279.out 3) | ((with_reducible refine gate_callee (f := 17) rfl ?_); refine goesL_ (some 14) rfl rfl Try.func17 (by kernel_rfl) rfl #[.agg #[.int .i64 a0_0, .int .i64 a0_1, .slice A0_2 l0_2.length c0_2, .slice A0_3 l0_3.length c0_3]] rfl (by (try simp only [List.map_toArray, List.map_cons, List.map_nil]); first | done | rfl | (simp only [List.length_drop, List.length_take]; rfl)) ?_; (with_reducible refine (semigrouplaw07_valid.calls k a0_0 a0_1 _ _ l0_2 _ _ l0_3 false _ ?side1 ?side2 ?side3 ?side4 A4.out).mono ?_); (case side1 => repeat (first | exact (Kd.C_below HR0_2.out HB.out) | (with_reducible refine Kd.C_alloc ?_ _) | (with_reducible refine Kd.C_drewN ?_ _) | (with_reducible refine Kd.C_drew ?_))); (case side2 => exact HC0_2.out); (case side3 => repeat (first | exact (Kd.C_below HR0_3.out HB.out) | (with_reducible refine Kd.C_alloc ?_ _) | (with_reducible refine Kd.C_drewN ?_ _) | (with_reducible refine Kd.C_drew ?_))); (case side4 => exact HC0_3.out); rintro e w71 ⟨rfl, hb⟩; refine ⟨_, rfl, ?_⟩; have n0_ := Aside0.mk (Kd.R_below (uR HO282.out) hb); have n1_ := Aside0.mk (blk_below (g := gb279) (o := .cells #[.int .i64 a0_0, .int .i64 a0_1, .slice A0_2 l0_2.length c0_2, .slice A0_3 l0_3.length c0_3] 25 (0, 0)) (uB BK279.out) hb); have n2_ := Aside0.mk (below_step (by repeat (first | (with_reducible first | exact HB.out | apply below_alloc | apply pw_below_drewN | apply below_drew1 | refine below_set ?_ GE279.out) | exact HB.out)) hb); clear HO282; clear BK279; clear HB; have HO282 := n0_; have BK279 := n1_; have HB := n2_; clear n0_ n1_ n2_; (try clear hb); (try clear hb2); (try clear hk); (try clear hi); obtain ⟨Ao72, co72, eo72⟩ := Kd.R_slice HO282.out; subst eo72) | (go_at_call 16; (with_reducible refine (semigrouplaw07_awake.calls k  t284 _ A66.out).mono ?_); rintro e w73 ⟨rfl, hb⟩; have n0_ := Aside0.mk (Kd.R_below (uR HO282.out) hb); have n1_ := Aside0.mk (blk_below (g := gb279) (o := .cells #[.int .i64 a0_0, .int .i64 a0_1, .slice A0_2 l0_2.length c0_2, .slice A0_3 l0_3.length c0_3] 25 (0, 0)) (uB BK279.out) hb); have n2_ := Aside0.mk (below_step (by repeat (first | (with_reducible first | exact HB.out | apply below_alloc | apply pw_below_drewN | apply below_drew1 | refine below_set ?_ GE279.out) | exact HB.out)) hb); clear HO282; clear BK279; clear HB; have HO282 := n0_; have BK279 := n1_; have HB := n2_; clear n0_ n1_ n2_; (try clear hb); (try clear hb2); (try clear hk); (try clear hi)))
 go_ret
 exact ⟨by first | rfl | (simp [errW_none, errW_some] <;> rfl) | (simp [*, errW_none, errW_some] <;> rfl), by repeat (first | (with_reducible first | exact HB.out | apply below_alloc | apply pw_below_drewN | apply below_drew1 | refine below_set ?_ GE279.out) | exact HB.out)⟩
 )
 (focus
 rw [if_neg c65] at H
 have c65b0 : ((t280.length : Int) == 0) = false := beq_eq_false_iff_ne.mpr c65
 have c65b1 : ((t280.length : Int) != 0) = true := bne_iff_ne.mpr c65
 have c65b2 : ¬ (t280 = []) := fun h_ => c65 (by rw [h_]; rfl)
 obtain rfl := Option.some.inj H
 go_enter Try.func11, Try.ntmps11
 go_wp2_with (first | ((with_reducible refine gate_dst (N := 2) rfl ?_); (try (refine gate_guard (by rfl) ?_; dsimp only)); refine box_event ?hg (N := 2) ?hd (cs := #[.int .i64 a0_0, .int .i64 a0_1, .slice A0_2 l0_2.length c0_2, .slice A0_3 l0_3.length c0_3]) (t := 25) ?hr ?_; (case hd => rfl); (case hg => rfl); (case hr => first | (go_simp; done) | (go_simp; rfl)); intro gb279 hg w74 hbox hb; have n0_ := Aside0.mk (below_step (by repeat (first | (with_reducible first | exact HB.out | apply below_alloc | apply pw_below_drewN | apply below_drew1) | exact HB.out)) hb); have n1_ := Aside0.mk (hbox); have n2_ := Aside0.mk ((by rw [hg]; exact (below_size (by repeat (first | (with_reducible first | exact HB.out | apply below_alloc | apply pw_below_drewN | apply below_drew1) | exact HB.out))) : w.heap.size ≤ gb279)); have n3_ := Aside0.mk ((by rw [hg]; exact (below_size (by repeat (first | (with_reducible first | exact HB.out | apply below_alloc | apply pw_below_drewN | apply below_drew1) | exact HB.out))) : w.heap.size ≤ gb279)); clear HB; have HB := n0_; have BK279 := n1_; have GW279 := n2_; have GE279 := n3_; clear n0_ n1_ n2_ n3_; clear hb hbox hg; have hcz75_0 : w74.cell? ⟨gb279, 0, none⟩ = some (.int .i64 a0_0) := (blk_cell BK279.out 0).trans rfl; have hcz75_1 : w74.cell? ⟨gb279, 1, none⟩ = some (.int .i64 a0_1) := (blk_cell BK279.out 1).trans rfl; have hcz75_2 : w74.cell? ⟨gb279, 2, none⟩ = some (.slice A0_2 l0_2.length c0_2) := (blk_cell BK279.out 2).trans rfl; have hcz75_3 : w74.cell? ⟨gb279, 3, none⟩ = some (.slice A0_3 l0_3.length c0_3) := (blk_cell BK279.out 3).trans rfl; have hfz75_0 := blk_frozen BK279.out 0; have hfz75_1 := blk_frozen BK279.out 1; have hfz75_2 := blk_frozen BK279.out 2; have hfz75_3 := blk_frozen BK279.out 3) | ((with_reducible refine gate_callee (f := 37) rfl ?_); refine goesL_ (some 12) rfl rfl Try.func37 (by kernel_rfl) rfl #[.agg #[.int .i64 a0_0, .int .i64 a0_1, .slice A0_2 l0_2.length c0_2, .slice A0_3 l0_3.length c0_3]] rfl (by (try simp only [List.map_toArray, List.map_cons, List.map_nil]); first | done | rfl | (simp only [List.length_drop, List.length_take]; rfl)) ?_; (with_reducible refine (dfa_Access.calls k a0_0 a0_1 _ _ l0_2 _ _ l0_3 t280 _ ?side1 ?side2 ?side3 ?side4 A3.out).mono ?_); (case side1 => repeat (first | exact (Kd.C_below HR0_2.out HB.out) | (with_reducible refine Kd.C_alloc ?_ _) | (with_reducible refine Kd.C_drewN ?_ _) | (with_reducible refine Kd.C_drew ?_))); (case side2 => exact HC0_2.out); (case side3 => repeat (first | exact (Kd.C_below HR0_3.out HB.out) | (with_reducible refine Kd.C_alloc ?_ _) | (with_reducible refine Kd.C_drewN ?_ _) | (with_reducible refine Kd.C_drew ?_))); (case side4 => exact HC0_3.out); rintro e w76 ⟨v281, rfl, ho0, hb⟩; refine ⟨_, rfl, ?_⟩; have n0_ := Aside0.mk (Kd.R_lower ho0 (below_size (by repeat (first | (with_reducible first | exact HB.out | apply below_alloc | apply pw_below_drewN | apply below_drew1 | refine below_set ?_ GE279.out) | exact HB.out)))); have n1_ := Aside0.mk (blk_below (g := gb279) (o := .cells #[.int .i64 a0_0, .int .i64 a0_1, .slice A0_2 l0_2.length c0_2, .slice A0_3 l0_3.length c0_3] 25 (0, 0)) (uB BK279.out) hb); have n2_ := Aside0.mk (below_step (by repeat (first | (with_reducible first | exact HB.out | apply below_alloc | apply pw_below_drewN | apply below_drew1 | refine below_set ?_ GE279.out) | exact HB.out)) hb); clear BK279; clear HB; have HO282 := n0_; have BK279 := n1_; have HB := n2_; clear n0_ n1_ n2_; (try clear hb); (try clear hb2); (try clear hk); (try clear hi); (try clear ho0); have hcz77_0 : w76.cell? ⟨gb279, 0, none⟩ = some (.int .i64 a0_0) := (blk_cell BK279.out 0).trans rfl; have hcz77_1 : w76.cell? ⟨gb279, 1, none⟩ = some (.int .i64 a0_1) := (blk_cell BK279.out 1).trans rfl; have hcz77_2 : w76.cell? ⟨gb279, 2, none⟩ = some (.slice A0_2 l0_2.length c0_2) := (blk_cell BK279.out 2).trans rfl; have hcz77_3 : w76.cell? ⟨gb279, 3, none⟩ = some (.slice A0_3 l0_3.length c0_3) := (blk_cell BK279.out 3).trans rfl; have hfz77_0 := blk_frozen BK279.out 0; have hfz77_1 := blk_frozen BK279.out 1; have hfz77_2 := blk_frozen BK279.out 2; have hfz77_3 := blk_frozen BK279.out 3) | ((with_reducible refine gate_callee (f := 17) rfl ?_); refine goesL_ (some 14) rfl rfl Try.func17 (by kernel_rfl) rfl #[.agg #[.int .i64 a0_0, .int .i64 a0_1, .slice A0_2 l0_2.length c0_2, .slice A0_3 l0_3.length c0_3]] rfl (by (try simp only [List.map_toArray, List.map_cons, List.map_nil]); first | done | rfl | (simp only [List.length_drop, List.length_take]; rfl)) ?_; (with_reducible refine (semigrouplaw07_valid.calls k a0_0 a0_1 _ _ l0_2 _ _ l0_3 false _ ?side1 ?side2 ?side3 ?side4 A4.out).mono ?_); (case side1 => repeat (first | exact (Kd.C_below HR0_2.out HB.out) | (with_reducible refine Kd.C_alloc ?_ _) | (with_reducible refine Kd.C_drewN ?_ _) | (with_reducible refine Kd.C_drew ?_))); (case side2 => exact HC0_2.out); (case side3 => repeat (first | exact (Kd.C_below HR0_3.out HB.out) | (with_reducible refine Kd.C_alloc ?_ _) | (with_reducible refine Kd.C_drewN ?_ _) | (with_reducible refine Kd.C_drew ?_))); (case side4 => exact HC0_3.out); rintro e w78 ⟨rfl, hb⟩; refine ⟨_, rfl, ?_⟩; have n0_ := Aside0.mk (Kd.R_below (uR HO282.out) hb); have n1_ := Aside0.mk (blk_below (g := gb279) (o := .cells #[.int .i64 a0_0, .int .i64 a0_1, .slice A0_2 l0_2.length c0_2, .slice A0_3 l0_3.length c0_3] 25 (0, 0)) (uB BK279.out) hb); have n2_ := Aside0.mk (below_step (by repeat (first | (with_reducible first | exact HB.out | apply below_alloc | apply pw_below_drewN | apply below_drew1 | refine below_set ?_ GE279.out) | exact HB.out)) hb); clear HO282; clear BK279; clear HB; have HO282 := n0_; have BK279 := n1_; have HB := n2_; clear n0_ n1_ n2_; (try clear hb); (try clear hb2); (try clear hk); (try clear hi); obtain ⟨Ao79, co79, eo79⟩ := Kd.R_slice HO282.out; subst eo79))
 go_ret
 exact ⟨by first | rfl | (simp [errW_none, errW_some] <;> rfl) | (simp [*, errW_none, errW_some] <;> rfl), by repeat (first | (with_reducible first | exact HB.out | apply below_alloc | apply pw_below_drewN | apply below_drew1 | refine below_set ?_ GE279.out) | exact HB.out)⟩
 )
 )
end Go.Proofs.Ytpjbmgoagehjkaa.PDfaReaches
