import Derived.Test.YtpjbmgoagehjkaaZDfaListsx0
import Derived.Test.YtpjbmgoagehjkaaZDfaListsx6
namespace Go.Proofs.Ytpjbmgoagehjkaa.PDfaLists
open Go.RowKit Go.Proofs.YtpjbmgoagehjkaaH Go.Proofs.YtpjbmgoagehjkaaW.PrintWords Go.Proofs.YtpjbmgoagehjkaaW.PrintLast Go.Proofs.YtpjbmgoagehjkaaW.PrintMore
attribute [local go_sem] max2_int min2_int max_two min_two max_three min_three max_four min_four   -- for this text's walks alone
set_option linter.unusedVariables false
set_option linter.unusedSimpArgs false
/-! ### semigroupref07_Words: function 20 -/
mutual
def semigroupref07_Words.l0 : Nat → Int → List ByteArray → List (List Bool) → Int → Int → Int → List Bool → List (List Int) → Option (List ByteArray)
 | 0, _, _, _, _, _, _, _, _ => none
 | k + 1, x1, x5, x6, x7, x203000, x203001, x203002, x203003 => if x7 ≤ 2048 then (semigroupref07_Words.j1 k x1 x5 x6 x7 (decide ((x5.length : Int) < x1)) x203000 x203001 x203002 x203003) else (semigroupref07_Words.j1 k x1 x5 x6 x7 false x203000 x203001 x203002 x203003)
def semigroupref07_Words.j1 : Nat → Int → List ByteArray → List (List Bool) → Int → Bool → Int → Int → List Bool → List (List Int) → Option (List ByteArray)
 | 0, _, _, _, _, _, _, _, _, _ => none
 | k + 1, x1, x5, x6, x7, x22, x203000, x203001, x203002, x203003 => if x22 = true then ((semigroupref07_emit.f k x203000 x203001 x203002 x203003 x6 x203001 x7 (⟨#[]⟩ : ByteArray) x1 x5).bind fun t206 => (if 0 ≤ (x203002.length : Int) then (if ((x203002.length : Int) : Int).toNat ≤ 281474976710656 then ((some (List.replicate ((x203002.length : Int) : Int).toNat false : List Bool)).bind fun y209 => (semigroupref07_Words.l1 k x1 t206 x6 x7 y209 (y209.length : Int) 0 x203000 x203001 x203002 x203003)) else (none)) else (none))) else (some x5)
def semigroupref07_Words.l1 : Nat → Int → List ByteArray → List (List Bool) → Int → List Bool → Int → Int → Int → Int → List Bool → List (List Int) → Option (List ByteArray)
 | 0, _, _, _, _, _, _, _, _, _, _, _ => none
 | k + 1, x1, x5, x6, x7, x8, x38, x39, x203000, x203001, x203002, x203003 => if x39 < x38 then (if 0 ≤ x39 then (if x39 < (x203003.length : Int) then (semigroupref07_Words.l2 k x1 x5 x6 x7 x8 x39 x38 x39 (rd_L1 x203003 x39) ((rd_L1 x203003 x39).length : Int) 0 x203000 x203001 x203002 x203003) else (none)) else (none)) else (if x6.length < 5864062014805 then (semigroupref07_Words.l0 k x1 x5 (x6 ++ [x8]) (wrap64 (x7 + 1)) x203000 x203001 x203002 x203003) else (none))
def semigroupref07_Words.l2 : Nat → Int → List ByteArray → List (List Bool) → Int → List Bool → Int → Int → Int → List Int → Int → Int → Int → Int → List Bool → List (List Int) → Option (List ByteArray)
 | 0, _, _, _, _, _, _, _, _, _, _, _, _, _, _, _ => none
 | k + 1, x1, x5, x6, x7, x8, x9, x38, x39, x46, x47, x48, x203000, x203001, x203002, x203003 => if x48 < x47 then (if 0 ≤ x48 then (if x48 < (x46.length : Int) then (if 0 ≤ x9 then (if x9 < (x8.length : Int) then (if rdOf false x8 x9 = true then (semigroupref07_Words.l2 k x1 x5 x6 x7 (x8.set (x9 : Int).toNat true) x9 x38 x39 x46 x47 (wrap64 (x48 + 1)) x203000 x203001 x203002 x203003) else (if 0 ≤ x7 then (if x7 < (x6.length : Int) then (if 0 ≤ (rd x46 x48) then (if (rd x46 x48) < ((rd_L3 x6 x7).length : Int) then (semigroupref07_Words.l2 k x1 x5 x6 x7 (x8.set (x9 : Int).toNat (rdOf false (rd_L3 x6 x7) (rd x46 x48))) x9 x38 x39 x46 x47 (wrap64 (x48 + 1)) x203000 x203001 x203002 x203003) else (none)) else (none)) else (none)) else (none))) else (none)) else (none)) else (none)) else (none)) else (semigroupref07_Words.l1 k x1 x5 x6 x7 x8 x38 (wrap64 (x39 + 1)) x203000 x203001 x203002 x203003)
end
def semigroupref07_Words.f (k : Nat) (a0_0 : Int) (a0_1 : Int) (l0_2 : List Bool) (l0_3 : List (List Int)) (a1 : Int) : Option (List ByteArray) := semigroupref07_Words.l0 k a1 ([] : List ByteArray) (([l0_2] : List (List Bool))) 0 a0_0 a0_1 l0_2 l0_3
theorem semigroupref07_Words.mono_l : ∀ k, (∀ y0 y1 y2 y3 y4 y5 y6 y7, LeO (semigroupref07_Words.l0 k y0 y1 y2 y3 y4 y5 y6 y7) (semigroupref07_Words.l0 (k + 1) y0 y1 y2 y3 y4 y5 y6 y7)) ∧ (∀ y0 y1 y2 y3 y4 y5 y6 y7 y8, LeO (semigroupref07_Words.j1 k y0 y1 y2 y3 y4 y5 y6 y7 y8) (semigroupref07_Words.j1 (k + 1) y0 y1 y2 y3 y4 y5 y6 y7 y8)) ∧ (∀ y0 y1 y2 y3 y4 y5 y6 y7 y8 y9 y10, LeO (semigroupref07_Words.l1 k y0 y1 y2 y3 y4 y5 y6 y7 y8 y9 y10) (semigroupref07_Words.l1 (k + 1) y0 y1 y2 y3 y4 y5 y6 y7 y8 y9 y10)) ∧ (∀ y0 y1 y2 y3 y4 y5 y6 y7 y8 y9 y10 y11 y12 y13 y14, LeO (semigroupref07_Words.l2 k y0 y1 y2 y3 y4 y5 y6 y7 y8 y9 y10 y11 y12 y13 y14) (semigroupref07_Words.l2 (k + 1) y0 y1 y2 y3 y4 y5 y6 y7 y8 y9 y10 y11 y12 y13 y14))
 | 0 => ⟨fun _ _ _ _ _ _ _ _ r h => by simp [semigroupref07_Words.l0] at h, fun _ _ _ _ _ _ _ _ _ r h => by simp [semigroupref07_Words.j1] at h, fun _ _ _ _ _ _ _ _ _ _ _ r h => by simp [semigroupref07_Words.l1] at h, fun _ _ _ _ _ _ _ _ _ _ _ _ _ _ _ r h => by simp [semigroupref07_Words.l2] at h⟩
 | k + 1 => by
  obtain ⟨ih0, ih1, ih2, ih3⟩ := semigroupref07_Words.mono_l k
  refine ⟨?_, ?_, ?_, ?_⟩
  (focus
  intro y0 y1 y2 y3 y4 y5 y6 y7
  unfold semigroupref07_Words.l0
  repeat' first
  | (with_reducible exact ih0 _ _ _ _ _ _ _ _)
  | (with_reducible exact ih1 _ _ _ _ _ _ _ _ _)
  | (with_reducible exact ih2 _ _ _ _ _ _ _ _ _ _ _)
  | (with_reducible exact ih3 _ _ _ _ _ _ _ _ _ _ _ _ _ _ _)
  | (with_reducible exact semigroupref07_emit.mono _ _ _ _ _ _ _ _ _ _ _)
  | (with_reducible exact LeO.refl _)
  | (with_reducible exact LeO.none _)
  | (with_reducible refine LeO.ite ?_ ?_)
  | (with_reducible refine LeO.bind ?_ (fun _ => ?_))
  | exact ih0 _ _ _ _ _ _ _ _
  | exact ih1 _ _ _ _ _ _ _ _ _
  | exact ih2 _ _ _ _ _ _ _ _ _ _ _
  | exact ih3 _ _ _ _ _ _ _ _ _ _ _ _ _ _ _
  | exact semigroupref07_emit.mono _ _ _ _ _ _ _ _ _ _ _
  | exact LeO.none _
  | refine LeO.ite ?_ ?_
  | refine LeO.bind ?_ (fun _ => ?_)
  )
  (focus
  intro y0 y1 y2 y3 y4 y5 y6 y7 y8
  unfold semigroupref07_Words.j1
  repeat' first
  | (with_reducible exact ih0 _ _ _ _ _ _ _ _)
  | (with_reducible exact ih1 _ _ _ _ _ _ _ _ _)
  | (with_reducible exact ih2 _ _ _ _ _ _ _ _ _ _ _)
  | (with_reducible exact ih3 _ _ _ _ _ _ _ _ _ _ _ _ _ _ _)
  | (with_reducible exact semigroupref07_emit.mono _ _ _ _ _ _ _ _ _ _ _)
  | (with_reducible exact LeO.refl _)
  | (with_reducible exact LeO.none _)
  | (with_reducible refine LeO.ite ?_ ?_)
  | (with_reducible refine LeO.bind ?_ (fun _ => ?_))
  | exact ih0 _ _ _ _ _ _ _ _
  | exact ih1 _ _ _ _ _ _ _ _ _
  | exact ih2 _ _ _ _ _ _ _ _ _ _ _
  | exact ih3 _ _ _ _ _ _ _ _ _ _ _ _ _ _ _
  | exact semigroupref07_emit.mono _ _ _ _ _ _ _ _ _ _ _
  | exact LeO.none _
  | refine LeO.ite ?_ ?_
  | refine LeO.bind ?_ (fun _ => ?_)
  )
  (focus
  intro y0 y1 y2 y3 y4 y5 y6 y7 y8 y9 y10
  unfold semigroupref07_Words.l1
  repeat' first
  | (with_reducible exact ih0 _ _ _ _ _ _ _ _)
  | (with_reducible exact ih1 _ _ _ _ _ _ _ _ _)
  | (with_reducible exact ih2 _ _ _ _ _ _ _ _ _ _ _)
  | (with_reducible exact ih3 _ _ _ _ _ _ _ _ _ _ _ _ _ _ _)
  | (with_reducible exact semigroupref07_emit.mono _ _ _ _ _ _ _ _ _ _ _)
  | (with_reducible exact LeO.refl _)
  | (with_reducible exact LeO.none _)
  | (with_reducible refine LeO.ite ?_ ?_)
  | (with_reducible refine LeO.bind ?_ (fun _ => ?_))
  | exact ih0 _ _ _ _ _ _ _ _
  | exact ih1 _ _ _ _ _ _ _ _ _
  | exact ih2 _ _ _ _ _ _ _ _ _ _ _
  | exact ih3 _ _ _ _ _ _ _ _ _ _ _ _ _ _ _
  | exact semigroupref07_emit.mono _ _ _ _ _ _ _ _ _ _ _
  | exact LeO.none _
  | refine LeO.ite ?_ ?_
  | refine LeO.bind ?_ (fun _ => ?_)
  )
  (focus
  intro y0 y1 y2 y3 y4 y5 y6 y7 y8 y9 y10 y11 y12 y13 y14
  unfold semigroupref07_Words.l2
  repeat' first
  | (with_reducible exact ih0 _ _ _ _ _ _ _ _)
  | (with_reducible exact ih1 _ _ _ _ _ _ _ _ _)
  | (with_reducible exact ih2 _ _ _ _ _ _ _ _ _ _ _)
  | (with_reducible exact ih3 _ _ _ _ _ _ _ _ _ _ _ _ _ _ _)
  | (with_reducible exact semigroupref07_emit.mono _ _ _ _ _ _ _ _ _ _ _)
  | (with_reducible exact LeO.refl _)
  | (with_reducible exact LeO.none _)
  | (with_reducible refine LeO.ite ?_ ?_)
  | (with_reducible refine LeO.bind ?_ (fun _ => ?_))
  | exact ih0 _ _ _ _ _ _ _ _
  | exact ih1 _ _ _ _ _ _ _ _ _
  | exact ih2 _ _ _ _ _ _ _ _ _ _ _
  | exact ih3 _ _ _ _ _ _ _ _ _ _ _ _ _ _ _
  | exact semigroupref07_emit.mono _ _ _ _ _ _ _ _ _ _ _
  | exact LeO.none _
  | refine LeO.ite ?_ ?_
  | refine LeO.bind ?_ (fun _ => ?_)
  )
theorem semigroupref07_Words.mono : ∀ a0 a1 a2 a3 a4 k, LeO (semigroupref07_Words.f k a0 a1 a2 a3 a4) (semigroupref07_Words.f (k + 1) a0 a1 a2 a3 a4) := by
 intro a0 a1 a2 a3 a4 k
 obtain ⟨ih0, ih1, ih2, ih3⟩ := semigroupref07_Words.mono_l k
 unfold semigroupref07_Words.f
 repeat' first
  | (with_reducible exact ih0 _ _ _ _ _ _ _ _)
  | (with_reducible exact ih1 _ _ _ _ _ _ _ _ _)
  | (with_reducible exact ih2 _ _ _ _ _ _ _ _ _ _ _)
  | (with_reducible exact ih3 _ _ _ _ _ _ _ _ _ _ _ _ _ _ _)
  | (with_reducible exact semigroupref07_emit.mono _ _ _ _ _ _ _ _ _ _ _)
  | (with_reducible exact LeO.refl _)
  | (with_reducible exact LeO.none _)
  | (with_reducible refine LeO.ite ?_ ?_)
  | (with_reducible refine LeO.bind ?_ (fun _ => ?_))
  | exact ih0 _ _ _ _ _ _ _ _
  | exact ih1 _ _ _ _ _ _ _ _ _
  | exact ih2 _ _ _ _ _ _ _ _ _ _ _
  | exact ih3 _ _ _ _ _ _ _ _ _ _ _ _ _ _ _
  | exact semigroupref07_emit.mono _ _ _ _ _ _ _ _ _ _ _
  | exact LeO.none _
  | refine LeO.ite ?_ ?_
  | refine LeO.bind ?_ (fun _ => ?_)
set_option maxHeartbeats 8000000 in
set_option maxRecDepth 100000 in
theorem semigroupref07_Words.calls (k : Nat) (a0_0 : Int) (a0_1 : Int) (P0_2_ : Nat → Prop) (A0_2 : Option Addr) (c0_2 : Nat) (l0_2 : List Bool) (A0_3 : Option Addr) (c0_3 : Nat) (l0_3 : List (List Int)) (a1 : Int) (r : List ByteArray) (w : World) (hs0_2 : Kd.V Kd.bool 4 w w.heap.size (fun k_ => P0_2_ k_) (.slice A0_2 l0_2.length c0_2) l0_2) (hr0_3 : Kd.C (Kd.slice 3 (Kd.int .i64)) w A0_3 l0_3.length l0_3) (hc0_3 : l0_3.length ≤ c0_3) (h : semigroupref07_Words.f k a0_0 a0_1 l0_2 l0_3 a1 = some r) :
 Calls Try.prog 20 #[.agg #[.int .i64 a0_0, .int .i64 a0_1, .slice A0_2 l0_2.length c0_2, .slice A0_3 l0_3.length c0_3], .int .i64 a1] w fun e w' => ∃ v0_ : Value, e = .returned (v0_) ∧ Kd.R Kd.string 9 w' w.heap.size (fun k_ => (w.heap.size ≤ k_)) v0_ r ∧ Below w.heap.size w w' := by
 have hu25 := Try.underlying25
 have HO0_2 := Aside0.mk (show Kd.V Kd.bool 4 w w.heap.size (fun k_ => (P0_2_ k_ ∨ w.heap.size ≤ k_)) (.slice A0_2 l0_2.length c0_2) l0_2 from Kd.V_mono hs0_2 (fun k_ hk => .inl hk))
 have HR0_3 := Aside0.mk hr0_3
 have HC0_3 := Aside0.mk hc0_3
 clear hr0_3 hc0_3
 have HB := Aside0.mk (Below.refl w.heap.size w)
 have H : (semigroupref07_Words.l0 k a1 ([] : List ByteArray) (([l0_2] : List (List Bool))) 0 a0_0 a0_1 l0_2 l0_3) = some r := h
 clear h
 obtain ⟨y203, hy203⟩ : ∃ y_ : List (List Bool), y_ = (([l0_2] : List (List Bool))) := ⟨_, rfl⟩
 replace H : (semigroupref07_Words.l0 k a1 ([] : List ByteArray) y203 0 a0_0 a0_1 l0_2 l0_3) = some r := by first | (rw [hy203]; with_reducible exact H) | (have H2_ := (Option.bind_some _ _).symm.trans H; rw [hy203]; with_reducible exact H2_) | (have H2_ := (Option.bind_some _ _).symm.trans H; with_reducible exact H2_) | with_reducible exact H | (rw [hy203]; exact H) | exact H
 have Ny203 := Aside0.mk hy203
 clear hy203
 have H' := Aside0.mk H
 clear H
 go_enter Try.func20, Try.ntmps20
 go_wp2_with (first | ((with_reducible refine gate_dst (N := 2) rfl ?_); (try (refine gate_guard (by rfl) ?_; dsimp only)); refine box_event ?hg (N := 2) ?hd (cs := #[.int .i64 a0_0, .int .i64 a0_1, .slice A0_2 l0_2.length c0_2, .slice A0_3 l0_3.length c0_3]) (t := 25) ?hr ?_; (case hd => rfl); (case hg => rfl); (case hr => first | (go_simp; done) | (go_simp; rfl)); intro gb202 hg w3 hbox hb; have n0_ := Aside0.mk (Kd.V_below (Kd.V_elderB (by (with_reducible repeat (first | apply Kd.V_alloc | apply Kd.V_drewN | apply Kd.V_drew)); exact HO0_2.out) gb202 (Nat.le_of_eq hg.symm)) hb); have n1_ := Aside0.mk (below_step (by repeat (first | (with_reducible first | exact HB.out | apply below_alloc | apply pw_below_drewN | apply below_drew1) | exact HB.out)) hb); have n2_ := Aside0.mk (hbox); have n3_ := Aside0.mk ((by rw [hg]; exact (below_size (by repeat (first | (with_reducible first | exact HB.out | apply below_alloc | apply pw_below_drewN | apply below_drew1) | exact HB.out))) : w.heap.size ≤ gb202)); have n4_ := Aside0.mk ((by rw [hg]; exact (below_size (by repeat (first | (with_reducible first | exact HB.out | apply below_alloc | apply pw_below_drewN | apply below_drew1) | exact HB.out))) : w.heap.size ≤ gb202)); clear HO0_2; clear HB; have HO0_2 := n0_; have HB := n1_; have BK202 := n2_; have GW202 := n3_; have GE202 := n4_; clear n0_ n1_ n2_ n3_ n4_; clear hb hbox hg; have hcz4_0 : w3.cell? ⟨gb202, 0, none⟩ = some (.int .i64 a0_0) := (blk_cell BK202.out 0).trans rfl; have hcz4_1 : w3.cell? ⟨gb202, 1, none⟩ = some (.int .i64 a0_1) := (blk_cell BK202.out 1).trans rfl; have hcz4_2 : w3.cell? ⟨gb202, 2, none⟩ = some (.slice A0_2 l0_2.length c0_2) := (blk_cell BK202.out 2).trans rfl; have hcz4_3 : w3.cell? ⟨gb202, 3, none⟩ = some (.slice A0_3 l0_3.length c0_3) := (blk_cell BK202.out 3).trans rfl; have hfz4_0 := blk_frozen BK202.out 0; have hfz4_1 := blk_frozen BK202.out 1; have hfz4_2 := blk_frozen BK202.out 2; have hfz4_3 := blk_frozen BK202.out 3) | ((with_reducible refine gate_dst (N := 14) rfl ?_); (try (refine gate_guard (by rfl) ?_; dsimp only)); refine Kd.N_lit (Kd.slice 4 Kd.bool) _ 22 ?hg (N' := 14) ?hd (xs := ([l0_2] : List (List Bool))) (inner := [.slice A0_2 l0_2.length c0_2]) (ok := (fun k_ => (P0_2_ k_ ∨ w.heap.size ≤ k_) ∧ k_ ≠ gb202)) (okp := (fun k_ => (P0_2_ k_ ∨ w.heap.size ≤ k_) ∧ k_ ≠ gb202)) ?hr ?hp (fun _ hk => hk) ((show ∀ k_, w3.heap.size ≤ k_ → (fun k_ => (P0_2_ k_ ∨ w.heap.size ≤ k_) ∧ k_ ≠ gb202) k_ from fun k_ hk => ⟨(.inr (Nat.le_trans (below_size (by repeat (first | (with_reducible first | exact HB.out | apply below_alloc | apply pw_below_drewN | apply below_drew1 | refine below_set ?_ GE202.out) | exact HB.out))) hk)), Kd.freshB (g := gb202) (o := .cells #[.int .i64 a0_0, .int .i64 a0_1, .slice A0_2 l0_2.length c0_2, .slice A0_3 l0_3.length c0_3] 25 (0, 0)) (uB BK202.out) k_ hk⟩) _ (Nat.le_refl _)) (Below.refl _ _) (Nat.le_refl _) (by simp) ?_; (case hd => rfl); (case hg => rfl); (case hr => first | (go_simp; done) | (go_simp; rfl)); (case hp => exact (Reps.one (show Kd.FK (Kd.slice 4 Kd.bool) _ _ l0_2 [.slice A0_2 l0_2.length c0_2] from (FK_of_V (Kd.V_mono (ok' := (fun k_ => (P0_2_ k_ ∨ w.heap.size ≤ k_) ∧ k_ ≠ gb202)) (HO0_2.out) (fun k_ hk => ⟨hk.1, hk.2⟩)))) (Reps.none _ _))); intro v204 w5 ho6 hb hg_ hnew_; clear hg_ hnew_; (first | rw [← Ny203.out] at ho6 | (simp only [Int.reduceToNat] at ho6; rw [← Ny203.out] at ho6)); have n0_ := Aside0.mk (Kd.V_elder' (by (with_reducible repeat (first | apply Kd.V_alloc | apply Kd.V_drewN | apply Kd.V_drew)); exact HO0_2.out) (Kd.N_base ho6) hb); have n1_ := Aside0.mk (Kd.N_lower ho6 (below_size (by repeat (first | (with_reducible first | exact HB.out | apply below_alloc | apply pw_below_drewN | apply below_drew1 | refine below_set ?_ GE202.out) | exact HB.out)))); have n2_ := Aside0.mk (blk_below (g := gb202) (o := .cells #[.int .i64 a0_0, .int .i64 a0_1, .slice A0_2 l0_2.length c0_2, .slice A0_3 l0_3.length c0_3] 25 (0, 0)) (uB BK202.out) hb); have n3_ := Aside0.mk (below_step (by repeat (first | (with_reducible first | exact HB.out | apply below_alloc | apply pw_below_drewN | apply below_drew1 | refine below_set ?_ GE202.out) | exact HB.out)) hb); clear HO0_2; clear BK202; clear HB; have HO0_2 := n0_; have HO205 := n1_; have BK202 := n2_; have HB := n3_; clear n0_ n1_ n2_ n3_; clear hb ho6))
 go_loopg [5, 6, 7] k (fun kq v5 v6 v7 w' => ∃ (x5_1 : List ByteArray) (x6_1 : List (List Bool)) (x7_1 : Int) (x203002_1 : List Bool) (u203002 : Value), v7 = .int .i64 x7_1 ∧ Aside0 (semigroupref07_Words.l0 kq a1 x5_1 x6_1 x7_1 a0_0 a0_1 x203002_1 l0_3 = some r) ∧ Aside0 (kq ≤ k) ∧ Aside0 (Kd.R Kd.string 9 w' w.heap.size (fun k_ => (w.heap.size ≤ k_)) v5 x5_1) ∧ Aside0 (Kd.N (Kd.slice 4 Kd.bool) 22 w' w.heap.size (fun k_ => (P0_2_ k_ ∨ w.heap.size ≤ k_) ∧ some k_ ≠ (v5 : Value).ownBlock ∧ k_ ≠ gb202) v6 x6_1) ∧ Aside0 (Kd.V Kd.bool 4 w' w.heap.size (fun k_ => (P0_2_ k_ ∨ w.heap.size ≤ k_) ∧ some k_ ≠ (v5 : Value).ownBlock ∧ some k_ ≠ (v6 : Value).ownBlock ∧ k_ ≠ gb202) u203002 x203002_1) ∧ Aside0 (w'.heap[gb202]? = some (.cells #[.int .i64 a0_0, .int .i64 a0_1, u203002, (.slice A0_3 l0_3.length c0_3)] 25 (0, 0))) ∧ Aside0 (Below w.heap.size w w'))
 case atStart => exact ⟨(([] : List ByteArray)), (y203), (0), (l0_2), (.slice A0_2 l0_2.length c0_2), (by first | rfl | (simp; done) | (simp [*]; done)), H', ⟨Nat.le_refl _⟩, ⟨by first | exact Kd.R_nil _ _ _ _ _ | exact Kd.N_nil _ _ _ _ _ | exact Kd.V_nil _ _ _ _ _ | exact Kd.Q_nil _ _ _ _ _ | exact Kd.S_nil _ _ _ _ _⟩, ⟨by (with_reducible repeat (first | apply Kd.N_alloc | apply Kd.N_drewN | apply Kd.N_drew)); exact Kd.N_mono HO205.out (fun _ hk => ⟨hk.1, ⟨(by simp [Value.ownBlock]), hk.2⟩⟩)⟩, ⟨by (with_reducible repeat (first | apply Kd.V_alloc | apply Kd.V_drewN | apply Kd.V_drew)); exact Kd.V_mono HO0_2.out (fun _ hk => ⟨hk.1.1, ⟨(by simp [Value.ownBlock]), ⟨hk.2, hk.1.2⟩⟩⟩)⟩, ⟨by (with_reducible repeat (first | refine blk_drewN ?_ _ | refine blk_drew ?_ | refine blk_alloc ?_ _)); exact BK202.out⟩, ⟨by repeat (first | (with_reducible first | exact HB.out | apply below_alloc | apply pw_below_drewN | apply below_drew1 | refine below_set ?_ GE202.out) | exact HB.out)⟩⟩
 case round =>
  clear H'
  try clear c2
  try clear p2
  try clear hcz4_0
  try clear hcz4_1
  try clear hcz4_2
  try clear hcz4_3
  try clear hfz4_0
  try clear hfz4_1
  try clear hfz4_2
  try clear hfz4_3
  obtain ⟨x5_1, x6_1, x7_1, x203002_1, u203002, rfl, HA, HK1, HO_5, HO_6, HO_203002, BK202, HB⟩ := hrel
  cases gk with
  | zero => exact absurd HA.out (by simp [semigroupref07_Words.l0])
  | succ k1 =>
   have H := HA.out
   clear HA
   simp only [semigroupref07_Words.l0] at H
   have HC7 := Aside0.mk H
   clear H
   go_upto_region 4 with (fail)
   go_cut [22] (fun v22 wc => ∃ (kq : Nat) (x22_6 : Bool), v22 = .bool x22_6 ∧ Aside0 (semigroupref07_Words.j1 kq a1 x5_1 x6_1 x7_1 x22_6 a0_0 a0_1 x203002_1 l0_3 = some r) ∧ Aside0 (kq ≤ k1) ∧ Aside0 (Kd.R Kd.string 9 wc w.heap.size (fun k_ => (w.heap.size ≤ k_)) u5 x5_1) ∧ Aside0 (Kd.N (Kd.slice 4 Kd.bool) 22 wc w.heap.size (fun k_ => (P0_2_ k_ ∨ w.heap.size ≤ k_) ∧ some k_ ≠ (u5 : Value).ownBlock ∧ k_ ≠ gb202) u6 x6_1) ∧ Aside0 (Kd.V Kd.bool 4 wc w.heap.size (fun k_ => (P0_2_ k_ ∨ w.heap.size ≤ k_) ∧ some k_ ≠ (u5 : Value).ownBlock ∧ some k_ ≠ (u6 : Value).ownBlock ∧ k_ ≠ gb202) u203002 x203002_1) ∧ Aside0 (wc.heap[gb202]? = some (.cells #[.int .i64 a0_0, .int .i64 a0_1, u203002, (.slice A0_3 l0_3.length c0_3)] 25 (0, 0))) ∧ Aside0 (Below w.heap.size w wc))
   case first =>
    have H := HC7.out
    clear HC7
    by_cases c8 : x7_1 ≤ 2048
    (focus
    rw [if_pos c8] at H
    have c8b0 : decide (x7_1 ≤ 2048) = true := decide_eq_true c8
    clear c8
    (first | rw [c8b0] | (simp only [i64_w, i32_w]; rw [c8b0]) | skip)
    have H' := Aside0.mk H
    clear H
    obtain ⟨Ao9, co9, eo9⟩ := Kd.R_slice HO_5.out
    subst eo9
    go_wp2
    go_meet
    case rel => exact ⟨_, (decide ((x5_1.length : Int) < a1)), (by first | rfl | (simp; done) | (simp [*]; done)), H', ⟨by have := HK1.out; first | omega | exact Nat.le_refl _⟩, ⟨by (with_reducible repeat (first | apply Kd.R_alloc | apply Kd.R_drewN | apply Kd.R_drew)); exact HO_5.out⟩, ⟨by (with_reducible repeat (first | apply Kd.N_alloc | apply Kd.N_drewN | apply Kd.N_drew)); exact HO_6.out⟩, ⟨by (with_reducible repeat (first | apply Kd.V_alloc | apply Kd.V_drewN | apply Kd.V_drew)); exact HO_203002.out⟩, ⟨by (with_reducible repeat (first | refine blk_drewN ?_ _ | refine blk_drew ?_ | refine blk_alloc ?_ _)); exact BK202.out⟩, ⟨by repeat (first | (with_reducible first | exact HB.out | apply below_alloc | apply pw_below_drewN | apply below_drew1 | refine below_set ?_ GE202.out) | exact HB.out)⟩⟩
    )
    (focus
    rw [if_neg c8] at H
    have c8b0 : decide (x7_1 ≤ 2048) = false := decide_eq_false c8
    clear c8
    (first | rw [c8b0] | (simp only [i64_w, i32_w]; rw [c8b0]) | skip)
    have H' := Aside0.mk H
    clear H
    go_wp2
    go_meet
    case rel => exact ⟨_, (false), (by first | rfl | (simp; done) | (simp [*]; done)), H', ⟨by have := HK1.out; first | omega | exact Nat.le_refl _⟩, ⟨by (with_reducible repeat (first | apply Kd.R_alloc | apply Kd.R_drewN | apply Kd.R_drew)); exact HO_5.out⟩, ⟨by (with_reducible repeat (first | apply Kd.N_alloc | apply Kd.N_drewN | apply Kd.N_drew)); exact HO_6.out⟩, ⟨by (with_reducible repeat (first | apply Kd.V_alloc | apply Kd.V_drewN | apply Kd.V_drew)); exact HO_203002.out⟩, ⟨by (with_reducible repeat (first | refine blk_drewN ?_ _ | refine blk_drew ?_ | refine blk_alloc ?_ _)); exact BK202.out⟩, ⟨by repeat (first | (with_reducible first | exact HB.out | apply below_alloc | apply pw_below_drewN | apply below_drew1 | refine below_set ?_ GE202.out) | exact HB.out)⟩⟩
    )
   case rest =>
    clear HC7
    try clear c2
    try clear p2
    try clear c8
    try clear c8b0
    try clear hcz4_0
    try clear hcz4_1
    try clear hcz4_2
    try clear hcz4_3
    try clear hfz4_0
    try clear hfz4_1
    try clear hfz4_2
    try clear hfz4_3
    try clear p2
    obtain ⟨kq, x22_6, rfl, HA, HJ6, HO_5, HO_6, HO_203002, BK202, HB⟩ := hcut
    cases kq with
    | zero => exact absurd HA.out (by simp [semigroupref07_Words.j1])
    | succ kj6 =>
     have H := HA.out
     clear HA
     simp only [semigroupref07_Words.j1] at H
     by_cases c10 : x22_6 = true
     (focus
     subst c10
     have H1 : ((semigroupref07_emit.f kj6 a0_0 a0_1 x203002_1 l0_3 x6_1 a0_1 x7_1 (⟨#[]⟩ : ByteArray) a1 x5_1).bind fun t206 => (if 0 ≤ (x203002_1.length : Int) then (if ((x203002_1.length : Int) : Int).toNat ≤ 281474976710656 then ((some (List.replicate ((x203002_1.length : Int) : Int).toNat false : List Bool)).bind fun y209 => (semigroupref07_Words.l1 kj6 a1 t206 x6_1 x7_1 y209 (y209.length : Int) 0 a0_0 a0_1 x203002_1 l0_3)) else (none)) else (none))) = some r := by rw [if_pos rfl] at H; exact H
     clear H
     have H := H1
     clear H1
     replace H := Option.bind_eq_some_iff.mp H
     obtain ⟨t206, A110, H⟩ := H
     replace H : (if 0 ≤ (x203002_1.length : Int) then (if ((x203002_1.length : Int) : Int).toNat ≤ 281474976710656 then ((some (List.replicate ((x203002_1.length : Int) : Int).toNat false : List Bool)).bind fun y209 => (semigroupref07_Words.l1 kj6 a1 t206 x6_1 x7_1 y209 (y209.length : Int) 0 a0_0 a0_1 x203002_1 l0_3)) else (none)) else (none)) = some r := H
     have A11 := Aside0.mk A110
     clear A110
     by_cases c12 : 0 ≤ (x203002_1.length : Int)
     (focus
     rw [if_pos c12] at H
     have c12b0 := eq_true c12
     have c12b1 : decide (0 ≤ (x203002_1.length : Int)) = true := decide_eq_true c12
     clear c12
     by_cases c13 : ((x203002_1.length : Int) : Int).toNat ≤ 281474976710656
     (focus
     rw [if_pos c13] at H
     have c13b0 := eq_true c13
     have c13b1 : decide (((x203002_1.length : Int) : Int).toNat ≤ 281474976710656) = true := decide_eq_true c13
     clear c13
     obtain ⟨y209, hy209⟩ : ∃ y_ : List Bool, y_ = (List.replicate ((x203002_1.length : Int) : Int).toNat false) := ⟨_, rfl⟩
     replace H : (semigroupref07_Words.l1 kj6 a1 t206 x6_1 x7_1 y209 (y209.length : Int) 0 a0_0 a0_1 x203002_1 l0_3) = some r := by first | (rw [hy209]; with_reducible exact H) | (have H2_ := (Option.bind_some _ _).symm.trans H; rw [hy209]; with_reducible exact H2_) | (have H2_ := (Option.bind_some _ _).symm.trans H; with_reducible exact H2_) | with_reducible exact H | (rw [hy209]; exact H) | exact H
     have Ny209 := Aside0.mk hy209
     clear hy209
     have H' := Aside0.mk H
     clear H
     have hcz14_0 : wc.cell? ⟨gb202, 0, none⟩ = some (.int .i64 a0_0) := (blk_cell BK202.out 0).trans rfl
     have hcz14_1 : wc.cell? ⟨gb202, 1, none⟩ = some (.int .i64 a0_1) := (blk_cell BK202.out 1).trans rfl
     have hcz14_2 : wc.cell? ⟨gb202, 2, none⟩ = some (u203002) := (blk_cell BK202.out 2).trans rfl
     have hcz14_3 : wc.cell? ⟨gb202, 3, none⟩ = some (.slice A0_3 l0_3.length c0_3) := (blk_cell BK202.out 3).trans rfl
     have hfz14_0 := blk_frozen BK202.out 0
     have hfz14_1 := blk_frozen BK202.out 1
     have hfz14_2 := blk_frozen BK202.out 2
     have hfz14_3 := blk_frozen BK202.out 3
     obtain ⟨Ao15, co15, eo15⟩ := Kd.V_slice HO_203002.out
     subst eo15
     obtain ⟨Ao16, co16, eo16⟩ := Kd.N_slice HO_6.out
     subst eo16
     obtain ⟨Ao17, co17, eo17⟩ := Kd.R_slice HO_5.out
     subst eo17
     go_wp2_with (first | ((with_reducible refine gate_callee (f := 44) rfl ?_); refine goesL_ (some 32) rfl rfl Try.func44 (by kernel_rfl) rfl #[.agg #[.int .i64 a0_0, .int .i64 a0_1, .slice Ao15 x203002_1.length co15, .slice A0_3 l0_3.length c0_3], .slice Ao16 x6_1.length co16, .int .i64 a0_1, .int .i64 x7_1, .string (⟨#[]⟩ : ByteArray), .int .i64 a1, .slice Ao17 x5_1.length co17] rfl (by (try simp only [List.map_toArray, List.map_cons, List.map_nil]); first | done | rfl | (simp only [List.length_drop, List.length_take]; rfl)) ?_; (with_reducible refine (semigroupref07_emit.calls kj6 a0_0 a0_1 _ _ x203002_1 _ _ l0_3 _ _ x6_1 a0_1 x7_1 (⟨#[]⟩ : ByteArray) a1 (fun k_ => some k_ = (.slice Ao17 x5_1.length co17 : Value).ownBlock) (.slice Ao17 x5_1.length co17) x5_1 t206 w _ ?side1 ?side2 ?side3 ?side4 ?side5 ?side6 ?side7 ?side8 A11.out).mono ?_); (case side1 => repeat (first | (with_reducible first | exact HB.out | apply below_alloc | apply pw_below_drewN | apply below_drew1 | refine below_set ?_ GE202.out) | exact HB.out)); (case side2 => exact Kd.C_kept_ownV (HO_203002.out) (fun k_ hk_ hs_ => (hk_.2.1) hs_)); (case side3 => exact (Kd.V_reads' HO_203002.out).2.1); (case side4 => exact Kd.C_kept_came (Kd.heap_slice 3 (Kd.heap_int .i64)) HR0_3.out (by repeat (first | (with_reducible first | exact HB.out | apply below_alloc | apply pw_below_drewN | apply below_drew1 | refine below_set ?_ GE202.out) | exact HB.out)) (fun k_ hs_ => (fun e_ => Kd.R_base HO_5.out k_ e_.symm) hs_)); (case side5 => exact HC0_3.out); (case side6 => exact Kd.C_kept_ownV (base := 0) (Kd.N_V (HO_6.out)) (fun k_ hk_ hs_ => (hk_.2.1) hs_)); (case side7 => exact (Kd.N_reads' HO_6.out).2.1); (case side8 => exact Kd.R_tight rfl HO_5.out); rintro e w18 ⟨v207, rfl, ho0, hb, hkp⟩; refine ⟨_, rfl, ?_⟩; have n0_ := Aside0.mk (Kd.N_mono (ok' := fun k_ => (P0_2_ k_ ∨ w.heap.size ≤ k_) ∧ k_ ≠ gb202 ∧ some k_ ≠ (v207 : Value).ownBlock) (Kd.N_keptB (HO_6.out) hkp (fun k_ hk_ hs_ => (hk_.2.1) hs_)) (fun k_ hk_ => ⟨hk_.1.1, hk_.1.2.2, fun e_ => Or.elim (ho0.1 k_ e_.symm) (fun hs_ => hk_.2.1 hs_) (fun hn_ => Nat.not_le.2 hk_.2.2 hn_)⟩)); have n1_ := Aside0.mk (Kd.V_mono (ok' := fun k_ => (P0_2_ k_ ∨ w.heap.size ≤ k_) ∧ some k_ ≠ (.slice Ao16 x6_1.length co16 : Value).ownBlock ∧ k_ ≠ gb202 ∧ some k_ ≠ (v207 : Value).ownBlock) (Kd.V_keptB (HO_203002.out) hkp (fun k_ hk_ hs_ => (hk_.2.1) hs_)) (fun k_ hk_ => ⟨hk_.1.1, hk_.1.2.2.1, hk_.1.2.2.2, fun e_ => Or.elim (ho0.1 k_ e_.symm) (fun hs_ => hk_.2.1 hs_) (fun hn_ => Nat.not_le.2 hk_.2.2 hn_)⟩)); have n2_ := Aside0.mk (blk_kept (uB BK202.out) hkp (fun hs_ => (fun e_ => (Kd.R_ne HO_5.out BK202.out (by decide)) e_) hs_)); have n3_ := Aside0.mk (Kd.R_mono (ok' := fun k_ => (w.heap.size ≤ k_)) ho0 (fun k_ hk_ => Or.elim hk_ (fun hs_ => (HO_5.out.1 k_ (hs_).symm)) (fun hn_ => (Nat.le_trans (below_size (by repeat (first | (with_reducible first | exact HB.out | apply below_alloc | apply pw_below_drewN | apply below_drew1 | refine below_set ?_ GE202.out) | exact HB.out))) hn_)))); have n4_ := Aside0.mk (hb); clear HO_6; clear HO_203002; clear BK202; clear HB; clear HO_5; have HO_6 := n0_; have HO_203002 := n1_; have BK202 := n2_; have HO208 := n3_; have HB := n4_; clear n0_ n1_ n2_ n3_ n4_; (try clear hb); (try clear hkp); (try clear ho0); have hcz19_0 : w18.cell? ⟨gb202, 0, none⟩ = some (.int .i64 a0_0) := (blk_cell BK202.out 0).trans rfl; have hcz19_1 : w18.cell? ⟨gb202, 1, none⟩ = some (.int .i64 a0_1) := (blk_cell BK202.out 1).trans rfl; have hcz19_2 : w18.cell? ⟨gb202, 2, none⟩ = some (.slice Ao15 x203002_1.length co15) := (blk_cell BK202.out 2).trans rfl; have hcz19_3 : w18.cell? ⟨gb202, 3, none⟩ = some (.slice A0_3 l0_3.length c0_3) := (blk_cell BK202.out 3).trans rfl; have hfz19_0 := blk_frozen BK202.out 0; have hfz19_1 := blk_frozen BK202.out 1; have hfz19_2 := blk_frozen BK202.out 2; have hfz19_3 := blk_frozen BK202.out 3) | ((with_reducible refine gate_dst (N := 36) rfl ?_); (try (refine gate_guard (by rfl) ?_; dsimp only)); refine Kd.R_make Kd.bool _ 4 rfl (N := 36) rfl 22 _ _ rfl (x203002_1.length : Int) rfl rfl Try.underlying22 (.bool false) 1 info4 rfl (by decide) (by omega) false (ok := fun _ => True) (okp := fun _ => True) rfl (fun _ hk => hk) trivial (of_decide_eq_true (by first | (with_reducible assumption) | assumption)) (Nat.le_trans (Nat.mul_le_mul_right _ (of_decide_eq_true (by first | (with_reducible assumption) | assumption) : (x203002_1.length : Int).toNat ≤ 281474976710656)) (by omega)) (Below.refl _ _) (Nat.le_refl _) ?_; intro v210 w20 ho21 hb hg_ hnew_; clear hg_ hnew_; (first | rw [← Ny209.out] at ho21 | (simp only [Int.reduceToNat] at ho21; rw [← Ny209.out] at ho21)); have n0_ := Aside0.mk (Kd.N_elder' (by (with_reducible repeat (first | apply Kd.N_alloc | apply Kd.N_drewN | apply Kd.N_drew)); exact HO_6.out) (Kd.R_base ho21) hb); have n1_ := Aside0.mk (Kd.V_elder' (by (with_reducible repeat (first | apply Kd.V_alloc | apply Kd.V_drewN | apply Kd.V_drew)); exact HO_203002.out) (Kd.R_base ho21) hb); have n2_ := Aside0.mk (Kd.R_below (uR HO208.out) hb); have n3_ := Aside0.mk (Kd.R_lower (Kd.R_newM (M := fun k_ => (w.heap.size ≤ k_)) ho21 (below_size (by repeat (first | (with_reducible first | exact HB.out | apply below_alloc | apply pw_below_drewN | apply below_drew1 | refine below_set ?_ GE202.out) | exact HB.out))) (fun k_ h_ => h_)) (below_size (by repeat (first | (with_reducible first | exact HB.out | apply below_alloc | apply pw_below_drewN | apply below_drew1 | refine below_set ?_ GE202.out) | exact HB.out)))); have n4_ := Aside0.mk (blk_below (g := gb202) (o := .cells #[.int .i64 a0_0, .int .i64 a0_1, .slice Ao15 x203002_1.length co15, .slice A0_3 l0_3.length c0_3] 25 (0, 0)) (uB BK202.out) hb); have n5_ := Aside0.mk (below_step (by repeat (first | (with_reducible first | exact HB.out | apply below_alloc | apply pw_below_drewN | apply below_drew1 | refine below_set ?_ GE202.out) | exact HB.out)) hb); clear HO_6; clear HO_203002; clear HO208; clear BK202; clear HB; have HO_6 := n0_; have HO_203002 := n1_; have HO208 := n2_; have HO211 := n3_; have BK202 := n4_; have HB := n5_; clear n0_ n1_ n2_ n3_ n4_ n5_; clear hb ho21; obtain ⟨Ao22, co22, eo22⟩ := Kd.R_slice HO211.out; subst eo22))
     go_loopg [39] kj6 (fun kq v39 w' => ∃ (x8_3 : List Bool) (x39_3 : Int), v39 = .int .i64 x39_3 ∧ Aside0 (semigroupref07_Words.l1 kq a1 t206 x6_1 x7_1 x8_3 (y209.length : Int) x39_3 a0_0 a0_1 x203002_1 l0_3 = some r) ∧ Aside0 (kq ≤ kj6) ∧ Aside0 (Kd.R Kd.string 9 w' w.heap.size (fun k_ => (w.heap.size ≤ k_)) v207 t206) ∧ Aside0 (Kd.N (Kd.slice 4 Kd.bool) 22 w' w.heap.size (fun k_ => (P0_2_ k_ ∨ w.heap.size ≤ k_) ∧ some k_ ≠ (v207 : Value).ownBlock ∧ some k_ ≠ ((.slice Ao22 y209.length co22) : Value).ownBlock ∧ k_ ≠ gb202) (.slice Ao16 x6_1.length co16) x6_1) ∧ Aside0 (Kd.R Kd.bool 4 w' w.heap.size (fun k_ => (w.heap.size ≤ k_)) (.slice Ao22 y209.length co22) x8_3) ∧ Aside0 (Kd.V Kd.bool 4 w' w.heap.size (fun k_ => (P0_2_ k_ ∨ w.heap.size ≤ k_) ∧ some k_ ≠ (v207 : Value).ownBlock ∧ some k_ ≠ ((.slice Ao16 x6_1.length co16) : Value).ownBlock ∧ some k_ ≠ ((.slice Ao22 y209.length co22) : Value).ownBlock ∧ k_ ≠ gb202) (.slice Ao15 x203002_1.length co15) x203002_1) ∧ Aside0 (w'.heap[gb202]? = some (.cells #[.int .i64 a0_0, .int .i64 a0_1, (.slice Ao15 x203002_1.length co15), (.slice A0_3 l0_3.length c0_3)] 25 (0, 0))) ∧ Aside0 (Below w.heap.size w w'))
     case atStart => exact ⟨(y209), (0), (by first | rfl | (simp; done) | (simp [*]; done)), H', ⟨Nat.le_refl _⟩, ⟨by (with_reducible repeat (first | apply Kd.R_alloc | apply Kd.R_drewN | apply Kd.R_drew)); exact HO208.out⟩, ⟨by (with_reducible repeat (first | apply Kd.N_alloc | apply Kd.N_drewN | apply Kd.N_drew)); exact Kd.N_mono HO_6.out (fun _ hk => ⟨hk.1.1, ⟨hk.1.2.2, ⟨hk.2, hk.1.2.1⟩⟩⟩)⟩, ⟨by (with_reducible repeat (first | apply Kd.R_alloc | apply Kd.R_drewN | apply Kd.R_drew)); exact Kd.R_mono HO211.out (fun _ hk => hk.1)⟩, ⟨by (with_reducible repeat (first | apply Kd.V_alloc | apply Kd.V_drewN | apply Kd.V_drew)); exact Kd.V_mono HO_203002.out (fun _ hk => ⟨hk.1.1, ⟨hk.1.2.2.2, ⟨hk.1.2.1, ⟨hk.2, hk.1.2.2.1⟩⟩⟩⟩)⟩, ⟨by (with_reducible repeat (first | refine blk_drewN ?_ _ | refine blk_drew ?_ | refine blk_alloc ?_ _)); exact BK202.out⟩, ⟨by repeat (first | (with_reducible first | exact HB.out | apply below_alloc | apply pw_below_drewN | apply below_drew1 | refine below_set ?_ GE202.out) | exact HB.out)⟩⟩
     case round =>
      clear H'
      try clear c1
      try clear c2
      try clear p2
      try clear c4
      try clear c8
      try clear c8b0
      try clear c10
      try clear c12
      try clear c12b0
      try clear c12b1
      try clear c13
      try clear c13b0
      try clear c13b1
      try clear c20
      try clear hcz14_0
      try clear hcz14_1
      try clear hcz14_2
      try clear hcz14_3
      try clear hcz19_0
      try clear hcz19_1
      try clear hcz19_2
      try clear hcz19_3
      try clear hcz4_0
      try clear hcz4_1
      try clear hcz4_2
      try clear hcz4_3
      try clear hfz14_0
      try clear hfz14_1
      try clear hfz14_2
      try clear hfz14_3
      try clear hfz19_0
      try clear hfz19_1
      try clear hfz19_2
      try clear hfz19_3
      try clear hfz4_0
      try clear hfz4_1
      try clear hfz4_2
      try clear hfz4_3
      try clear p2
      obtain ⟨x8_3, x39_3, rfl, HA, HK3, HO_5, HO_6, HO_8, HO_203002, BK202, HB⟩ := hrel
      have hl8_3 := (Kd.R_reads' HO_8.out).1
      rw [hl8_3] at HO_8
      (try simp only [hl8_3])
      (try simp only [hl8_3] at BK202)
      (try simp only [hl8_3] at HO_5)
      (try simp only [hl8_3] at HO_6)
      (try simp only [hl8_3] at HO_203002)
      cases gk with
      | zero => exact absurd HA.out (by simp [semigroupref07_Words.l1])
      | succ k3 =>
       have H := HA.out
       clear HA
       simp only [semigroupref07_Words.l1] at H
       by_cases c23 : x39_3 < (y209.length : Int)
       (focus
       rw [if_pos c23] at H
       have c23b0 : decide (x39_3 < (y209.length : Int)) = true := decide_eq_true c23
       (try (have c23b0_hl8_3 := c23b0; simp only [hl8_3] at c23b0_hl8_3))
       clear c23
       by_cases c24 : 0 ≤ x39_3
       (focus
       rw [if_pos c24] at H
       have c24b0 : decide (0 ≤ x39_3) = true := decide_eq_true c24
       clear c24
       by_cases c25 : x39_3 < (l0_3.length : Int)
       (focus
       rw [if_pos c25] at H
       have c25b0 : decide (x39_3 < (l0_3.length : Int)) = true := decide_eq_true c25
       (try (have c25b0_hl8_3 := c25b0; simp only [hl8_3] at c25b0_hl8_3))
       clear c25
       have H' := Aside0.mk H
       clear H
       have hcz26_0 : wr.cell? ⟨gb202, 0, none⟩ = some (.int .i64 a0_0) := (blk_cell BK202.out 0).trans rfl
       have hcz26_1 : wr.cell? ⟨gb202, 1, none⟩ = some (.int .i64 a0_1) := (blk_cell BK202.out 1).trans rfl
       have hcz26_2 : wr.cell? ⟨gb202, 2, none⟩ = some (.slice Ao15 x203002_1.length co15) := (blk_cell BK202.out 2).trans rfl
       have hcz26_3 : wr.cell? ⟨gb202, 3, none⟩ = some (.slice A0_3 l0_3.length c0_3) := (blk_cell BK202.out 3).trans rfl
       have hfz26_0 := blk_frozen BK202.out 0
       have hfz26_1 := blk_frozen BK202.out 1
       have hfz26_2 := blk_frozen BK202.out 2
       have hfz26_3 := blk_frozen BK202.out 3
       have p215 : 0 ≤ (x39_3 : Int) := of_decide_eq_true (by first | (with_reducible assumption) | assumption)
       have q215 : x39_3 < (l0_3.length : Int) := of_decide_eq_true (by first | (with_reducible assumption) | assumption)
       obtain ⟨ad215, A215_0, c215_0, e215, hx215_0, hl215_0, hi215_0⟩ := at_L1 HR0_3.out x39_3 p215 q215
       cases e215
       (try replace hx215_0 := (HB.out.cell (World.block_lt_of_cell? w _ hx215_0)).trans hx215_0)
       have HR215_0 := Aside0.mk hi215_0
       have HC215_0 := Aside0.mk hl215_0
       clear hi215_0 hl215_0
       replace p215 := eq_true p215
       replace q215 := eq_true q215
       go_wp2
       go_loopg [48] k3 (fun kq v48 w' => ∃ (x8_4 : List Bool) (x48_4 : Int), v48 = .int .i64 x48_4 ∧ Aside0 (semigroupref07_Words.l2 kq a1 t206 x6_1 x7_1 x8_4 x39_3 (y209.length : Int) x39_3 (rd_L1 l0_3 x39_3) ((rd_L1 l0_3 x39_3).length : Int) x48_4 a0_0 a0_1 x203002_1 l0_3 = some r) ∧ Aside0 (kq ≤ k3) ∧ Aside0 (Kd.R Kd.string 9 w' w.heap.size (fun k_ => (w.heap.size ≤ k_)) v207 t206) ∧ Aside0 (Kd.N (Kd.slice 4 Kd.bool) 22 w' w.heap.size (fun k_ => (P0_2_ k_ ∨ w.heap.size ≤ k_) ∧ some k_ ≠ (v207 : Value).ownBlock ∧ some k_ ≠ ((.slice Ao22 x8_3.length co22) : Value).ownBlock ∧ k_ ≠ gb202) (.slice Ao16 x6_1.length co16) x6_1) ∧ Aside0 (Kd.R Kd.bool 4 w' w.heap.size (fun k_ => (w.heap.size ≤ k_)) (.slice Ao22 x8_3.length co22) x8_4) ∧ Aside0 (Kd.V Kd.bool 4 w' w.heap.size (fun k_ => (P0_2_ k_ ∨ w.heap.size ≤ k_) ∧ some k_ ≠ (v207 : Value).ownBlock ∧ some k_ ≠ ((.slice Ao16 x6_1.length co16) : Value).ownBlock ∧ some k_ ≠ ((.slice Ao22 x8_3.length co22) : Value).ownBlock ∧ k_ ≠ gb202) (.slice Ao15 x203002_1.length co15) x203002_1) ∧ Aside0 (w'.heap[gb202]? = some (.cells #[.int .i64 a0_0, .int .i64 a0_1, (.slice Ao15 x203002_1.length co15), (.slice (some ad215) l0_3.length c0_3)] 25 (0, 0))) ∧ Aside0 (Below w.heap.size w w'))
       case atStart => exact ⟨(x8_3), (0), (by first | rfl | (simp; done) | (simp [*]; done)), H', ⟨Nat.le_refl _⟩, ⟨by (try simp only [hl8_3]); (with_reducible repeat (first | apply Kd.R_alloc | apply Kd.R_drewN | apply Kd.R_drew)); exact HO_5.out⟩, ⟨by (try simp only [hl8_3]); (with_reducible repeat (first | apply Kd.N_alloc | apply Kd.N_drewN | apply Kd.N_drew)); exact HO_6.out⟩, ⟨by (try simp only [hl8_3]); (with_reducible repeat (first | apply Kd.R_alloc | apply Kd.R_drewN | apply Kd.R_drew)); exact HO_8.out⟩, ⟨by (try simp only [hl8_3]); (with_reducible repeat (first | apply Kd.V_alloc | apply Kd.V_drewN | apply Kd.V_drew)); exact HO_203002.out⟩, ⟨by (try simp only [hl8_3]); (with_reducible repeat (first | refine blk_drewN ?_ _ | refine blk_drew ?_ | refine blk_alloc ?_ _)); exact BK202.out⟩, ⟨by repeat (first | (with_reducible first | exact HB.out | apply below_alloc | apply pw_below_drewN | apply below_drew1 | refine below_set ?_ GE202.out) | exact HB.out)⟩⟩
       case round =>
        clear H'
        try clear c1
        try clear c2
        try clear p2
        try clear q2
        try clear hx2
        try clear c4
        try clear c8
        try clear c8b0
        try clear c10
        try clear c12
        try clear c12b0
        try clear c12b1
        try clear c13
        try clear c13b0
        try clear c13b1
        try clear c20
        try clear c21
        try clear p21
        try clear q21
        try clear hx21
        try clear c23
        try clear c23b0
        try clear c24
        try clear c24b0
        try clear c25
        try clear c25b0
        try clear hcz14_0
        try clear hcz14_1
        try clear hcz14_2
        try clear hcz14_3
        try clear hcz19_0
        try clear hcz19_1
        try clear hcz19_2
        try clear hcz19_3
        try clear hcz26_0
        try clear hcz26_1
        try clear hcz26_2
        try clear hcz26_3
        try clear hcz4_0
        try clear hcz4_1
        try clear hcz4_2
        try clear hcz4_3
        try clear hfz14_0
        try clear hfz14_1
        try clear hfz14_2
        try clear hfz14_3
        try clear hfz19_0
        try clear hfz19_1
        try clear hfz19_2
        try clear hfz19_3
        try clear hfz26_0
        try clear hfz26_1
        try clear hfz26_2
        try clear hfz26_3
        try clear hfz4_0
        try clear hfz4_1
        try clear hfz4_2
        try clear hfz4_3
        try clear hx215_0
        try clear p2
        try clear p215
        try clear q215
        obtain ⟨x8_4, x48_4, rfl, HA, HK4, HO_5, HO_6, HO_8, HO_203002, BK202, HB⟩ := hrel
        have hl8_4 := (Kd.R_reads' HO_8.out).1
        rw [hl8_4] at HO_8
        (try simp only [hl8_4])
        (try simp only [hl8_4] at BK202)
        (try simp only [hl8_4] at HO_5)
        (try simp only [hl8_4] at HO_6)
        (try simp only [hl8_4] at HO_203002)
        cases gk with
        | zero => exact absurd HA.out (by simp [semigroupref07_Words.l2])
        | succ k4 =>
         have H := HA.out
         clear HA
         simp only [semigroupref07_Words.l2] at H
         by_cases c27 : x48_4 < ((rd_L1 l0_3 x39_3).length : Int)
         (focus
         rw [if_pos c27] at H
         have c27b0 : decide (x48_4 < ((rd_L1 l0_3 x39_3).length : Int)) = true := decide_eq_true c27
         (try (have c27b0_hl8_3 := c27b0; simp only [hl8_3] at c27b0_hl8_3))
         (try (have c27b0_hl8_4 := c27b0; simp only [hl8_4] at c27b0_hl8_4))
         clear c27
         by_cases c28 : 0 ≤ x48_4
         (focus
         rw [if_pos c28] at H
         have c28b0 : decide (0 ≤ x48_4) = true := decide_eq_true c28
         clear c28
         by_cases c29 : x48_4 < ((rd_L1 l0_3 x39_3).length : Int)
         (focus
         rw [if_pos c29] at H
         have c29b0 : decide (x48_4 < ((rd_L1 l0_3 x39_3).length : Int)) = true := decide_eq_true c29
         (try (have c29b0_hl8_3 := c29b0; simp only [hl8_3] at c29b0_hl8_3))
         (try (have c29b0_hl8_4 := c29b0; simp only [hl8_4] at c29b0_hl8_4))
         clear c29
         by_cases c30 : 0 ≤ x39_3
         (focus
         rw [if_pos c30] at H
         have c30b0 : decide (0 ≤ x39_3) = true := decide_eq_true c30
         clear c30
         by_cases c31 : x39_3 < (x8_4.length : Int)
         (focus
         rw [if_pos c31] at H
         have c31b0 : decide (x39_3 < (x8_4.length : Int)) = true := decide_eq_true c31
         (try (have c31b0_hl8_3 := c31b0; simp only [hl8_3] at c31b0_hl8_3))
         (try (have c31b0_hl8_4 := c31b0; simp only [hl8_4] at c31b0_hl8_4))
         clear c31
         obtain ⟨bq32, hbq32⟩ : ∃ b_ : Bool, b_ = (rdOf false x8_4 x39_3) := ⟨_, rfl⟩
         replace H : (if bq32 = true then (semigroupref07_Words.l2 k4 a1 t206 x6_1 x7_1 (x8_4.set (x39_3 : Int).toNat true) x39_3 (y209.length : Int) x39_3 (rd_L1 l0_3 x39_3) ((rd_L1 l0_3 x39_3).length : Int) (wrap64 (x48_4 + 1)) a0_0 a0_1 x203002_1 l0_3) else (if 0 ≤ x7_1 then (if x7_1 < (x6_1.length : Int) then (if 0 ≤ (rd (rd_L1 l0_3 x39_3) x48_4) then (if (rd (rd_L1 l0_3 x39_3) x48_4) < ((rd_L3 x6_1 x7_1).length : Int) then (semigroupref07_Words.l2 k4 a1 t206 x6_1 x7_1 (x8_4.set (x39_3 : Int).toNat (rdOf false (rd_L3 x6_1 x7_1) (rd (rd_L1 l0_3 x39_3) x48_4))) x39_3 (y209.length : Int) x39_3 (rd_L1 l0_3 x39_3) ((rd_L1 l0_3 x39_3).length : Int) (wrap64 (x48_4 + 1)) a0_0 a0_1 x203002_1 l0_3) else (none)) else (none)) else (none)) else (none))) = some r := by rw [← hbq32] at H; exact H
         have Nbq32 := Aside0.mk hbq32
         clear hbq32
         by_cases c33 : bq32 = true
         (focus
         subst c33
         have H1 : (semigroupref07_Words.l2 k4 a1 t206 x6_1 x7_1 (x8_4.set (x39_3 : Int).toNat true) x39_3 (y209.length : Int) x39_3 (rd_L1 l0_3 x39_3) ((rd_L1 l0_3 x39_3).length : Int) (wrap64 (x48_4 + 1)) a0_0 a0_1 x203002_1 l0_3) = some r := by rw [if_pos rfl] at H; exact H
         clear H
         have H := H1
         clear H1
         obtain ⟨y218, hy218⟩ : ∃ y_ : List Bool, y_ = (x8_4.set (x39_3 : Int).toNat true) := ⟨_, rfl⟩
         replace H : (semigroupref07_Words.l2 k4 a1 t206 x6_1 x7_1 y218 x39_3 (y209.length : Int) x39_3 (rd_L1 l0_3 x39_3) ((rd_L1 l0_3 x39_3).length : Int) (wrap64 (x48_4 + 1)) a0_0 a0_1 x203002_1 l0_3) = some r := by first | (rw [hy218]; with_reducible exact H) | (have H2_ := (Option.bind_some _ _).symm.trans H; rw [hy218]; with_reducible exact H2_) | (have H2_ := (Option.bind_some _ _).symm.trans H; with_reducible exact H2_) | with_reducible exact H | (rw [hy218]; exact H) | exact H
         have Ny218 := Aside0.mk hy218
         clear hy218
         have H' := Aside0.mk H
         clear H
         have p216 : 0 ≤ (x48_4 : Int) := of_decide_eq_true (by first | (with_reducible assumption) | assumption)
         have q216 : x48_4 < ((rd_L1 l0_3 x39_3).length : Int) := of_decide_eq_true (by first | (with_reducible assumption) | assumption)
         obtain ⟨ad216, e216, hx216_0⟩ := Kd.at_int HR215_0.out x48_4 p216 q216
         cases e216
         (try replace hx216_0 := (HB.out.cell (World.block_lt_of_cell? w _ hx216_0)).trans hx216_0)
         replace p216 := eq_true p216
         replace q216 := eq_true q216
         have p217 : 0 ≤ (x39_3 : Int) := of_decide_eq_true (by first | (with_reducible assumption) | assumption)
         have q217 : x39_3 < (x8_4.length : Int) := of_decide_eq_true (by first | (with_reducible assumption) | assumption)
         obtain ⟨ad217, e217, hx217_0⟩ := Kd.at_bool (Kd.R_reads' HO_8.out).2.2 x39_3 p217 q217
         (try rw [← Nbq32.out] at hx217_0)
         cases e217
         replace p217 := eq_true p217
         replace q217 := eq_true q217
         have p34 : 0 ≤ (x39_3 : Int) := of_decide_eq_true (by first | (with_reducible assumption) | assumption)
         have q34 : (x39_3 : Int) < ((x8_4.length : Int) : Int) := of_decide_eq_true (by first | (with_reducible assumption) | assumption)
         obtain ⟨go34, co34, eo34, gb34, gl34, cl34, HG34⟩ := Kd.R_form HO_8.out (by first | omega | (have e_ := (Kd.R_reads' HO_8.out).1; omega))
         (first | cases eo34 | (injection eo34 with ea_ en_ ec_; (first | subst ea_ | (injection ea_ with ea_; subst ea_)); subst ec_; clear en_))
         have GB34 := Aside0.mk gb34
         have GG34 := Aside0.mk HG34
         clear gb34 gl34 HG34
         (first | simp only [add_plain] at hx217_0 | skip)
         obtain ⟨hx34_0, hf34_0⟩ := Kd.R_celln false HO_8.out (x39_3 : Int) p34 q34
         replace p34 := eq_true p34
         replace q34 := eq_true q34
         have HP35 := Kd.R_putg HO_8.out (x39_3 : Int) true
         go_wp2_with (first | ((with_reducible refine gate_store (t := 4) (p := 67) rfl ?_); refine store_event (t := 4) (p := 67) (v := ?vo_w36) (w1 := (wr.setCell ⟨go34, (x39_3 : Int).toNat, none⟩ (.bool true))) ?hg ?ho ?hn ?hr ?_; (case ho => rfl); (case hg => rfl); (case hn => rfl); (case hr => first | (go_simp; done) | (go_simp; rfl)); intro w36 hw; have hg : wr.grownBy w36 (some go34) := (by rw [hw]; exact HP35.2); have hp_ : Kd.R Kd.bool 4 w36 w.heap.size (fun k_ => (w.heap.size ≤ k_)) (.slice (some ⟨go34, 0, none⟩) x8_4.length co22) y218 := (by rw [hw, Ny218.out]; exact HP35.1); clear HP35; have n0_ := Aside0.mk (Kd.R_over' (v := (.slice (some ⟨go34, 0, none⟩) x8_4.length co22)) (uR HO_5.out) (Kd.R_typed HO_8.out) (by decide) hg); have n1_ := Aside0.mk (Kd.N_afterv (v := (.slice (some ⟨go34, 0, none⟩) x8_4.length co22)) (v1 := (.slice (some ⟨go34, 0, none⟩) x8_4.length co22)) (ok := (fun k_ => (P0_2_ k_ ∨ w.heap.size ≤ k_) ∧ some k_ ≠ (v207 : Value).ownBlock ∧ k_ ≠ gb202)) (by (with_reducible repeat (first | apply Kd.N_alloc | apply Kd.N_drewN | apply Kd.N_drew)); exact Kd.N_mono HO_6.out (fun _ hk => ⟨⟨hk.1, ⟨hk.2.1, hk.2.2.2⟩⟩, hk.2.2.1⟩)) hg (.inl rfl)); have n2_ := Aside0.mk (hp_); have n3_ := Aside0.mk (Kd.V_afterv (v := (.slice (some ⟨go34, 0, none⟩) x8_4.length co22)) (v1 := (.slice (some ⟨go34, 0, none⟩) x8_4.length co22)) (ok := (fun k_ => (P0_2_ k_ ∨ w.heap.size ≤ k_) ∧ some k_ ≠ (v207 : Value).ownBlock ∧ some k_ ≠ (.slice Ao16 x6_1.length co16 : Value).ownBlock ∧ k_ ≠ gb202)) (by (with_reducible repeat (first | apply Kd.V_alloc | apply Kd.V_drewN | apply Kd.V_drew)); exact Kd.V_mono HO_203002.out (fun _ hk => ⟨⟨hk.1, ⟨hk.2.1, ⟨hk.2.2.1, hk.2.2.2.2⟩⟩⟩, hk.2.2.2.1⟩)) hg (.inl rfl)); have n4_ := Aside0.mk (blk_grown (g := gb202) (o := .cells #[.int .i64 a0_0, .int .i64 a0_1, .slice Ao15 x203002_1.length co15, .slice (some ad215) l0_3.length c0_3] 25 (0, 0)) (uB BK202.out) hg (Kd.R_ne HO_8.out BK202.out (by decide))); have n5_ := Aside0.mk ((by rw [hw]; exact below_set (HB.out) GB34.out : Below w.heap.size w w36)); clear HO_5; clear HO_6; clear HO_8; clear HO_203002; clear BK202; clear HB; have HO_5 := n0_; have HO_6 := n1_; have HO_8 := n2_; have HO_203002 := n3_; have BK202 := n4_; have HB := n5_; clear n0_ n1_ n2_ n3_ n4_ n5_; clear hg hw hp_))
         (try simp only [← hl8_4])
         go_roundg k4
         case measure => have := HK1.out; have := HJ6.out; have := HK3.out; have := HK4.out; omega
         case rel => exact ⟨(y218), (wrap64 (x48_4 + 1)), (by first | rfl | (simp; done) | (simp [*]; done)), H', ⟨by have := HK1.out; have := HJ6.out; have := HK3.out; have := HK4.out; omega⟩, ⟨by (try simp only [hl8_3]); (try simp only [hl8_4]); (with_reducible repeat (first | apply Kd.R_alloc | apply Kd.R_drewN | apply Kd.R_drew)); exact HO_5.out⟩, ⟨by (try simp only [hl8_3]); (try simp only [hl8_4]); (with_reducible repeat (first | apply Kd.N_alloc | apply Kd.N_drewN | apply Kd.N_drew)); exact Kd.N_mono HO_6.out (fun _ hk => ⟨hk.1.1, ⟨hk.1.2.1, ⟨hk.2, hk.1.2.2⟩⟩⟩)⟩, ⟨by (try simp only [hl8_3]); (try simp only [hl8_4]); (with_reducible repeat (first | apply Kd.R_alloc | apply Kd.R_drewN | apply Kd.R_drew)); exact HO_8.out⟩, ⟨by (try simp only [hl8_3]); (try simp only [hl8_4]); (with_reducible repeat (first | apply Kd.V_alloc | apply Kd.V_drewN | apply Kd.V_drew)); exact Kd.V_mono HO_203002.out (fun _ hk => ⟨hk.1.1, ⟨hk.1.2.1, ⟨hk.1.2.2.1, ⟨hk.2, hk.1.2.2.2⟩⟩⟩⟩)⟩, ⟨by (try simp only [hl8_3]); (try simp only [hl8_4]); (with_reducible repeat (first | refine blk_drewN ?_ _ | refine blk_drew ?_ | refine blk_alloc ?_ _)); exact BK202.out⟩, ⟨by repeat (first | (with_reducible first | exact HB.out | apply below_alloc | apply pw_below_drewN | apply below_drew1 | refine below_set ?_ GE202.out) | exact HB.out)⟩⟩
         )
         (focus
         replace c33 := Bool.eq_false_iff.mpr c33
         subst c33
         have H1 : (if 0 ≤ x7_1 then (if x7_1 < (x6_1.length : Int) then (if 0 ≤ (rd (rd_L1 l0_3 x39_3) x48_4) then (if (rd (rd_L1 l0_3 x39_3) x48_4) < ((rd_L3 x6_1 x7_1).length : Int) then (semigroupref07_Words.l2 k4 a1 t206 x6_1 x7_1 (x8_4.set (x39_3 : Int).toNat (rdOf false (rd_L3 x6_1 x7_1) (rd (rd_L1 l0_3 x39_3) x48_4))) x39_3 (y209.length : Int) x39_3 (rd_L1 l0_3 x39_3) ((rd_L1 l0_3 x39_3).length : Int) (wrap64 (x48_4 + 1)) a0_0 a0_1 x203002_1 l0_3) else (none)) else (none)) else (none)) else (none)) = some r := by rw [if_neg (show ¬ (false = true) by decide)] at H; exact H
         clear H
         have H := H1
         clear H1
         by_cases c37 : 0 ≤ x7_1
         (focus
         rw [if_pos c37] at H
         have c37b0 : decide (0 ≤ x7_1) = true := decide_eq_true c37
         clear c37
         by_cases c38 : x7_1 < (x6_1.length : Int)
         (focus
         rw [if_pos c38] at H
         have c38b0 : decide (x7_1 < (x6_1.length : Int)) = true := decide_eq_true c38
         (try (have c38b0_hl8_3 := c38b0; simp only [hl8_3] at c38b0_hl8_3))
         (try (have c38b0_hl8_4 := c38b0; simp only [hl8_4] at c38b0_hl8_4))
         clear c38
         by_cases c39 : 0 ≤ (rd (rd_L1 l0_3 x39_3) x48_4)
         (focus
         rw [if_pos c39] at H
         have c39b0 : decide (0 ≤ (rd (rd_L1 l0_3 x39_3) x48_4)) = true := decide_eq_true c39
         clear c39
         by_cases c40 : (rd (rd_L1 l0_3 x39_3) x48_4) < ((rd_L3 x6_1 x7_1).length : Int)
         (focus
         rw [if_pos c40] at H
         have c40b0 : decide ((rd (rd_L1 l0_3 x39_3) x48_4) < ((rd_L3 x6_1 x7_1).length : Int)) = true := decide_eq_true c40
         (try (have c40b0_hl8_3 := c40b0; simp only [hl8_3] at c40b0_hl8_3))
         (try (have c40b0_hl8_4 := c40b0; simp only [hl8_4] at c40b0_hl8_4))
         clear c40
         obtain ⟨y221, hy221⟩ : ∃ y_ : List Bool, y_ = (x8_4.set (x39_3 : Int).toNat (rdOf false (rd_L3 x6_1 x7_1) (rd (rd_L1 l0_3 x39_3) x48_4))) := ⟨_, rfl⟩
         replace H : (semigroupref07_Words.l2 k4 a1 t206 x6_1 x7_1 y221 x39_3 (y209.length : Int) x39_3 (rd_L1 l0_3 x39_3) ((rd_L1 l0_3 x39_3).length : Int) (wrap64 (x48_4 + 1)) a0_0 a0_1 x203002_1 l0_3) = some r := by first | (rw [hy221]; with_reducible exact H) | (have H2_ := (Option.bind_some _ _).symm.trans H; rw [hy221]; with_reducible exact H2_) | (have H2_ := (Option.bind_some _ _).symm.trans H; with_reducible exact H2_) | with_reducible exact H | (rw [hy221]; exact H) | exact H
         have Ny221 := Aside0.mk hy221
         clear hy221
         have H' := Aside0.mk H
         clear H
         have p216 : 0 ≤ (x48_4 : Int) := of_decide_eq_true (by first | (with_reducible assumption) | assumption)
         have q216 : x48_4 < ((rd_L1 l0_3 x39_3).length : Int) := of_decide_eq_true (by first | (with_reducible assumption) | assumption)
         obtain ⟨ad216, e216, hx216_0⟩ := Kd.at_int HR215_0.out x48_4 p216 q216
         cases e216
         (try replace hx216_0 := (HB.out.cell (World.block_lt_of_cell? w _ hx216_0)).trans hx216_0)
         replace p216 := eq_true p216
         replace q216 := eq_true q216
         have p217 : 0 ≤ (x39_3 : Int) := of_decide_eq_true (by first | (with_reducible assumption) | assumption)
         have q217 : x39_3 < (x8_4.length : Int) := of_decide_eq_true (by first | (with_reducible assumption) | assumption)
         obtain ⟨ad217, e217, hx217_0⟩ := Kd.at_bool (Kd.R_reads' HO_8.out).2.2 x39_3 p217 q217
         (try rw [← Nbq32.out] at hx217_0)
         cases e217
         replace p217 := eq_true p217
         replace q217 := eq_true q217
         have p219 : 0 ≤ (x7_1 : Int) := of_decide_eq_true (by first | (with_reducible assumption) | assumption)
         have q219 : x7_1 < (x6_1.length : Int) := of_decide_eq_true (by first | (with_reducible assumption) | assumption)
         obtain ⟨ad219, A219_0, c219_0, e219, hx219_0, hl219_0, hi219_0⟩ := at_L3 (Kd.N_reads' HO_6.out).2.2 x7_1 p219 q219
         cases e219
         obtain ⟨ce219, hce219, hMe219, hcc219⟩ := Kd.N_get HO_6.out [] x7_1 p219 (by first | exact q219 | exact of_decide_eq_true (by first | (with_reducible assumption) | assumption) | (have e_ := (Kd.N_reads' HO_6.out).1; omega))
         obtain ⟨ua219_0, uc219_0, rfl, ul219_0, ge219_0⟩ := Kd.FK_slice_open hMe219
         have hv219_0 := hcc219 0 _ rfl
         rw [Nat.add_zero, show ((Kd.slice 4 Kd.bool)).sz = 1 from rfl, Nat.mul_one] at hv219_0
         replace hv219_0 := Option.some.inj (hv219_0.symm.trans hx219_0)
         injection hv219_0 with hva_ hvn_ hvc_
         rw [hva_] at ge219_0
         rw [hvc_] at ul219_0
         have HL219_0 := Aside0.mk (show Kd.V Kd.bool 4 _ w.heap.size _ _ (rd_L3 x6_1 x7_1) from Kd.V_mk ul219_0 ge219_0)
         clear hva_ hvn_ hvc_ ge219_0 ul219_0
         clear hcc219 hce219
         have HR219_0 := Aside0.mk hi219_0
         have HC219_0 := Aside0.mk hl219_0
         clear hi219_0 hl219_0
         replace p219 := eq_true p219
         replace q219 := eq_true q219
         have p220 : 0 ≤ ((rd (rd_L1 l0_3 x39_3) x48_4) : Int) := of_decide_eq_true (by first | (with_reducible assumption) | assumption)
         have q220 : (rd (rd_L1 l0_3 x39_3) x48_4) < ((rd_L3 x6_1 x7_1).length : Int) := of_decide_eq_true (by first | (with_reducible assumption) | assumption)
         obtain ⟨ad220, e220, hx220_0⟩ := Kd.at_bool (by repeat (first | (with_reducible exact HR219_0.out) | (with_reducible refine Kd.C_alloc ?_ _) | (with_reducible refine Kd.C_drewN ?_ _) | (with_reducible refine Kd.C_drew ?_) | exact HR219_0.out)) (rd (rd_L1 l0_3 x39_3) x48_4) p220 q220
         (try rw [← Nbq32.out] at hx220_0)
         cases e220
         replace p220 := eq_true p220
         replace q220 := eq_true q220
         have p41 : 0 ≤ (x39_3 : Int) := of_decide_eq_true (by first | (with_reducible assumption) | assumption)
         have q41 : (x39_3 : Int) < ((x8_4.length : Int) : Int) := of_decide_eq_true (by first | (with_reducible assumption) | assumption)
         obtain ⟨go41, co41, eo41, gb41, gl41, cl41, HG41⟩ := Kd.R_form HO_8.out (by first | omega | (have e_ := (Kd.R_reads' HO_8.out).1; omega))
         (first | cases eo41 | (injection eo41 with ea_ en_ ec_; (first | subst ea_ | (injection ea_ with ea_; subst ea_)); subst ec_; clear en_))
         have GB41 := Aside0.mk gb41
         have GG41 := Aside0.mk HG41
         clear gb41 gl41 HG41
         (first | simp only [add_plain] at hx217_0 | skip)
         obtain ⟨hx41_0, hf41_0⟩ := Kd.R_celln false HO_8.out (x39_3 : Int) p41 q41
         replace p41 := eq_true p41
         replace q41 := eq_true q41
         have HP42 := Kd.R_putg HO_8.out (x39_3 : Int) (rdOf false (rd_L3 x6_1 x7_1) (rd (rd_L1 l0_3 x39_3) x48_4))
         go_wp2_with (first | ((with_reducible refine gate_store (t := 4) (p := 67) rfl ?_); refine store_event (t := 4) (p := 67) (v := ?vo_w43) (w1 := (wr.setCell ⟨go41, (x39_3 : Int).toNat, none⟩ (.bool (rdOf false (rd_L3 x6_1 x7_1) (rd (rd_L1 l0_3 x39_3) x48_4))))) ?hg ?ho ?hn ?hr ?_; (case ho => rfl); (case hg => rfl); (case hn => rfl); (case hr => first | (go_simp; done) | (go_simp; rfl)); intro w43 hw; have hg : wr.grownBy w43 (some go41) := (by rw [hw]; exact HP42.2); have hp_ : Kd.R Kd.bool 4 w43 w.heap.size (fun k_ => (w.heap.size ≤ k_)) (.slice (some ⟨go41, 0, none⟩) x8_4.length co22) y221 := (by rw [hw, Ny221.out]; exact HP42.1); clear HP42; have n0_ := Aside0.mk (Kd.R_over' (v := (.slice (some ⟨go41, 0, none⟩) x8_4.length co22)) (uR HO_5.out) (Kd.R_typed HO_8.out) (by decide) hg); have n1_ := Aside0.mk (Kd.N_afterv (v := (.slice (some ⟨go41, 0, none⟩) x8_4.length co22)) (v1 := (.slice (some ⟨go41, 0, none⟩) x8_4.length co22)) (ok := (fun k_ => (P0_2_ k_ ∨ w.heap.size ≤ k_) ∧ some k_ ≠ (v207 : Value).ownBlock ∧ k_ ≠ gb202)) (by (with_reducible repeat (first | apply Kd.N_alloc | apply Kd.N_drewN | apply Kd.N_drew)); exact Kd.N_mono HO_6.out (fun _ hk => ⟨⟨hk.1, ⟨hk.2.1, hk.2.2.2⟩⟩, hk.2.2.1⟩)) hg (.inl rfl)); have n2_ := Aside0.mk (hp_); have n3_ := Aside0.mk (Kd.V_afterv (v := (.slice (some ⟨go41, 0, none⟩) x8_4.length co22)) (v1 := (.slice (some ⟨go41, 0, none⟩) x8_4.length co22)) (ok := (fun k_ => (P0_2_ k_ ∨ w.heap.size ≤ k_) ∧ some k_ ≠ (v207 : Value).ownBlock ∧ some k_ ≠ (.slice (some ad219) x6_1.length co16 : Value).ownBlock ∧ k_ ≠ gb202)) (by (with_reducible repeat (first | apply Kd.V_alloc | apply Kd.V_drewN | apply Kd.V_drew)); exact Kd.V_mono HO_203002.out (fun _ hk => ⟨⟨hk.1, ⟨hk.2.1, ⟨hk.2.2.1, hk.2.2.2.2⟩⟩⟩, hk.2.2.2.1⟩)) hg (.inl rfl)); have n4_ := Aside0.mk (blk_grown (g := gb202) (o := .cells #[.int .i64 a0_0, .int .i64 a0_1, .slice Ao15 x203002_1.length co15, .slice (some ad215) l0_3.length c0_3] 25 (0, 0)) (uB BK202.out) hg (Kd.R_ne HO_8.out BK202.out (by decide))); have n5_ := Aside0.mk (Kd.V_afterv (v := (.slice (some ⟨go41, 0, none⟩) x8_4.length co22)) (v1 := (.slice (some ⟨go41, 0, none⟩) x8_4.length co22)) (ok := (fun k_ => (P0_2_ k_ ∨ w.heap.size ≤ k_) ∧ some k_ ≠ (v207 : Value).ownBlock ∧ some k_ ≠ (.slice (some ad219) x6_1.length co16 : Value).ownBlock ∧ k_ ≠ gb202)) (by (with_reducible repeat (first | apply Kd.V_alloc | apply Kd.V_drewN | apply Kd.V_drew)); exact Kd.V_mono HL219_0.out (fun _ hk => ⟨⟨hk.1.1, ⟨hk.1.2.1, ⟨hk.2, hk.1.2.2.2⟩⟩⟩, hk.1.2.2.1⟩)) hg (.inl rfl)); have n6_ := Aside0.mk ((by rw [hw]; exact below_set (HB.out) GB41.out : Below w.heap.size w w43)); have n7_ := Aside0.mk ((Kd.V_reads' (Kd.V_afterv (v := (.slice (some ⟨go41, 0, none⟩) x8_4.length co22)) (v1 := (.slice (some ⟨go41, 0, none⟩) x8_4.length co22)) (ok := (fun k_ => (P0_2_ k_ ∨ w.heap.size ≤ k_) ∧ some k_ ≠ (v207 : Value).ownBlock ∧ some k_ ≠ (.slice (some ad219) x6_1.length co16 : Value).ownBlock ∧ k_ ≠ gb202)) (by (with_reducible repeat (first | apply Kd.V_alloc | apply Kd.V_drewN | apply Kd.V_drew)); exact Kd.V_mono HL219_0.out (fun _ hk => ⟨⟨hk.1.1, ⟨hk.1.2.1, ⟨hk.2, hk.1.2.2.2⟩⟩⟩, hk.1.2.2.1⟩)) hg (.inl rfl))).2.2); clear HO_5; clear HO_6; clear HO_8; clear HO_203002; clear BK202; clear HL219_0; clear HB; clear HR219_0; have HO_5 := n0_; have HO_6 := n1_; have HO_8 := n2_; have HO_203002 := n3_; have BK202 := n4_; have HL219_0 := n5_; have HB := n6_; have HR219_0 := n7_; clear n0_ n1_ n2_ n3_ n4_ n5_ n6_ n7_; clear hg hw hp_))
         (try simp only [← hl8_4])
         go_roundg k4
         case measure => have := HK1.out; have := HJ6.out; have := HK3.out; have := HK4.out; omega
         case rel => exact ⟨(y221), (wrap64 (x48_4 + 1)), (by first | rfl | (simp; done) | (simp [*]; done)), H', ⟨by have := HK1.out; have := HJ6.out; have := HK3.out; have := HK4.out; omega⟩, ⟨by (try simp only [hl8_3]); (try simp only [hl8_4]); (with_reducible repeat (first | apply Kd.R_alloc | apply Kd.R_drewN | apply Kd.R_drew)); exact HO_5.out⟩, ⟨by (try simp only [hl8_3]); (try simp only [hl8_4]); (with_reducible repeat (first | apply Kd.N_alloc | apply Kd.N_drewN | apply Kd.N_drew)); exact Kd.N_mono HO_6.out (fun _ hk => ⟨hk.1.1, ⟨hk.1.2.1, ⟨hk.2, hk.1.2.2⟩⟩⟩)⟩, ⟨by (try simp only [hl8_3]); (try simp only [hl8_4]); (with_reducible repeat (first | apply Kd.R_alloc | apply Kd.R_drewN | apply Kd.R_drew)); exact HO_8.out⟩, ⟨by (try simp only [hl8_3]); (try simp only [hl8_4]); (with_reducible repeat (first | apply Kd.V_alloc | apply Kd.V_drewN | apply Kd.V_drew)); exact Kd.V_mono HO_203002.out (fun _ hk => ⟨hk.1.1, ⟨hk.1.2.1, ⟨hk.1.2.2.1, ⟨hk.2, hk.1.2.2.2⟩⟩⟩⟩)⟩, ⟨by (try simp only [hl8_3]); (try simp only [hl8_4]); (with_reducible repeat (first | refine blk_drewN ?_ _ | refine blk_drew ?_ | refine blk_alloc ?_ _)); exact BK202.out⟩, ⟨by repeat (first | (with_reducible first | exact HB.out | apply below_alloc | apply pw_below_drewN | apply below_drew1 | refine below_set ?_ GE202.out) | exact HB.out)⟩⟩
         )
         (focus
         rw [if_neg c40] at H
         exact absurd H (by simp)
         )
         )
         (focus
         rw [if_neg c39] at H
         exact absurd H (by simp)
         )
         )
         (focus
         rw [if_neg c38] at H
         exact absurd H (by simp)
         )
         )
         (focus
         rw [if_neg c37] at H
         exact absurd H (by simp)
         )
         )
         )
         (focus
         rw [if_neg c31] at H
         exact absurd H (by simp)
         )
         )
         (focus
         rw [if_neg c30] at H
         exact absurd H (by simp)
         )
         )
         (focus
         rw [if_neg c29] at H
         exact absurd H (by simp)
         )
         )
         (focus
         rw [if_neg c28] at H
         exact absurd H (by simp)
         )
         )
         (focus
         rw [if_neg c27] at H
         have c27b0 : decide (x48_4 < ((rd_L1 l0_3 x39_3).length : Int)) = false := decide_eq_false c27
         (try (have c27b0_hl8_3 := c27b0; simp only [hl8_3] at c27b0_hl8_3))
         (try (have c27b0_hl8_4 := c27b0; simp only [hl8_4] at c27b0_hl8_4))
         clear c27
         have H' := Aside0.mk H
         clear H
         go_wp2
         (try simp only [← hl8_3, ← hl8_4])
         go_roundg k4
         case measure => have := HK1.out; have := HJ6.out; have := HK3.out; have := HK4.out; omega
         case rel => exact ⟨(x8_4), (wrap64 (x39_3 + 1)), (by first | rfl | (simp; done) | (simp [*]; done)), H', ⟨by have := HK1.out; have := HJ6.out; have := HK3.out; have := HK4.out; omega⟩, ⟨by (try simp only [hl8_3]); (try simp only [hl8_4]); (with_reducible repeat (first | apply Kd.R_alloc | apply Kd.R_drewN | apply Kd.R_drew)); exact HO_5.out⟩, ⟨by (try simp only [hl8_3]); (try simp only [hl8_4]); (with_reducible repeat (first | apply Kd.N_alloc | apply Kd.N_drewN | apply Kd.N_drew)); exact HO_6.out⟩, ⟨by (try simp only [hl8_3]); (try simp only [hl8_4]); (with_reducible repeat (first | apply Kd.R_alloc | apply Kd.R_drewN | apply Kd.R_drew)); exact HO_8.out⟩, ⟨by (try simp only [hl8_3]); (try simp only [hl8_4]); (with_reducible repeat (first | apply Kd.V_alloc | apply Kd.V_drewN | apply Kd.V_drew)); exact HO_203002.out⟩, ⟨by (try simp only [hl8_3]); (try simp only [hl8_4]); (with_reducible repeat (first | refine blk_drewN ?_ _ | refine blk_drew ?_ | refine blk_alloc ?_ _)); exact BK202.out⟩, ⟨by repeat (first | (with_reducible first | exact HB.out | apply below_alloc | apply pw_below_drewN | apply below_drew1 | refine below_set ?_ GE202.out) | exact HB.out)⟩⟩
         )
       )
       (focus
       rw [if_neg c25] at H
       exact absurd H (by simp)
       )
       )
       (focus
       rw [if_neg c24] at H
       exact absurd H (by simp)
       )
       )
       (focus
       rw [if_neg c23] at H
       have c23b0 : decide (x39_3 < (y209.length : Int)) = false := decide_eq_false c23
       (try (have c23b0_hl8_3 := c23b0; simp only [hl8_3] at c23b0_hl8_3))
       clear c23
       by_cases c44 : x6_1.length < 5864062014805
       (focus
       rw [if_pos c44] at H
       have LMc44 := Aside0.mk c44
       clear c44
       obtain ⟨y212, hy212⟩ : ∃ y_ : List (List Bool), y_ = (x6_1 ++ [x8_3]) := ⟨_, rfl⟩
       replace H : (semigroupref07_Words.l0 k3 a1 t206 y212 (wrap64 (x7_1 + 1)) a0_0 a0_1 x203002_1 l0_3) = some r := by first | (rw [hy212]; with_reducible exact H) | (have H2_ := (Option.bind_some _ _).symm.trans H; rw [hy212]; with_reducible exact H2_) | (have H2_ := (Option.bind_some _ _).symm.trans H; with_reducible exact H2_) | with_reducible exact H | (rw [hy212]; exact H) | exact H
       have Ny212 := Aside0.mk hy212
       clear hy212
       have H' := Aside0.mk H
       clear H
       go_wp2_with (first | ((with_reducible refine gate_builtin (b := .append) (xs := #[.tmp 70, .tmp 72]) rfl ?_); (try (refine gate_guard (by rfl) ?_; dsimp only)); at_builtin; refine Kd.N_append (Kd.slice 4 Kd.bool) (w0 := w) w.heap.size rfl (.tmp 70) (.tmp 72) 54 22 (.slice none 0 0) 24 rfl Try.underlying54 info22 rfl (by decide) (by omega) (.slice Ao16 x6_1.length co16) x6_1 x8_3 [.slice Ao22 x8_3.length co22] (fun k_ => (P0_2_ k_ ∨ w.heap.size ≤ k_) ∧ some k_ ≠ (v207 : Value).ownBlock ∧ k_ ≠ gb202) (fun k_ => ((fun k_ => (P0_2_ k_ ∨ w.heap.size ≤ k_) ∧ some k_ ≠ (v207 : Value).ownBlock ∧ k_ ≠ gb202)) k_ ∧ some k_ ≠ (.slice Ao16 x6_1.length co16 : Value).ownBlock) rfl rfl ?aP (fun _ hk => hk) ?aF ?aO ?aB ?aS ?aL ?_; (case aP => exact (FK_of_R (Kd.R_mono (ok' := (fun k_ => ((fun k_ => (P0_2_ k_ ∨ w.heap.size ≤ k_) ∧ some k_ ≠ (v207 : Value).ownBlock ∧ k_ ≠ gb202)) k_ ∧ some k_ ≠ (.slice Ao16 x6_1.length co16 : Value).ownBlock)) (Kd.R_types (Kd.R_apart' (Kd.R_apart' (HO_8.out) (Kd.R_typed HO_5.out) (by decide)) (Kd.N_typed HO_6.out) (by decide)) BK202.out (by decide)) (fun k_ hk => ⟨⟨(.inr (hk.1.1.1)), ⟨hk.1.1.2, hk.2⟩⟩, hk.1.2⟩)))); (case aB => exact (by repeat (first | (with_reducible first | exact HB.out | apply below_alloc | apply pw_below_drewN | apply below_drew1 | refine below_set ?_ GE202.out) | exact HB.out))); (case aF => exact (fun k_ hk => ⟨(.inr (Nat.le_trans (below_size (by repeat (first | (with_reducible first | exact HB.out | apply below_alloc | apply pw_below_drewN | apply below_drew1 | refine below_set ?_ GE202.out) | exact HB.out))) hk)), Kd.fresh' (Kd.R_lt (uR HO_5.out)) k_ hk, Kd.freshB (g := gb202) (o := .cells #[.int .i64 a0_0, .int .i64 a0_1, .slice Ao15 x203002_1.length co15, .slice A0_3 l0_3.length c0_3] 25 (0, 0)) (uB BK202.out) k_ hk⟩)); (case aO => exact (by (with_reducible repeat (first | apply Kd.N_alloc | apply Kd.N_drewN | apply Kd.N_drew)); exact Kd.N_mono HO_6.out (fun _ hk => ⟨hk.1, ⟨hk.2.1, hk.2.2.2⟩⟩))); (case aS => exact (below_size (by repeat (first | (with_reducible first | exact HB.out | apply below_alloc | apply pw_below_drewN | apply below_drew1 | refine below_set ?_ GE202.out) | exact HB.out)))); (case aL => have := LMc44.out; omega); intro v213 w45 ho hb hg hat; rw [← Ny212.out] at ho; have n0_ := Aside0.mk (Kd.R_over' (uR HO_5.out) (Kd.N_typed (by (with_reducible repeat (first | apply Kd.N_alloc | apply Kd.N_drewN | apply Kd.N_drew)); exact HO_6.out)) (by decide) hg); have n1_ := Aside0.mk (Kd.V_afterv (ok := (fun k_ => (P0_2_ k_ ∨ w.heap.size ≤ k_) ∧ some k_ ≠ (v207 : Value).ownBlock ∧ some k_ ≠ (.slice Ao22 x8_3.length co22 : Value).ownBlock ∧ k_ ≠ gb202)) (by (with_reducible repeat (first | apply Kd.V_alloc | apply Kd.V_drewN | apply Kd.V_drew)); exact Kd.V_mono HO_203002.out (fun _ hk => ⟨⟨hk.1, ⟨hk.2.1, ⟨hk.2.2.2.1, hk.2.2.2.2⟩⟩⟩, hk.2.2.1⟩)) hg hat); have n2_ := Aside0.mk (blk_grown (g := gb202) (o := .cells #[.int .i64 a0_0, .int .i64 a0_1, .slice Ao15 x203002_1.length co15, .slice A0_3 l0_3.length c0_3] 25 (0, 0)) (uB BK202.out) hg (Kd.N_ne HO_6.out BK202.out (by decide))); have n3_ := Aside0.mk (hb); have n4_ := Aside0.mk (ho); clear HO_5; clear HO_203002; clear BK202; clear HB; clear HO_6; clear HO_8; have HO_5 := n0_; have HO_203002 := n1_; have BK202 := n2_; have HB := n3_; have HO214 := n4_; clear n0_ n1_ n2_ n3_ n4_; clear ho hb hg hat))
       (try simp only [← hl8_3])
       go_roundg k3
       case measure => have := HK1.out; have := HJ6.out; have := HK3.out; omega
       case rel => exact ⟨(t206), (y212), (wrap64 (x7_1 + 1)), (x203002_1), (.slice Ao15 x203002_1.length co15), (by first | rfl | (simp; done) | (simp [*]; done)), H', ⟨by have := HK1.out; have := HJ6.out; have := HK3.out; omega⟩, ⟨by (try simp only [hl8_3]); (with_reducible repeat (first | apply Kd.R_alloc | apply Kd.R_drewN | apply Kd.R_drew)); exact HO_5.out⟩, ⟨by (try simp only [hl8_3]); (with_reducible repeat (first | apply Kd.N_alloc | apply Kd.N_drewN | apply Kd.N_drew)); exact HO214.out⟩, ⟨by (try simp only [hl8_3]); (with_reducible repeat (first | apply Kd.V_alloc | apply Kd.V_drewN | apply Kd.V_drew)); exact Kd.V_mono HO_203002.out (fun _ hk => ⟨hk.1.1, ⟨hk.1.2.1, ⟨hk.2, hk.1.2.2.2⟩⟩⟩)⟩, ⟨by (try simp only [hl8_3]); (with_reducible repeat (first | refine blk_drewN ?_ _ | refine blk_drew ?_ | refine blk_alloc ?_ _)); exact BK202.out⟩, ⟨by repeat (first | (with_reducible first | exact HB.out | apply below_alloc | apply pw_below_drewN | apply below_drew1 | refine below_set ?_ GE202.out) | exact HB.out)⟩⟩
       )
       (focus
       rw [if_neg c44] at H
       exact absurd H (by simp)
       )
       )
     )
     (focus
     rw [if_neg c13] at H
     exact absurd H (by simp)
     )
     )
     (focus
     rw [if_neg c12] at H
     exact absurd H (by simp)
     )
     )
     (focus
     replace c10 := Bool.eq_false_iff.mpr c10
     subst c10
     have H1 : (some x5_1) = some r := by rw [if_neg (show ¬ (false = true) by decide)] at H; exact H
     clear H
     have H := H1
     clear H1
     obtain rfl := Option.some.inj H
     go_wp2
     go_ret
     exact ⟨_, by first | rfl | (simp [errW_none, errW_some] <;> rfl) | (simp [*, errW_none, errW_some] <;> rfl), by (with_reducible repeat (first | apply Kd.R_alloc | apply Kd.R_drewN | apply Kd.R_drew)); exact HO_5.out, by repeat (first | (with_reducible first | exact HB.out | apply below_alloc | apply pw_below_drewN | apply below_drew1 | refine below_set ?_ GE202.out) | exact HB.out)⟩
     )
end Go.Proofs.Ytpjbmgoagehjkaa.PDfaLists
