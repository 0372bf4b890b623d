-- by hp.py of this repo, over the kit's print: Lean checks it
import Derived.Test.YtjpghckijecdcaaPPartitionSaturatesx0
namespace Go.Proofs.Ytjpghckijecdcaa.PPartitionSaturates
open Go.RowKit Go.Proofs.YtjpghckijecdcaaW.PrintWords Go.Proofs.YtjpghckijecdcaaW.PrintLast Go.Proofs.YtjpghckijecdcaaW.PrintMore
attribute [local go_sem] max2_int min2_int max_two min_two max_three min_three max_four min_four   -- for this text's walks alone
set_option linter.unusedVariables false
set_option linter.unusedSimpArgs false

/-! ### partition_Valid: function 18 -/
mutual
def partition_Valid.l0 : Nat → Int → List Int → Int → Int → Option (Bool)
  | 0, _, _, _, _ => none
  | k + 1, x3, x9, x10, x11 => if x11 < x10 then (if 0 ≤ x11 then (if x11 < (x9.length : Int) then (if (rd x9 x11) < 0 then (partition_Valid.j1 k x3 (rd x9 x11) x9 x10 x11 true) else (partition_Valid.j1 k x3 (rd x9 x11) x9 x10 x11 (decide ((rd x9 x11) > x3)))) else (none)) else (none)) else (some true)
def partition_Valid.j1 : Nat → Int → Int → List Int → Int → Int → Bool → Option (Bool)
  | 0, _, _, _, _, _, _ => none
  | k + 1, x3, x5, x9, x10, x11, x21 => if x21 = true then (some false) else (if x5 = x3 then (partition_Valid.l0 k (wrap64 (x3 + 1)) x9 x10 (wrap64 (x11 + 1))) else (partition_Valid.l0 k x3 x9 x10 (wrap64 (x11 + 1))))
end
def partition_Valid.f (k : Nat) (l0 : List Int) : Option (Bool) := if (l0.length : Int) > 4096 then (some false) else (partition_Valid.l0 k 0 l0 (l0.length : Int) 0)
theorem partition_Valid.mono_l : ∀ k, (∀ y0 y1 y2 y3, LeO (partition_Valid.l0 k y0 y1 y2 y3) (partition_Valid.l0 (k + 1) y0 y1 y2 y3)) ∧ (∀ y0 y1 y2 y3 y4 y5, LeO (partition_Valid.j1 k y0 y1 y2 y3 y4 y5) (partition_Valid.j1 (k + 1) y0 y1 y2 y3 y4 y5))
  | 0 => ⟨fun _ _ _ _ r h => by simp [partition_Valid.l0] at h, fun _ _ _ _ _ _ r h => by simp [partition_Valid.j1] at h⟩
  | k + 1 => by
    obtain ⟨ih0, ih1⟩ := partition_Valid.mono_l k
    refine ⟨?_, ?_⟩
    · intro y0 y1 y2 y3
      unfold partition_Valid.l0
      repeat' first
      | (with_reducible exact ih0 _ _ _ _)
      | (with_reducible exact ih1 _ _ _ _ _ _)
      | (with_reducible exact LeO.refl _)
      | (with_reducible exact LeO.none _)
      | (with_reducible refine LeO.ite ?_ ?_)
      | (with_reducible refine LeO.bind ?_ (fun _ => ?_))
      | exact ih0 _ _ _ _
      | exact ih1 _ _ _ _ _ _
      | exact LeO.none _
      | refine LeO.ite ?_ ?_
      | refine LeO.bind ?_ (fun _ => ?_)
    · intro y0 y1 y2 y3 y4 y5
      unfold partition_Valid.j1
      repeat' first
      | (with_reducible exact ih0 _ _ _ _)
      | (with_reducible exact ih1 _ _ _ _ _ _)
      | (with_reducible exact LeO.refl _)
      | (with_reducible exact LeO.none _)
      | (with_reducible refine LeO.ite ?_ ?_)
      | (with_reducible refine LeO.bind ?_ (fun _ => ?_))
      | exact ih0 _ _ _ _
      | exact ih1 _ _ _ _ _ _
      | exact LeO.none _
      | refine LeO.ite ?_ ?_
      | refine LeO.bind ?_ (fun _ => ?_)
theorem partition_Valid.mono : ∀ a0 k, LeO (partition_Valid.f k a0) (partition_Valid.f (k + 1) a0) := by
  intro a0 k
  obtain ⟨ih0, ih1⟩ := partition_Valid.mono_l k
  unfold partition_Valid.f
  repeat' first
      | (with_reducible exact ih0 _ _ _ _)
      | (with_reducible exact ih1 _ _ _ _ _ _)
      | (with_reducible exact LeO.refl _)
      | (with_reducible exact LeO.none _)
      | (with_reducible refine LeO.ite ?_ ?_)
      | (with_reducible refine LeO.bind ?_ (fun _ => ?_))
      | exact ih0 _ _ _ _
      | exact ih1 _ _ _ _ _ _
      | exact LeO.none _
      | refine LeO.ite ?_ ?_
      | refine LeO.bind ?_ (fun _ => ?_)
set_option maxHeartbeats 8000000 in
set_option maxRecDepth 100000 in
theorem partition_Valid.calls (k : Nat) (A0 : Option Addr) (c0 : Nat) (l0 : List Int) (r : Bool) (w : World) (hr0 : Kd.C (Kd.int .i64) w A0 l0.length l0) (hc0 : l0.length ≤ c0) (h : partition_Valid.f k l0 = some r) :
    Calls Try.prog 18 #[.slice A0 l0.length c0] w fun e w' => e = .returned (.bool r) ∧ Drawn0 w w' := by
  have HR0 := Aside0.mk hr0
  have HC0 := Aside0.mk hc0
  clear hr0 hc0
  have H : (if (l0.length : Int) > 4096 then (some false) else (partition_Valid.l0 k 0 l0 (l0.length : Int) 0)) = some r := h
  clear h
  by_cases c2 : (l0.length : Int) > 4096
  · rw [if_pos c2] at H
    have c2b0 : decide (4096 < (l0.length : Int)) = true := decide_eq_true c2
    have c2b1 : decide (4096 < l0.length) = true := decide_eq_true (by omega)
    clear c2
    obtain rfl := Option.some.inj H
    go_enter Try.func18, Try.ntmps18
    go_wp2
    go_ret
    exact ⟨by first | rfl | (simp; done) | (simp [*]; done), by repeat (first | exact Drawn0.refl _ | apply Drawn0.step)⟩
  · rw [if_neg c2] at H
    have c2b0 : decide (4096 < (l0.length : Int)) = false := decide_eq_false c2
    have c2b1 : decide (4096 < l0.length) = false := decide_eq_false (by omega)
    clear c2
    have H' := Aside0.mk H
    clear H
    go_enter Try.func18, Try.ntmps18
    go_wp2
    go_loopg [3, 11] k (fun kq v3 v11 w' => ∃ (x3_1 : Int) (x11_1 : Int), v3 = .int .i64 x3_1 ∧ v11 = .int .i64 x11_1 ∧ Aside0 (partition_Valid.l0 kq x3_1 l0 (l0.length : Int) x11_1 = some r) ∧ Aside0 (kq ≤ k) ∧ Drawn0 w w')
    case atStart => exact ⟨(0), (0), (by first | rfl | (simp; done) | (simp [*]; done)), (by first | rfl | (simp; done) | (simp [*]; done)), H', ⟨Nat.le_refl _⟩, by repeat (first | exact Drawn0.refl _ | apply Drawn0.step)⟩
    case round =>
      clear H'
      try clear c1
      try clear c2
      try clear c2b0
      try clear c2b1
      try clear p2
      obtain ⟨x3_1, x11_1, rfl, rfl, HA, HK1, ⟨m1, rfl⟩⟩ := hrel
      cases gk with
      | zero => exact absurd HA.out (by simp [partition_Valid.l0])
      | succ k1 =>
        have H := HA.out
        clear HA
        simp only [partition_Valid.l0] at H
        by_cases c3 : x11_1 < (l0.length : Int)
        · rw [if_pos c3] at H
          have c3b0 : decide (x11_1 < (l0.length : Int)) = true := decide_eq_true c3
          clear c3
          by_cases c4 : 0 ≤ x11_1
          · rw [if_pos c4] at H
            have c4b0 : decide (0 ≤ x11_1) = true := decide_eq_true c4
            clear c4
            by_cases c5 : x11_1 < (l0.length : Int)
            · rw [if_pos c5] at H
              have c5b0 : decide (x11_1 < (l0.length : Int)) = true := decide_eq_true c5
              clear c5
              have HC6 := Aside0.mk H
              clear H
              have p128 : 0 ≤ (x11_1 : Int) := of_decide_eq_true (by first | (with_reducible assumption) | assumption)
              have q128 : x11_1 < (l0.length : Int) := of_decide_eq_true (by first | (with_reducible assumption) | assumption)
              obtain ⟨ad128, e128, hx128_0⟩ := Kd.at_int HR0.out x11_1 p128 q128
              cases e128
              replace p128 := eq_true p128
              replace q128 := eq_true q128
              go_upto_region 7 with (fail)
              go_cut [21] (fun v21 wc => ∃ (kq : Nat) (x21_5 : Bool), v21 = .bool x21_5 ∧ Aside0 (partition_Valid.j1 kq x3_1 (rd l0 x11_1) l0 (l0.length : Int) x11_1 x21_5 = some r) ∧ Aside0 (kq ≤ k1) ∧ Drawn0 w wc)
              case first =>
                have H := HC6.out
                clear HC6
                by_cases c7 : (rd l0 x11_1) < 0
                · rw [if_pos c7] at H
                  have c7b0 : decide ((rd l0 x11_1) < 0) = true := decide_eq_true c7
                  clear c7
                  (first | rw [c7b0] | (simp only [i64_w, i32_w]; rw [c7b0]) | skip)
                  have H' := Aside0.mk H
                  clear H
                  go_wp2
                  go_meet
                  case rel => exact ⟨_, (true), (by first | rfl | (simp; done) | (simp [*]; done)), H', ⟨by have := HK1.out; first | omega | exact Nat.le_refl _⟩, by repeat (first | exact Drawn0.refl _ | apply Drawn0.step)⟩
                · rw [if_neg c7] at H
                  have c7b0 : decide ((rd l0 x11_1) < 0) = false := decide_eq_false c7
                  clear c7
                  (first | rw [c7b0] | (simp only [i64_w, i32_w]; rw [c7b0]) | skip)
                  have H' := Aside0.mk H
                  clear H
                  go_wp2
                  go_meet
                  case rel => exact ⟨_, (decide ((rd l0 x11_1) > x3_1)), (by first | rfl | (simp; done) | (simp [*]; done)), H', ⟨by have := HK1.out; first | omega | exact Nat.le_refl _⟩, by repeat (first | exact Drawn0.refl _ | apply Drawn0.step)⟩
              case rest =>
                clear HC6
                try clear c1
                try clear p1
                try clear q1
                try clear hx1
                try clear c2
                try clear c2b0
                try clear c2b1
                try clear p2
                try clear c3
                try clear c3b0
                try clear c4
                try clear c4b0
                try clear c5
                try clear c5b0
                try clear c7
                try clear c7b0
                try clear hx128_0
                try clear p128
                try clear p2
                try clear q128
                obtain ⟨kq, x21_5, rfl, HA, HJ5, ⟨mc5, rfl⟩⟩ := hcut
                cases kq with
                | zero => exact absurd HA.out (by simp [partition_Valid.j1])
                | succ kj5 =>
                  have H := HA.out
                  clear HA
                  simp only [partition_Valid.j1] at H
                  by_cases c8 : x21_5 = true
                  · subst c8
                    have H1 : (some false) = some r := by rw [if_pos rfl] at H; exact H
                    clear H
                    have H := H1
                    clear H1
                    obtain rfl := Option.some.inj H
                    go_wp2
                    go_ret
                    exact ⟨by first | rfl | (simp; done) | (simp [*]; done), by repeat (first | exact Drawn0.refl _ | apply Drawn0.step)⟩
                  · replace c8 := Bool.eq_false_iff.mpr c8
                    subst c8
                    have H1 : (if (rd l0 x11_1) = x3_1 then (partition_Valid.l0 kj5 (wrap64 (x3_1 + 1)) l0 (l0.length : Int) (wrap64 (x11_1 + 1))) else (partition_Valid.l0 kj5 x3_1 l0 (l0.length : Int) (wrap64 (x11_1 + 1)))) = some r := by rw [if_neg (show ¬ (false = true) by decide)] at H; exact H
                    clear H
                    have H := H1
                    clear H1
                    by_cases c9 : (rd l0 x11_1) = x3_1
                    · rw [if_pos c9] at H
                      have c9b0 : ((rd l0 x11_1) == x3_1) = true := beq_iff_eq.mpr c9
                      have c9b1 : ((rd l0 x11_1) != x3_1) = false := bne_eq_false_iff_eq.mpr c9
                      clear c9
                      have H' := Aside0.mk H
                      clear H
                      go_wp2
                      go_roundg kj5
                      case measure => have := HK1.out; have := HJ5.out; omega
                      case rel => exact ⟨(wrap64 (x3_1 + 1)), (wrap64 (x11_1 + 1)), (by first | rfl | (simp; done) | (simp [*]; done)), (by first | rfl | (simp; done) | (simp [*]; done)), H', ⟨by have := HK1.out; have := HJ5.out; omega⟩, by repeat (first | exact Drawn0.refl _ | apply Drawn0.step)⟩
                    · rw [if_neg c9] at H
                      have c9b0 : ((rd l0 x11_1) == x3_1) = false := beq_eq_false_iff_ne.mpr c9
                      have c9b1 : ((rd l0 x11_1) != x3_1) = true := bne_iff_ne.mpr c9
                      have H' := Aside0.mk H
                      clear H
                      go_wp2
                      go_roundg kj5
                      case measure => have := HK1.out; have := HJ5.out; omega
                      case rel => exact ⟨(x3_1), (wrap64 (x11_1 + 1)), (by first | rfl | (simp; done) | (simp [*]; done)), (by first | rfl | (simp; done) | (simp [*]; done)), H', ⟨by have := HK1.out; have := HJ5.out; omega⟩, by repeat (first | exact Drawn0.refl _ | apply Drawn0.step)⟩
            · rw [if_neg c5] at H
              exact absurd H (by simp)
          · rw [if_neg c4] at H
            exact absurd H (by simp)
        · rw [if_neg c3] at H
          have c3b0 : decide (x11_1 < (l0.length : Int)) = false := decide_eq_false c3
          clear c3
          obtain rfl := Option.some.inj H
          go_wp2
          go_ret
          exact ⟨by first | rfl | (simp; done) | (simp [*]; done), by repeat (first | exact Drawn0.refl _ | apply Drawn0.step)⟩

/-! ### partition_Count: function 21 -/
def partition_Count.l0 : Nat → Int → List Int → Int → Int → Option (Int)
  | 0, _, _, _, _ => none
  | k + 1, x3, x9, x10, x11 => if x11 < x10 then (if 0 ≤ x11 then (if x11 < (x9.length : Int) then (partition_Count.l0 k (mx x3 (wrap64 ((rd x9 x11) + 1))) x9 x10 (wrap64 (x11 + 1))) else (none)) else (none)) else (some x3)
def partition_Count.f (k : Nat) (l0 : List Int) : Option (Int) := (partition_Valid.f k l0).bind fun t129 => (if t129 = true then (partition_Count.l0 k 0 l0 (l0.length : Int) 0) else (some 0))
theorem partition_Count.mono_l : ∀ k, (∀ y0 y1 y2 y3, LeO (partition_Count.l0 k y0 y1 y2 y3) (partition_Count.l0 (k + 1) y0 y1 y2 y3))
  | 0 => fun _ _ _ _ r h => by simp [partition_Count.l0] at h
  | k + 1 => by
    have ih0 := partition_Count.mono_l k
    · intro y0 y1 y2 y3
      unfold partition_Count.l0
      repeat' first
      | (with_reducible exact ih0 _ _ _ _)
      | (with_reducible exact partition_Valid.mono _ _)
      | (with_reducible exact LeO.refl _)
      | (with_reducible exact LeO.none _)
      | (with_reducible refine LeO.ite ?_ ?_)
      | (with_reducible refine LeO.bind ?_ (fun _ => ?_))
      | exact ih0 _ _ _ _
      | exact partition_Valid.mono _ _
      | exact LeO.none _
      | refine LeO.ite ?_ ?_
      | refine LeO.bind ?_ (fun _ => ?_)
theorem partition_Count.mono : ∀ a0 k, LeO (partition_Count.f k a0) (partition_Count.f (k + 1) a0) := by
  intro a0 k
  have ih0 := partition_Count.mono_l k
  unfold partition_Count.f
  repeat' first
      | (with_reducible exact ih0 _ _ _ _)
      | (with_reducible exact partition_Valid.mono _ _)
      | (with_reducible exact LeO.refl _)
      | (with_reducible exact LeO.none _)
      | (with_reducible refine LeO.ite ?_ ?_)
      | (with_reducible refine LeO.bind ?_ (fun _ => ?_))
      | exact ih0 _ _ _ _
      | exact partition_Valid.mono _ _
      | exact LeO.none _
      | refine LeO.ite ?_ ?_
      | refine LeO.bind ?_ (fun _ => ?_)
set_option maxHeartbeats 8000000 in
set_option maxRecDepth 100000 in
theorem partition_Count.calls (k : Nat) (A0 : Option Addr) (c0 : Nat) (l0 : List Int) (r : Int) (w : World) (hr0 : Kd.C (Kd.int .i64) w A0 l0.length l0) (hc0 : l0.length ≤ c0) (h : partition_Count.f k l0 = some r) :
    Calls Try.prog 21 #[.slice A0 l0.length c0] w fun e w' => e = .returned (.int .i64 r) ∧ Below w.heap.size w w' := by
  have HR0 := Aside0.mk hr0
  have HC0 := Aside0.mk hc0
  clear hr0 hc0
  have HB := Aside0.mk (Below.refl w.heap.size w)
  have H : ((partition_Valid.f k l0).bind fun t129 => (if t129 = true then (partition_Count.l0 k 0 l0 (l0.length : Int) 0) else (some 0))) = some r := h
  clear h
  replace H := Option.bind_eq_some_iff.mp H
  obtain ⟨t129, A20, H⟩ := H
  replace H : (if t129 = true then (partition_Count.l0 k 0 l0 (l0.length : Int) 0) else (some 0)) = some r := H
  have A2 := Aside0.mk A20
  clear A20
  by_cases c3 : t129 = true
  · subst c3
    have H1 : (partition_Count.l0 k 0 l0 (l0.length : Int) 0) = some r := by rw [if_pos rfl] at H; exact H
    clear H
    have H := H1
    clear H1
    have H' := Aside0.mk H
    clear H
    go_enter Try.func21, Try.ntmps21
    go_wp2_with (first | ((with_reducible refine gate_callee (f := 18) rfl ?_); refine goesL_ (some 7) rfl rfl Try.func18 (by kernel_rfl) rfl #[.slice A0 l0.length c0] rfl (by (try simp only [List.map_toArray, List.map_cons, List.map_nil]); first | done | rfl | (simp only [List.length_drop, List.length_take]; rfl)) ?_; (with_reducible refine (partition_Valid.calls k _ _ l0 true _ ?side1 ?side2 A2.out).mono ?_); (case side1 => repeat (first | exact HR0.out | (with_reducible refine Kd.C_alloc ?_ _) | (with_reducible refine Kd.C_drewN ?_ _) | (with_reducible refine Kd.C_drew ?_))); (case side2 => exact HC0.out); rintro e w' ⟨rfl, ⟨nd, rfl⟩⟩; refine ⟨_, rfl, ?_⟩))
    go_loopg [3, 11] k (fun kq v3 v11 w' => ∃ (x3_1 : Int) (x11_1 : Int), v3 = .int .i64 x3_1 ∧ v11 = .int .i64 x11_1 ∧ Aside0 (partition_Count.l0 kq x3_1 l0 (l0.length : Int) x11_1 = some r) ∧ Aside0 (kq ≤ k) ∧ Aside0 (Below w.heap.size w w'))
    case atStart => exact ⟨(0), (0), (by first | rfl | (simp; done) | (simp [*]; done)), (by first | rfl | (simp; done) | (simp [*]; done)), H', ⟨Nat.le_refl _⟩, ⟨by repeat (first | (with_reducible first | exact HB.out | apply below_alloc | apply pw_below_drewN | apply below_drew1) | exact HB.out)⟩⟩
    case round =>
      clear H'
      try clear c1
      try clear c2
      try clear p2
      try clear c3
      obtain ⟨x3_1, x11_1, rfl, rfl, HA, HK1, HB⟩ := hrel
      cases gk with
      | zero => exact absurd HA.out (by simp [partition_Count.l0])
      | succ k1 =>
        have H := HA.out
        clear HA
        simp only [partition_Count.l0] at H
        by_cases c4 : x11_1 < (l0.length : Int)
        · rw [if_pos c4] at H
          have c4b0 : decide (x11_1 < (l0.length : Int)) = true := decide_eq_true c4
          clear c4
          by_cases c5 : 0 ≤ x11_1
          · rw [if_pos c5] at H
            have c5b0 : decide (0 ≤ x11_1) = true := decide_eq_true c5
            clear c5
            by_cases c6 : x11_1 < (l0.length : Int)
            · rw [if_pos c6] at H
              have c6b0 : decide (x11_1 < (l0.length : Int)) = true := decide_eq_true c6
              clear c6
              obtain ⟨ji7, hji7⟩ : ∃ j_ : Int, (mx x3_1 (wrap64 ((rd l0 x11_1) + 1))) = j_ := ⟨_, rfl⟩
              replace H : (partition_Count.l0 k1 ji7 l0 (l0.length : Int) (wrap64 (x11_1 + 1))) = some r := by first | (rw [hji7] at H; exact H) | (simp only [hji7] at H ⊢; exact H)
              have hji7_ : (if x3_1 < (wrap64 ((rd l0 x11_1) + 1)) then (wrap64 ((rd l0 x11_1) + 1)) else x3_1) = ji7 := hji7
              have H' := Aside0.mk H
              clear H
              have p130 : 0 ≤ (x11_1 : Int) := of_decide_eq_true (by first | (with_reducible assumption) | assumption)
              have q130 : x11_1 < (l0.length : Int) := of_decide_eq_true (by first | (with_reducible assumption) | assumption)
              obtain ⟨ad130, e130, hx130_0⟩ := Kd.at_int HR0.out x11_1 p130 q130
              cases e130
              (try replace hx130_0 := (HB.out.cell (World.block_lt_of_cell? w _ hx130_0)).trans hx130_0)
              replace p130 := eq_true p130
              replace q130 := eq_true q130
              go_wp2
              go_roundg k1
              case measure => have := HK1.out; omega
              case rel => exact ⟨(ji7), (wrap64 (x11_1 + 1)), (by first | rfl | (simp; done) | (simp only [← hji7] <;> (first | rfl | simp)) | (simp [*]; done)), (by first | rfl | (simp; done) | (simp [*]; done)), H', ⟨by have := HK1.out; omega⟩, ⟨by repeat (first | (with_reducible first | exact HB.out | apply below_alloc | apply pw_below_drewN | apply below_drew1) | exact HB.out)⟩⟩
            · rw [if_neg c6] at H
              exact absurd H (by simp)
          · rw [if_neg c5] at H
            exact absurd H (by simp)
        · rw [if_neg c4] at H
          have c4b0 : decide (x11_1 < (l0.length : Int)) = false := decide_eq_false c4
          clear c4
          obtain rfl := Option.some.inj H
          go_wp2
          go_ret
          exact ⟨by first | rfl | (simp [errW_none, errW_some] <;> rfl) | (simp [*, errW_none, errW_some] <;> rfl), by repeat (first | (with_reducible first | exact HB.out | apply below_alloc | apply pw_below_drewN | apply below_drew1) | exact HB.out)⟩
  · replace c3 := Bool.eq_false_iff.mpr c3
    subst c3
    have H1 : (some 0) = some r := by rw [if_neg (show ¬ (false = true) by decide)] at H; exact H
    clear H
    have H := H1
    clear H1
    obtain rfl := Option.some.inj H
    go_enter Try.func21, Try.ntmps21
    go_wp2_with (first | ((with_reducible refine gate_callee (f := 18) rfl ?_); refine goesL_ (some 7) rfl rfl Try.func18 (by kernel_rfl) rfl #[.slice A0 l0.length c0] rfl (by (try simp only [List.map_toArray, List.map_cons, List.map_nil]); first | done | rfl | (simp only [List.length_drop, List.length_take]; rfl)) ?_; (with_reducible refine (partition_Valid.calls k _ _ l0 false _ ?side1 ?side2 A2.out).mono ?_); (case side1 => repeat (first | exact HR0.out | (with_reducible refine Kd.C_alloc ?_ _) | (with_reducible refine Kd.C_drewN ?_ _) | (with_reducible refine Kd.C_drew ?_))); (case side2 => exact HC0.out); rintro e w' ⟨rfl, ⟨nd, rfl⟩⟩; refine ⟨_, rfl, ?_⟩))
    go_ret
    exact ⟨by first | rfl | (simp [errW_none, errW_some] <;> rfl) | (simp [*, errW_none, errW_some] <;> rfl), by repeat (first | (with_reducible first | exact HB.out | apply below_alloc | apply pw_below_drewN | apply below_drew1) | exact HB.out)⟩

/-! ### partition_Saturates: function 31 -/
mutual
def partition_Saturates.j0 : Nat → List Int → List Bool → Bool → Option (Bool)
  | 0, _, _, _ => none
  | k + 1, x0, x1, x18 => if x18 = true then (some false) else ((partition_Count.f k x0).bind fun t132 => (if 0 ≤ t132 then (if (t132 : Int).toNat ≤ 35184372088832 then (partition_Saturates.l0 k x1 (List.replicate (t132 : Int).toNat 0) x0 (x0.length : Int) 0) else (none)) else (none)))
def partition_Saturates.l0 : Nat → List Bool → List Int → List Int → Int → Int → Option (Bool)
  | 0, _, _, _, _, _ => none
  | k + 1, x1, x5, x22, x23, x24 => if x24 < x23 then (if 0 ≤ x24 then (if x24 < (x22.length : Int) then (if x24 < (x1.length : Int) then (if rdOf false x1 x24 = true then (partition_Saturates.j2 k x1 x5 (rd x22 x24) 2 x22 x23 x24) else (partition_Saturates.j2 k x1 x5 (rd x22 x24) 1 x22 x23 x24)) else (none)) else (none)) else (none)) else (some true)
def partition_Saturates.j2 : Nat → List Bool → List Int → Int → Int → List Int → Int → Int → Option (Bool)
  | 0, _, _, _, _, _, _, _ => none
  | k + 1, x1, x5, x7, x8, x22, x23, x24 => if 0 ≤ x7 then (if x7 < (x5.length : Int) then (if (rd x5 x7) = 0 then ((some (x5.set (x7 : Int).toNat x8 : List Int)).bind fun y139 => (if (rd y139 x7) = x8 then (partition_Saturates.l0 k x1 y139 x22 x23 (wrap64 (x24 + 1))) else (some false))) else (if (rd x5 x7) = x8 then (partition_Saturates.l0 k x1 x5 x22 x23 (wrap64 (x24 + 1))) else (some false))) else (none)) else (none)
end
def partition_Saturates.f (k : Nat) (l0 : List Int) (l1 : List Bool) : Option (Bool) := (partition_Valid.f k l0).bind fun t131 => (if t131 = true then (partition_Saturates.j0 k l0 l1 ((l0.length : Int) != (l1.length : Int))) else (partition_Saturates.j0 k l0 l1 true))
theorem partition_Saturates.mono_l : ∀ k, (∀ y0 y1 y2, LeO (partition_Saturates.j0 k y0 y1 y2) (partition_Saturates.j0 (k + 1) y0 y1 y2)) ∧ (∀ y0 y1 y2 y3 y4, LeO (partition_Saturates.l0 k y0 y1 y2 y3 y4) (partition_Saturates.l0 (k + 1) y0 y1 y2 y3 y4)) ∧ (∀ y0 y1 y2 y3 y4 y5 y6, LeO (partition_Saturates.j2 k y0 y1 y2 y3 y4 y5 y6) (partition_Saturates.j2 (k + 1) y0 y1 y2 y3 y4 y5 y6))
  | 0 => ⟨fun _ _ _ r h => by simp [partition_Saturates.j0] at h, fun _ _ _ _ _ r h => by simp [partition_Saturates.l0] at h, fun _ _ _ _ _ _ _ r h => by simp [partition_Saturates.j2] at h⟩
  | k + 1 => by
    obtain ⟨ih0, ih1, ih2⟩ := partition_Saturates.mono_l k
    refine ⟨?_, ?_, ?_⟩
    · intro y0 y1 y2
      unfold partition_Saturates.j0
      repeat' first
      | (with_reducible exact ih0 _ _ _)
      | (with_reducible exact ih1 _ _ _ _ _)
      | (with_reducible exact ih2 _ _ _ _ _ _ _)
      | (with_reducible exact partition_Count.mono _ _)
      | (with_reducible exact partition_Valid.mono _ _)
      | (with_reducible exact LeO.refl _)
      | (with_reducible exact LeO.none _)
      | (with_reducible refine LeO.ite ?_ ?_)
      | (with_reducible refine LeO.bind ?_ (fun _ => ?_))
      | exact ih0 _ _ _
      | exact ih1 _ _ _ _ _
      | exact ih2 _ _ _ _ _ _ _
      | exact partition_Count.mono _ _
      | exact partition_Valid.mono _ _
      | exact LeO.none _
      | refine LeO.ite ?_ ?_
      | refine LeO.bind ?_ (fun _ => ?_)
    · intro y0 y1 y2 y3 y4
      unfold partition_Saturates.l0
      repeat' first
      | (with_reducible exact ih0 _ _ _)
      | (with_reducible exact ih1 _ _ _ _ _)
      | (with_reducible exact ih2 _ _ _ _ _ _ _)
      | (with_reducible exact partition_Count.mono _ _)
      | (with_reducible exact partition_Valid.mono _ _)
      | (with_reducible exact LeO.refl _)
      | (with_reducible exact LeO.none _)
      | (with_reducible refine LeO.ite ?_ ?_)
      | (with_reducible refine LeO.bind ?_ (fun _ => ?_))
      | exact ih0 _ _ _
      | exact ih1 _ _ _ _ _
      | exact ih2 _ _ _ _ _ _ _
      | exact partition_Count.mono _ _
      | exact partition_Valid.mono _ _
      | exact LeO.none _
      | refine LeO.ite ?_ ?_
      | refine LeO.bind ?_ (fun _ => ?_)
    · intro y0 y1 y2 y3 y4 y5 y6
      unfold partition_Saturates.j2
      repeat' first
      | (with_reducible exact ih0 _ _ _)
      | (with_reducible exact ih1 _ _ _ _ _)
      | (with_reducible exact ih2 _ _ _ _ _ _ _)
      | (with_reducible exact partition_Count.mono _ _)
      | (with_reducible exact partition_Valid.mono _ _)
      | (with_reducible exact LeO.refl _)
      | (with_reducible exact LeO.none _)
      | (with_reducible refine LeO.ite ?_ ?_)
      | (with_reducible refine LeO.bind ?_ (fun _ => ?_))
      | exact ih0 _ _ _
      | exact ih1 _ _ _ _ _
      | exact ih2 _ _ _ _ _ _ _
      | exact partition_Count.mono _ _
      | exact partition_Valid.mono _ _
      | exact LeO.none _
      | refine LeO.ite ?_ ?_
      | refine LeO.bind ?_ (fun _ => ?_)
theorem partition_Saturates.mono : ∀ a0 a1 k, LeO (partition_Saturates.f k a0 a1) (partition_Saturates.f (k + 1) a0 a1) := by
  intro a0 a1 k
  obtain ⟨ih0, ih1, ih2⟩ := partition_Saturates.mono_l k
  unfold partition_Saturates.f
  repeat' first
      | (with_reducible exact ih0 _ _ _)
      | (with_reducible exact ih1 _ _ _ _ _)
      | (with_reducible exact ih2 _ _ _ _ _ _ _)
      | (with_reducible exact partition_Count.mono _ _)
      | (with_reducible exact partition_Valid.mono _ _)
      | (with_reducible exact LeO.refl _)
      | (with_reducible exact LeO.none _)
      | (with_reducible refine LeO.ite ?_ ?_)
      | (with_reducible refine LeO.bind ?_ (fun _ => ?_))
      | exact ih0 _ _ _
      | exact ih1 _ _ _ _ _
      | exact ih2 _ _ _ _ _ _ _
      | exact partition_Count.mono _ _
      | exact partition_Valid.mono _ _
      | exact LeO.none _
      | refine LeO.ite ?_ ?_
      | refine LeO.bind ?_ (fun _ => ?_)
set_option maxHeartbeats 8000000 in
set_option maxRecDepth 100000 in
theorem partition_Saturates.calls (k : Nat) (A0 : Option Addr) (c0 : Nat) (l0 : List Int) (A1 : Option Addr) (c1 : Nat) (l1 : List Bool) (r : Bool) (w : World) (hr0 : Kd.C (Kd.int .i64) w A0 l0.length l0) (hc0 : l0.length ≤ c0) (hr1 : Kd.C Kd.bool w A1 l1.length l1) (hc1 : l1.length ≤ c1) (h : partition_Saturates.f k l0 l1 = some r) :
    Calls Try.prog 31 #[.slice A0 l0.length c0, .slice A1 l1.length c1] w fun e w' => e = .returned (.bool r) ∧ Below w.heap.size w w' := by
  have HR0 := Aside0.mk hr0
  have HC0 := Aside0.mk hc0
  clear hr0 hc0
  have HR1 := Aside0.mk hr1
  have HC1 := Aside0.mk hc1
  clear hr1 hc1
  have HB := Aside0.mk (Below.refl w.heap.size w)
  have H : ((partition_Valid.f k l0).bind fun t131 => (if t131 = true then (partition_Saturates.j0 k l0 l1 ((l0.length : Int) != (l1.length : Int))) else (partition_Saturates.j0 k l0 l1 true))) = some r := h
  clear h
  have HC3 := Aside0.mk H
  clear H
  go_enter Try.func31, Try.ntmps31
  go_upto_region 1 with (fail)
  go_cut [18] (fun v18 wc => ∃ (kq : Nat) (x18_2 : Bool), v18 = .bool x18_2 ∧ Aside0 (partition_Saturates.j0 kq l0 l1 x18_2 = some r) ∧ Aside0 (kq ≤ k) ∧ Aside0 (Below w.heap.size w wc))
  case first =>
    have H := HC3.out
    clear HC3
    replace H := Option.bind_eq_some_iff.mp H
    obtain ⟨t131, A40, H⟩ := H
    replace H : (if t131 = true then (partition_Saturates.j0 k l0 l1 ((l0.length : Int) != (l1.length : Int))) else (partition_Saturates.j0 k l0 l1 true)) = some r := H
    have A4 := Aside0.mk A40
    clear A40
    by_cases c5 : t131 = true
    · subst c5
      have H1 : (partition_Saturates.j0 k l0 l1 ((l0.length : Int) != (l1.length : Int))) = some r := by rw [if_pos rfl] at H; exact H
      clear H
      have H := H1
      clear H1
      have H' := Aside0.mk H
      clear H
      go_wp2_with (first | ((with_reducible refine gate_callee (f := 18) rfl ?_); refine goesL_ (some 10) rfl rfl Try.func18 (by kernel_rfl) rfl #[.slice A0 l0.length c0] rfl (by (try simp only [List.map_toArray, List.map_cons, List.map_nil]); first | done | rfl | (simp only [List.length_drop, List.length_take]; rfl)) ?_; (with_reducible refine (partition_Valid.calls k _ _ l0 true _ ?side1 ?side2 A4.out).mono ?_); (case side1 => repeat (first | exact (Kd.C_below HR0.out HB.out) | (with_reducible refine Kd.C_alloc ?_ _) | (with_reducible refine Kd.C_drewN ?_ _) | (with_reducible refine Kd.C_drew ?_))); (case side2 => exact HC0.out); rintro e w' ⟨rfl, ⟨nd, rfl⟩⟩; refine ⟨_, rfl, ?_⟩))
      go_meet
      case rel => exact ⟨_, (((l0.length : Int) != (l1.length : Int))), (by first | rfl | (simp; done) | (simp [*]; done)), H', ⟨by first | omega | exact Nat.le_refl _⟩, ⟨by repeat (first | (with_reducible first | exact HB.out | apply below_alloc | apply pw_below_drewN | apply below_drew1) | exact HB.out)⟩⟩
    · replace c5 := Bool.eq_false_iff.mpr c5
      subst c5
      have H1 : (partition_Saturates.j0 k l0 l1 true) = some r := by rw [if_neg (show ¬ (false = true) by decide)] at H; exact H
      clear H
      have H := H1
      clear H1
      have H' := Aside0.mk H
      clear H
      go_wp2_with (first | ((with_reducible refine gate_callee (f := 18) rfl ?_); refine goesL_ (some 10) rfl rfl Try.func18 (by kernel_rfl) rfl #[.slice A0 l0.length c0] rfl (by (try simp only [List.map_toArray, List.map_cons, List.map_nil]); first | done | rfl | (simp only [List.length_drop, List.length_take]; rfl)) ?_; (with_reducible refine (partition_Valid.calls k _ _ l0 false _ ?side1 ?side2 A4.out).mono ?_); (case side1 => repeat (first | exact (Kd.C_below HR0.out HB.out) | (with_reducible refine Kd.C_alloc ?_ _) | (with_reducible refine Kd.C_drewN ?_ _) | (with_reducible refine Kd.C_drew ?_))); (case side2 => exact HC0.out); rintro e w' ⟨rfl, ⟨nd, rfl⟩⟩; refine ⟨_, rfl, ?_⟩))
      go_meet
      case rel => exact ⟨_, (true), (by first | rfl | (simp; done) | (simp [*]; done)), H', ⟨by first | omega | exact Nat.le_refl _⟩, ⟨by repeat (first | (with_reducible first | exact HB.out | apply below_alloc | apply pw_below_drewN | apply below_drew1) | exact HB.out)⟩⟩
  case rest =>
    clear HC3
    try clear c1
    try clear p2
    try clear c3
    try clear c5
    obtain ⟨kq, x18_2, rfl, HA, HJ2, HB⟩ := hcut
    cases kq with
    | zero => exact absurd HA.out (by simp [partition_Saturates.j0])
    | succ kj2 =>
      have H := HA.out
      clear HA
      simp only [partition_Saturates.j0] at H
      by_cases c6 : x18_2 = true
      · subst c6
        have H1 : (some false) = some r := by rw [if_pos rfl] at H; exact H
        clear H
        have H := H1
        clear H1
        obtain rfl := Option.some.inj H
        go_wp2
        go_ret
        exact ⟨by first | rfl | (simp [errW_none, errW_some] <;> rfl) | (simp [*, errW_none, errW_some] <;> rfl), by repeat (first | (with_reducible first | exact HB.out | apply below_alloc | apply pw_below_drewN | apply below_drew1) | exact HB.out)⟩
      · replace c6 := Bool.eq_false_iff.mpr c6
        subst c6
        have H1 : ((partition_Count.f kj2 l0).bind fun t132 => (if 0 ≤ t132 then (if (t132 : Int).toNat ≤ 35184372088832 then (partition_Saturates.l0 kj2 l1 (List.replicate (t132 : Int).toNat 0) l0 (l0.length : Int) 0) else (none)) else (none))) = some r := by rw [if_neg (show ¬ (false = true) by decide)] at H; exact H
        clear H
        have H := H1
        clear H1
        replace H := Option.bind_eq_some_iff.mp H
        obtain ⟨t132, A70, H⟩ := H
        replace H : (if 0 ≤ t132 then (if (t132 : Int).toNat ≤ 35184372088832 then (partition_Saturates.l0 kj2 l1 (List.replicate (t132 : Int).toNat 0) l0 (l0.length : Int) 0) else (none)) else (none)) = some r := H
        have A7 := Aside0.mk A70
        clear A70
        by_cases c8 : 0 ≤ t132
        · rw [if_pos c8] at H
          have c8b0 := eq_true c8
          have c8b1 : decide (0 ≤ t132) = true := decide_eq_true c8
          clear c8
          by_cases c9 : (t132 : Int).toNat ≤ 35184372088832
          · rw [if_pos c9] at H
            have c9b0 := eq_true c9
            have c9b1 : decide ((t132 : Int).toNat ≤ 35184372088832) = true := decide_eq_true c9
            clear c9
            obtain ⟨y133, hy133⟩ : ∃ y_ : List Int, y_ = (List.replicate (t132 : Int).toNat 0) := ⟨_, rfl⟩
            replace H : (partition_Saturates.l0 kj2 l1 y133 l0 (l0.length : Int) 0) = some r := by first | (rw [hy133]; with_reducible exact H) | (have H2_ := (Option.bind_some _ _).symm.trans H; rw [hy133]; with_reducible exact H2_) | (have H2_ := (Option.bind_some _ _).symm.trans H; with_reducible exact H2_) | with_reducible exact H | (rw [hy133]; exact H) | exact H
            have Ny133 := Aside0.mk hy133
            clear hy133
            have H' := Aside0.mk H
            clear H
            go_wp2_with (first | ((with_reducible refine gate_callee (f := 21) rfl ?_); refine goesL_ (some 20) rfl rfl Try.func21 (by kernel_rfl) rfl #[.slice A0 l0.length c0] rfl (by (try simp only [List.map_toArray, List.map_cons, List.map_nil]); first | done | rfl | (simp only [List.length_drop, List.length_take]; rfl)) ?_; (with_reducible refine (partition_Count.calls kj2 _ _ l0 t132 _ ?side1 ?side2 A7.out).mono ?_); (case side1 => repeat (first | exact (Kd.C_below HR0.out HB.out) | (with_reducible refine Kd.C_alloc ?_ _) | (with_reducible refine Kd.C_drewN ?_ _) | (with_reducible refine Kd.C_drew ?_))); (case side2 => exact HC0.out); rintro e w10 ⟨rfl, hb⟩; refine ⟨_, rfl, ?_⟩; have n0_ := Aside0.mk (below_step (by repeat (first | (with_reducible first | exact HB.out | apply below_alloc | apply pw_below_drewN | apply below_drew1) | exact HB.out)) hb); clear HB; have HB := n0_; clear n0_; (try clear hb); (try clear hb2); (try clear hk); (try clear hi)) | ((with_reducible refine gate_dst (N := 21) rfl ?_); (try (refine gate_guard (by rfl) ?_; dsimp only)); refine Kd.R_make (Kd.int .i64) _ 3 rfl (N := 21) rfl 22 _ _ rfl t132 rfl rfl Try.underlying22 (.int .i64 0) 8 info3 rfl (by decide) (by omega) 0 (ok := fun _ => True) (okp := fun _ => True) rfl (fun _ hk => hk) trivial (of_decide_eq_true (by first | (with_reducible assumption) | assumption)) (Nat.le_trans (Nat.mul_le_mul_right _ (of_decide_eq_true (by first | (with_reducible assumption) | assumption) : t132.toNat ≤ 35184372088832)) (by omega)) (Below.refl _ _) (Nat.le_refl _) ?_; intro v134 w11 ho12 hb hg_ hnew_; clear hg_ hnew_; (first | rw [← Ny133.out] at ho12 | (simp only [Int.reduceToNat] at ho12; rw [← Ny133.out] at ho12)); have n0_ := Aside0.mk (Kd.R_lower ho12 (below_size (by repeat (first | (with_reducible first | exact HB.out | apply below_alloc | apply pw_below_drewN | apply below_drew1) | exact HB.out)))); have n1_ := Aside0.mk (below_step (by repeat (first | (with_reducible first | exact HB.out | apply below_alloc | apply pw_below_drewN | apply below_drew1) | exact HB.out)) hb); clear HB; have HO135 := n0_; have HB := n1_; clear n0_ n1_; clear hb ho12))
            go_loopg [24] kj2 (fun kq v24 w' => ∃ (x5_2 : List Int) (x24_2 : Int), v24 = .int .i64 x24_2 ∧ Aside0 (partition_Saturates.l0 kq l1 x5_2 l0 (l0.length : Int) x24_2 = some r) ∧ Aside0 (kq ≤ kj2) ∧ Aside0 (Kd.R (Kd.int .i64) 3 w' w.heap.size (fun _ => True) v134 x5_2) ∧ Aside0 (Below w.heap.size w w'))
            case atStart => exact ⟨(y133), (0), (by first | rfl | (simp; done) | (simp [*]; done)), H', ⟨Nat.le_refl _⟩, ⟨by (with_reducible repeat (first | apply Kd.R_alloc | apply Kd.R_drewN | apply Kd.R_drew)); exact HO135.out⟩, ⟨by repeat (first | (with_reducible first | exact HB.out | apply below_alloc | apply pw_below_drewN | apply below_drew1) | exact HB.out)⟩⟩
            case round =>
              clear H'
              try clear c1
              try clear c2
              try clear p2
              try clear c3
              try clear c5
              try clear c6
              try clear c8
              try clear c8b0
              try clear c8b1
              try clear c9
              try clear c9b0
              try clear c9b1
              try clear p2
              obtain ⟨x5_2, x24_2, rfl, HA, HK2, HO_5, HB⟩ := hrel
              cases gk with
              | zero => exact absurd HA.out (by simp [partition_Saturates.l0])
              | succ k2 =>
                have H := HA.out
                clear HA
                simp only [partition_Saturates.l0] at H
                by_cases c13 : x24_2 < (l0.length : Int)
                · rw [if_pos c13] at H
                  have c13b0 : decide (x24_2 < (l0.length : Int)) = true := decide_eq_true c13
                  clear c13
                  by_cases c14 : 0 ≤ x24_2
                  · rw [if_pos c14] at H
                    have c14b0 : decide (0 ≤ x24_2) = true := decide_eq_true c14
                    clear c14
                    by_cases c15 : x24_2 < (l0.length : Int)
                    · rw [if_pos c15] at H
                      have c15b0 : decide (x24_2 < (l0.length : Int)) = true := decide_eq_true c15
                      clear c15
                      by_cases c16 : x24_2 < (l1.length : Int)
                      · rw [if_pos c16] at H
                        have c16b0 : decide (x24_2 < (l1.length : Int)) = true := decide_eq_true c16
                        clear c16
                        have HC17 := Aside0.mk H
                        clear H
                        have p136 : 0 ≤ (x24_2 : Int) := of_decide_eq_true (by first | (with_reducible assumption) | assumption)
                        have q136 : x24_2 < (l0.length : Int) := of_decide_eq_true (by first | (with_reducible assumption) | assumption)
                        obtain ⟨ad136, e136, hx136_0⟩ := Kd.at_int HR0.out x24_2 p136 q136
                        cases e136
                        (try replace hx136_0 := (HB.out.cell (World.block_lt_of_cell? w _ hx136_0)).trans hx136_0)
                        replace p136 := eq_true p136
                        replace q136 := eq_true q136
                        have p137 : 0 ≤ (x24_2 : Int) := of_decide_eq_true (by first | (with_reducible assumption) | assumption)
                        have q137 : x24_2 < (l1.length : Int) := of_decide_eq_true (by first | (with_reducible assumption) | assumption)
                        obtain ⟨ad137, e137, hx137_0⟩ := Kd.at_bool HR1.out x24_2 p137 q137
                        cases e137
                        (try replace hx137_0 := (HB.out.cell (World.block_lt_of_cell? w _ hx137_0)).trans hx137_0)
                        replace p137 := eq_true p137
                        replace q137 := eq_true q137
                        go_upto_if 32 with (fail)
                        go_cut [8] (fun v8 wc => ∃ (kq : Nat) (x8_16 : Int), v8 = .int .i64 x8_16 ∧ Aside0 (partition_Saturates.j2 kq l1 x5_2 (rd l0 x24_2) x8_16 l0 (l0.length : Int) x24_2 = some r) ∧ Aside0 (kq ≤ k2) ∧ Aside0 (Kd.R (Kd.int .i64) 3 wc w.heap.size (fun _ => True) v134 x5_2) ∧ Aside0 (Below w.heap.size w wc))
                        case first =>
                          have H := HC17.out
                          clear HC17
                          obtain ⟨bq18, hbq18⟩ : ∃ b_ : Bool, b_ = (rdOf false l1 x24_2) := ⟨_, rfl⟩
                          replace H : (if bq18 = true then (partition_Saturates.j2 k2 l1 x5_2 (rd l0 x24_2) 2 l0 (l0.length : Int) x24_2) else (partition_Saturates.j2 k2 l1 x5_2 (rd l0 x24_2) 1 l0 (l0.length : Int) x24_2)) = some r := by rw [← hbq18] at H; exact H
                          have Nbq18 := Aside0.mk hbq18
                          clear hbq18
                          (try rw [← Nbq18.out])
                          by_cases c19 : bq18 = true
                          · subst c19
                            have H1 : (partition_Saturates.j2 k2 l1 x5_2 (rd l0 x24_2) 2 l0 (l0.length : Int) x24_2) = some r := by rw [if_pos rfl] at H; exact H
                            clear H
                            have H := H1
                            clear H1
                            have H' := Aside0.mk H
                            clear H
                            go_wp2
                            go_meet
                            case rel => exact ⟨_, (2), (by first | rfl | (simp; done) | (simp [*]; done)), H', ⟨by have := HJ2.out; have := HK2.out; first | omega | exact Nat.le_refl _⟩, ⟨by (with_reducible repeat (first | apply Kd.R_alloc | apply Kd.R_drewN | apply Kd.R_drew)); exact HO_5.out⟩, ⟨by repeat (first | (with_reducible first | exact HB.out | apply below_alloc | apply pw_below_drewN | apply below_drew1) | exact HB.out)⟩⟩
                          · replace c19 := Bool.eq_false_iff.mpr c19
                            subst c19
                            have H1 : (partition_Saturates.j2 k2 l1 x5_2 (rd l0 x24_2) 1 l0 (l0.length : Int) x24_2) = some r := by rw [if_neg (show ¬ (false = true) by decide)] at H; exact H
                            clear H
                            have H := H1
                            clear H1
                            have H' := Aside0.mk H
                            clear H
                            go_wp2
                            go_meet
                            case rel => exact ⟨_, (1), (by first | rfl | (simp; done) | (simp [*]; done)), H', ⟨by have := HJ2.out; have := HK2.out; first | omega | exact Nat.le_refl _⟩, ⟨by (with_reducible repeat (first | apply Kd.R_alloc | apply Kd.R_drewN | apply Kd.R_drew)); exact HO_5.out⟩, ⟨by repeat (first | (with_reducible first | exact HB.out | apply below_alloc | apply pw_below_drewN | apply below_drew1) | exact HB.out)⟩⟩
                        case rest =>
                          clear HC17
                          try clear c1
                          try clear p1
                          try clear q1
                          try clear hx1
                          try clear c2
                          try clear p2
                          try clear c3
                          try clear c5
                          try clear c6
                          try clear c8
                          try clear c8b0
                          try clear c8b1
                          try clear c9
                          try clear c9b0
                          try clear c9b1
                          try clear c13
                          try clear c13b0
                          try clear p13
                          try clear q13
                          try clear hx13
                          try clear c14
                          try clear c14b0
                          try clear c15
                          try clear c15b0
                          try clear c16
                          try clear c16b0
                          try clear c18
                          try clear q18
                          try clear c19
                          try clear hx136_0
                          try clear hx137_0
                          try clear p136
                          try clear p137
                          try clear p2
                          try clear q136
                          try clear q137
                          obtain ⟨kq, x8_16, rfl, HA, HJ16, HO_5, HB⟩ := hcut
                          cases kq with
                          | zero => exact absurd HA.out (by simp [partition_Saturates.j2])
                          | succ kj16 =>
                            have H := HA.out
                            clear HA
                            simp only [partition_Saturates.j2] at H
                            by_cases c20 : 0 ≤ (rd l0 x24_2)
                            · rw [if_pos c20] at H
                              have c20b0 : decide (0 ≤ (rd l0 x24_2)) = true := decide_eq_true c20
                              clear c20
                              by_cases c21 : (rd l0 x24_2) < (x5_2.length : Int)
                              · rw [if_pos c21] at H
                                have c21b0 : decide ((rd l0 x24_2) < (x5_2.length : Int)) = true := decide_eq_true c21
                                clear c21
                                by_cases c22 : (rd x5_2 (rd l0 x24_2)) = 0
                                · rw [if_pos c22] at H
                                  have c22b0 : ((rd x5_2 (rd l0 x24_2)) == 0) = true := beq_iff_eq.mpr c22
                                  have c22b1 : ((rd x5_2 (rd l0 x24_2)) != 0) = false := bne_eq_false_iff_eq.mpr c22
                                  clear c22
                                  obtain ⟨y139, hy139⟩ : ∃ y_ : List Int, y_ = (x5_2.set ((rd l0 x24_2) : Int).toNat x8_16) := ⟨_, rfl⟩
                                  replace H : (if (rd y139 (rd l0 x24_2)) = x8_16 then (partition_Saturates.l0 kj16 l1 y139 l0 (l0.length : Int) (wrap64 (x24_2 + 1))) else (some false)) = some r := by first | (rw [hy139]; with_reducible exact H) | (have H2_ := (Option.bind_some _ _).symm.trans H; rw [hy139]; with_reducible exact H2_) | (have H2_ := (Option.bind_some _ _).symm.trans H; with_reducible exact H2_) | with_reducible exact H | (rw [hy139]; exact H) | exact H
                                  have Ny139 := Aside0.mk hy139
                                  clear hy139
                                  by_cases c24 : (rd y139 (rd l0 x24_2)) = x8_16
                                  · rw [if_pos c24] at H
                                    have c24b0 : ((rd y139 (rd l0 x24_2)) == x8_16) = true := beq_iff_eq.mpr c24
                                    have c24b1 : ((rd y139 (rd l0 x24_2)) != x8_16) = false := bne_eq_false_iff_eq.mpr c24
                                    clear c24
                                    have H' := Aside0.mk H
                                    clear H
                                    obtain ⟨Ao25, co25, eo25⟩ := Kd.R_slice HO_5.out
                                    subst eo25
                                    have p138 : 0 ≤ ((rd l0 x24_2) : Int) := of_decide_eq_true (by first | (with_reducible assumption) | assumption)
                                    have q138 : (rd l0 x24_2) < (x5_2.length : Int) := of_decide_eq_true (by first | (with_reducible assumption) | assumption)
                                    obtain ⟨ad138, e138, hx138_0⟩ := Kd.at_int (Kd.R_reads' HO_5.out).2.2 (rd l0 x24_2) p138 q138
                                    cases e138
                                    replace p138 := eq_true p138
                                    replace q138 := eq_true q138
                                    have p23 : 0 ≤ ((rd l0 x24_2) : Int) := of_decide_eq_true (by first | (with_reducible assumption) | assumption)
                                    have q23 : ((rd l0 x24_2) : Int) < ((x5_2.length : Int) : Int) := of_decide_eq_true (by first | (with_reducible assumption) | assumption)
                                    obtain ⟨go23, co23, eo23, gb23, gl23, cl23, HG23⟩ := Kd.R_form HO_5.out (by omega)
                                    (first | cases eo23 | (injection eo23 with ea_ en_ ec_; (first | subst ea_ | (injection ea_ with ea_; subst ea_)); subst ec_; clear en_))
                                    have GB23 := Aside0.mk gb23
                                    have GG23 := Aside0.mk HG23
                                    clear gb23 gl23 HG23
                                    (first | simp only [add_plain] at hx138_0 | skip)
                                    obtain ⟨hx23_0, hf23_0⟩ := Kd.R_celln 0 HO_5.out ((rd l0 x24_2) : Int) p23 q23
                                    replace p23 := eq_true p23
                                    replace q23 := eq_true q23
                                    have HP26 := Kd.R_putg HO_5.out ((rd l0 x24_2) : Int) x8_16
                                    go_wp2_with (first | ((with_reducible refine gate_store (t := 3) (p := 41) rfl ?_); refine store_event (t := 3) (p := 41) (v := ?vo_w27) (w1 := (wc.setCell ⟨go23, ((rd l0 x24_2) : Int).toNat, none⟩ (.int .i64 x8_16))) ?hg ?ho ?hn ?hr ?_; (case ho => rfl); (case hg => rfl); (case hn => rfl); (case hr => first | (go_simp; done) | (go_simp; rfl)); intro w27 hw; have hg : wc.grownBy w27 (some go23) := (by rw [hw]; exact HP26.2); have hp_ : Kd.R (Kd.int .i64) 3 w27 w.heap.size (fun _ => True) (.slice (some ⟨go23, 0, none⟩) x5_2.length co25) y139 := (by rw [hw, Ny139.out]; exact HP26.1); clear HP26; have n0_ := Aside0.mk (hp_); have n1_ := Aside0.mk ((by rw [hw]; exact below_set (HB.out) GB23.out : Below w.heap.size w w27)); clear HO_5; clear HB; have HO_5 := n0_; have HB := n1_; clear n0_ n1_; clear hg hw hp_; have p140 : 0 ≤ ((rd l0 x24_2) : Int) := of_decide_eq_true (by first | (with_reducible assumption) | assumption); have q140 : (rd l0 x24_2) < (y139.length : Int) := (by have h_ : ((rd l0 x24_2) : Int) < ((x5_2.length : Int) : Int) := of_decide_eq_true (by first | (with_reducible assumption) | assumption); first | (have e_ := (Kd.R_reads' HO_5.out).1; omega) | simpa only [Ny139.out, List.length_set] using h_); have ql140 : (((rd l0 x24_2) : Int) < ((x5_2.length : Int) : Int)) = True := eq_true (of_decide_eq_true (by first | (with_reducible assumption) | assumption)); obtain ⟨ad140, e140, hx140_0⟩ := Kd.at_int (Kd.R_reads' HO_5.out).2.2 (rd l0 x24_2) p140 q140; obtain rfl : (⟨go23, 0, none⟩ : Addr) = ad140 := (by injection e140); (first | simp only [add_plain] at hx140_0 | simp only [add_at] at hx140_0 | simp only [Addr.add, Nat.zero_add] at hx140_0 | skip); replace p140 := eq_true p140; replace q140 := eq_true q140))
                                    go_roundg kj16
                                    case measure => have := HJ2.out; have := HK2.out; have := HJ16.out; omega
                                    case rel => exact ⟨(y139), (wrap64 (x24_2 + 1)), (by first | rfl | (simp; done) | (simp [*]; done)), H', ⟨by have := HJ2.out; have := HK2.out; have := HJ16.out; omega⟩, ⟨by (with_reducible repeat (first | apply Kd.R_alloc | apply Kd.R_drewN | apply Kd.R_drew)); exact HO_5.out⟩, ⟨by repeat (first | (with_reducible first | exact HB.out | apply below_alloc | apply pw_below_drewN | apply below_drew1) | exact HB.out)⟩⟩
                                  · rw [if_neg c24] at H
                                    have c24b0 : ((rd y139 (rd l0 x24_2)) == x8_16) = false := beq_eq_false_iff_ne.mpr c24
                                    have c24b1 : ((rd y139 (rd l0 x24_2)) != x8_16) = true := bne_iff_ne.mpr c24
                                    obtain rfl := Option.some.inj H
                                    obtain ⟨Ao28, co28, eo28⟩ := Kd.R_slice HO_5.out
                                    subst eo28
                                    have p138 : 0 ≤ ((rd l0 x24_2) : Int) := of_decide_eq_true (by first | (with_reducible assumption) | assumption)
                                    have q138 : (rd l0 x24_2) < (x5_2.length : Int) := of_decide_eq_true (by first | (with_reducible assumption) | assumption)
                                    obtain ⟨ad138, e138, hx138_0⟩ := Kd.at_int (Kd.R_reads' HO_5.out).2.2 (rd l0 x24_2) p138 q138
                                    cases e138
                                    replace p138 := eq_true p138
                                    replace q138 := eq_true q138
                                    have p23 : 0 ≤ ((rd l0 x24_2) : Int) := of_decide_eq_true (by first | (with_reducible assumption) | assumption)
                                    have q23 : ((rd l0 x24_2) : Int) < ((x5_2.length : Int) : Int) := of_decide_eq_true (by first | (with_reducible assumption) | assumption)
                                    obtain ⟨go23, co23, eo23, gb23, gl23, cl23, HG23⟩ := Kd.R_form HO_5.out (by omega)
                                    (first | cases eo23 | (injection eo23 with ea_ en_ ec_; (first | subst ea_ | (injection ea_ with ea_; subst ea_)); subst ec_; clear en_))
                                    have GB23 := Aside0.mk gb23
                                    have GG23 := Aside0.mk HG23
                                    clear gb23 gl23 HG23
                                    (first | simp only [add_plain] at hx138_0 | skip)
                                    obtain ⟨hx23_0, hf23_0⟩ := Kd.R_celln 0 HO_5.out ((rd l0 x24_2) : Int) p23 q23
                                    replace p23 := eq_true p23
                                    replace q23 := eq_true q23
                                    have HP29 := Kd.R_putg HO_5.out ((rd l0 x24_2) : Int) x8_16
                                    go_wp2_with (first | ((with_reducible refine gate_store (t := 3) (p := 41) rfl ?_); refine store_event (t := 3) (p := 41) (v := ?vo_w30) (w1 := (wc.setCell ⟨go23, ((rd l0 x24_2) : Int).toNat, none⟩ (.int .i64 x8_16))) ?hg ?ho ?hn ?hr ?_; (case ho => rfl); (case hg => rfl); (case hn => rfl); (case hr => first | (go_simp; done) | (go_simp; rfl)); intro w30 hw; have hg : wc.grownBy w30 (some go23) := (by rw [hw]; exact HP29.2); have hp_ : Kd.R (Kd.int .i64) 3 w30 w.heap.size (fun _ => True) (.slice (some ⟨go23, 0, none⟩) x5_2.length co28) y139 := (by rw [hw, Ny139.out]; exact HP29.1); clear HP29; have n0_ := Aside0.mk (hp_); have n1_ := Aside0.mk ((by rw [hw]; exact below_set (HB.out) GB23.out : Below w.heap.size w w30)); clear HO_5; clear HB; have HO_5 := n0_; have HB := n1_; clear n0_ n1_; clear hg hw hp_; have p140 : 0 ≤ ((rd l0 x24_2) : Int) := of_decide_eq_true (by first | (with_reducible assumption) | assumption); have q140 : (rd l0 x24_2) < (y139.length : Int) := (by have h_ : ((rd l0 x24_2) : Int) < ((x5_2.length : Int) : Int) := of_decide_eq_true (by first | (with_reducible assumption) | assumption); first | (have e_ := (Kd.R_reads' HO_5.out).1; omega) | simpa only [Ny139.out, List.length_set] using h_); have ql140 : (((rd l0 x24_2) : Int) < ((x5_2.length : Int) : Int)) = True := eq_true (of_decide_eq_true (by first | (with_reducible assumption) | assumption)); obtain ⟨ad140, e140, hx140_0⟩ := Kd.at_int (Kd.R_reads' HO_5.out).2.2 (rd l0 x24_2) p140 q140; obtain rfl : (⟨go23, 0, none⟩ : Addr) = ad140 := (by injection e140); (first | simp only [add_plain] at hx140_0 | simp only [add_at] at hx140_0 | simp only [Addr.add, Nat.zero_add] at hx140_0 | skip); replace p140 := eq_true p140; replace q140 := eq_true q140))
                                    go_ret
                                    exact ⟨by first | rfl | (simp [errW_none, errW_some] <;> rfl) | (simp [*, errW_none, errW_some] <;> rfl), by repeat (first | (with_reducible first | exact HB.out | apply below_alloc | apply pw_below_drewN | apply below_drew1) | exact HB.out)⟩
                                · rw [if_neg c22] at H
                                  have c22b0 : ((rd x5_2 (rd l0 x24_2)) == 0) = false := beq_eq_false_iff_ne.mpr c22
                                  have c22b1 : ((rd x5_2 (rd l0 x24_2)) != 0) = true := bne_iff_ne.mpr c22
                                  by_cases c31 : (rd x5_2 (rd l0 x24_2)) = x8_16
                                  · rw [if_pos c31] at H
                                    have c31b0 : ((rd x5_2 (rd l0 x24_2)) == x8_16) = true := beq_iff_eq.mpr c31
                                    have c31b1 : ((rd x5_2 (rd l0 x24_2)) != x8_16) = false := bne_eq_false_iff_eq.mpr c31
                                    clear c31
                                    have H' := Aside0.mk H
                                    clear H
                                    obtain ⟨Ao32, co32, eo32⟩ := Kd.R_slice HO_5.out
                                    subst eo32
                                    have p138 : 0 ≤ ((rd l0 x24_2) : Int) := of_decide_eq_true (by first | (with_reducible assumption) | assumption)
                                    have q138 : (rd l0 x24_2) < (x5_2.length : Int) := of_decide_eq_true (by first | (with_reducible assumption) | assumption)
                                    obtain ⟨ad138, e138, hx138_0⟩ := Kd.at_int (Kd.R_reads' HO_5.out).2.2 (rd l0 x24_2) p138 q138
                                    cases e138
                                    replace p138 := eq_true p138
                                    replace q138 := eq_true q138
                                    have p141 : 0 ≤ ((rd l0 x24_2) : Int) := of_decide_eq_true (by first | (with_reducible assumption) | assumption)
                                    have q141 : (rd l0 x24_2) < (x5_2.length : Int) := of_decide_eq_true (by first | (with_reducible assumption) | assumption)
                                    obtain ⟨ad141, e141, hx141_0⟩ := Kd.at_int (Kd.R_reads' HO_5.out).2.2 (rd l0 x24_2) p141 q141
                                    obtain rfl : ad138 = ad141 := (by injection e141)
                                    replace p141 := eq_true p141
                                    replace q141 := eq_true q141
                                    go_wp2
                                    go_roundg kj16
                                    case measure => have := HJ2.out; have := HK2.out; have := HJ16.out; omega
                                    case rel => exact ⟨(x5_2), (wrap64 (x24_2 + 1)), (by first | rfl | (simp; done) | (simp [*]; done)), H', ⟨by have := HJ2.out; have := HK2.out; have := HJ16.out; omega⟩, ⟨by (with_reducible repeat (first | apply Kd.R_alloc | apply Kd.R_drewN | apply Kd.R_drew)); exact HO_5.out⟩, ⟨by repeat (first | (with_reducible first | exact HB.out | apply below_alloc | apply pw_below_drewN | apply below_drew1) | exact HB.out)⟩⟩
                                  · rw [if_neg c31] at H
                                    have c31b0 : ((rd x5_2 (rd l0 x24_2)) == x8_16) = false := beq_eq_false_iff_ne.mpr c31
                                    have c31b1 : ((rd x5_2 (rd l0 x24_2)) != x8_16) = true := bne_iff_ne.mpr c31
                                    obtain rfl := Option.some.inj H
                                    obtain ⟨Ao33, co33, eo33⟩ := Kd.R_slice HO_5.out
                                    subst eo33
                                    have p138 : 0 ≤ ((rd l0 x24_2) : Int) := of_decide_eq_true (by first | (with_reducible assumption) | assumption)
                                    have q138 : (rd l0 x24_2) < (x5_2.length : Int) := of_decide_eq_true (by first | (with_reducible assumption) | assumption)
                                    obtain ⟨ad138, e138, hx138_0⟩ := Kd.at_int (Kd.R_reads' HO_5.out).2.2 (rd l0 x24_2) p138 q138
                                    cases e138
                                    replace p138 := eq_true p138
                                    replace q138 := eq_true q138
                                    have p141 : 0 ≤ ((rd l0 x24_2) : Int) := of_decide_eq_true (by first | (with_reducible assumption) | assumption)
                                    have q141 : (rd l0 x24_2) < (x5_2.length : Int) := of_decide_eq_true (by first | (with_reducible assumption) | assumption)
                                    obtain ⟨ad141, e141, hx141_0⟩ := Kd.at_int (Kd.R_reads' HO_5.out).2.2 (rd l0 x24_2) p141 q141
                                    obtain rfl : ad138 = ad141 := (by injection e141)
                                    replace p141 := eq_true p141
                                    replace q141 := eq_true q141
                                    go_wp2
                                    go_ret
                                    exact ⟨by first | rfl | (simp [errW_none, errW_some] <;> rfl) | (simp [*, errW_none, errW_some] <;> rfl), by repeat (first | (with_reducible first | exact HB.out | apply below_alloc | apply pw_below_drewN | apply below_drew1) | exact HB.out)⟩
                              · rw [if_neg c21] at H
                                exact absurd H (by simp)
                            · rw [if_neg c20] at H
                              exact absurd H (by simp)
                      · rw [if_neg c16] at H
                        exact absurd H (by simp)
                    · rw [if_neg c15] at H
                      exact absurd H (by simp)
                  · rw [if_neg c14] at H
                    exact absurd H (by simp)
                · rw [if_neg c13] at H
                  have c13b0 : decide (x24_2 < (l0.length : Int)) = false := decide_eq_false c13
                  clear c13
                  obtain rfl := Option.some.inj H
                  go_wp2
                  go_ret
                  exact ⟨by first | rfl | (simp [errW_none, errW_some] <;> rfl) | (simp [*, errW_none, errW_some] <;> rfl), by repeat (first | (with_reducible first | exact HB.out | apply below_alloc | apply pw_below_drewN | apply below_drew1) | exact HB.out)⟩
          · rw [if_neg c9] at H
            exact absurd H (by simp)
        · rw [if_neg c8] at H
          exact absurd H (by simp)

end Go.Proofs.Ytjpghckijecdcaa.PPartitionSaturates
